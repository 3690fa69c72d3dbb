/- What the claim rests on, part 5: the abstract machine, contracts of the functions, plain data. -/
import Derived.Test.YtblgchkahpgdjaaGreatProg
import Derived.Test.YtblgchkahpgdjaaGreatZs4
set_option linter.unusedVariables false
set_option linter.defProp false
set_option linter.unusedSimpArgs false
set_option linter.unusedSectionVars false
namespace Go.Proofs.YtblgchkahpgdjaaGreat
open Go.AM Go.Proofs.Tryz
namespace Ty
theorem Pa:Tryz.prog.follows .mixedOrders=true:=by kernel_rfl
theorem UP:Ad prog 10=true:=by kernel_rfl
theorem fQ:Ad prog 11=true:=by kernel_rfl
theorem RS:Ad prog 12=true:=by kernel_rfl
theorem fR:Ad prog 16=true:=by kernel_rfl
theorem Pb:Ad prog 17=true:=by kernel_rfl
theorem Nr:Ad prog 19=true:=by kernel_rfl
theorem fS:Ad prog 21=true:=by kernel_rfl
theorem Ln:Ad prog 22=true:=by kernel_rfl
theorem fT:Ad prog 26=true:=by kernel_rfl
theorem UQ:Ad prog 28=true:=by kernel_rfl
theorem UR:Ad prog 27=true:=by kernel_rfl
theorem fU:Ad prog 31=true:=by kernel_rfl
theorem Pc:Ad prog 36=true:=by kernel_rfl
theorem RT:Ad prog 38=true:=by kernel_rfl
theorem US:Ad prog 40=true:=by kernel_rfl
theorem RU:Ad prog 41=true:=by kernel_rfl
theorem UT:Ad prog 39=true:=by kernel_rfl
theorem UU:Ad prog 43=true:=by kernel_rfl
theorem UV:Ad prog 42=true:=by kernel_rfl
theorem UW:Ad prog 44=true:=by kernel_rfl
theorem RV:Ad prog 45=true:=by kernel_rfl
theorem RW:Ad prog 46=true:=by kernel_rfl
theorem UX:Ad prog 47=true:=by kernel_rfl
theorem fV:Ad prog 50=true:=by kernel_rfl
theorem RX:Ad prog 51=true:=by kernel_rfl
theorem Hi:Ad prog 53=true:=by kernel_rfl
theorem RZ:Ad prog 58=true:=by kernel_rfl
theorem Lo:Ad prog 59=true:=by kernel_rfl
theorem UY:Ad prog 60=true:=by kernel_rfl
theorem Kp:Ad prog 61=true:=by kernel_rfl
theorem fW:Ad prog 69=true:=by kernel_rfl
theorem UZ:Ad prog 71=true:=by kernel_rfl
theorem Ua:Ad prog 72=true:=by kernel_rfl
theorem Ub:Ad prog 73=true:=by kernel_rfl
theorem Uc:Ad prog 75=true:=by kernel_rfl
theorem fY:Ad prog 90=true:=by kernel_rfl
theorem fZ:Ad prog 92=true:=by kernel_rfl
theorem fb:Ad prog 94=true:=by kernel_rfl
theorem Pd:Ad prog 95=true:=by kernel_rfl
theorem Ud:Ad prog 96=true:=by kernel_rfl
theorem Ue:Ad prog 97=true:=by kernel_rfl
theorem Uf:Ad prog 99=true:=by kernel_rfl
theorem fg:Ad prog 98=true:=by kernel_rfl
theorem Ug:Ad prog 100=true:=by kernel_rfl
theorem GO:Ad prog 101=true:=by kernel_rfl
theorem Uh:Ad prog 107=true:=by kernel_rfl
theorem Pe:Ad prog 109=true:=by kernel_rfl
theorem Ns:Ad prog 110=true:=by kernel_rfl
theorem Pf:Ad prog 111=true:=by kernel_rfl
theorem Nt:Ad prog 112=true:=by kernel_rfl
theorem Pg:Ad prog 113=true:=by kernel_rfl
theorem Ph:Ad prog 114=true:=by kernel_rfl
theorem fh:Ad prog 116=true:=by kernel_rfl
theorem fi:Ad prog 117=true:=by kernel_rfl
theorem Ui:Ad prog 118=true:=by kernel_rfl
theorem Pi:Ad prog 119=true:=by kernel_rfl
theorem Lp:Ad prog 120=true:=by kernel_rfl
theorem Uj:Ad prog 121=true:=by kernel_rfl
theorem Ul:Ad prog 122=true:=by kernel_rfl
theorem Um:Ad prog 127=true:=by kernel_rfl
theorem fj:Ad prog 88=true:=by kernel_rfl
theorem fm:Ad prog 132=true:=by kernel_rfl
theorem fp:Ad prog 133=true:=by kernel_rfl
theorem fq:Ad prog 134=true:=by kernel_rfl
theorem fu:Ad prog 135=true:=by kernel_rfl
theorem Un:Ad prog 136=true:=by kernel_rfl
theorem fw:Ad prog 137=true:=by kernel_rfl
theorem Uo:Ad prog 138=true:=by kernel_rfl
theorem Up:Ad prog 140=true:=by kernel_rfl
theorem Ra:Ad prog 141=true:=by kernel_rfl
theorem Pj:Ad prog 142=true:=by kernel_rfl
theorem fx:Ad prog 143=true:=by kernel_rfl
theorem Uq:Ad prog 144=true:=by kernel_rfl
theorem fy:Ad prog 145=true:=by kernel_rfl
theorem Rb:Ad prog 146=true:=by kernel_rfl
theorem Nu:Ad prog 147=true:=by kernel_rfl
theorem Nv:Ad prog 148=true:=by kernel_rfl
theorem Lq:Ad prog 149=true:=by kernel_rfl
theorem Lr:Ad prog 150=true:=by kernel_rfl
theorem Ur:Ad prog 151=true:=by kernel_rfl
theorem Us:Ad prog 152=true:=by kernel_rfl
theorem Nw:Ad prog 153=true:=by kernel_rfl
theorem Ut:Ad prog 154=true:=by kernel_rfl
theorem Rc:Ad prog 155=true:=by kernel_rfl
theorem Uu:Ad prog 156=true:=by kernel_rfl
theorem Rd:Ad prog 161=true:=by kernel_rfl
theorem Ls:Ad prog 162=true:=by kernel_rfl
theorem Uv:Ad prog 163=true:=by kernel_rfl
theorem gA:Ad prog 164=true:=by kernel_rfl
theorem gB:Ad prog 165=true:=by kernel_rfl
theorem Re:Ad prog 166=true:=by kernel_rfl
theorem Pk:Ad prog 167=true:=by kernel_rfl
theorem Kq:Ad prog 168=true:=by kernel_rfl
theorem Uw:Ad prog 169=true:=by kernel_rfl
theorem Pl:Ad prog 173=true:=by kernel_rfl
theorem Ux:Ad prog 174=true:=by kernel_rfl
theorem Uy:Ad prog 175=true:=by kernel_rfl
theorem gC:Ad prog 176=true:=by kernel_rfl
theorem Uz:Ad prog 177=true:=by kernel_rfl
theorem Is:Ad prog 178=true:=by kernel_rfl
theorem Pn:Ad prog 179=true:=by kernel_rfl
theorem V0:Ad prog 180=true:=by kernel_rfl
theorem JM:Ad prog 181=true:=by kernel_rfl
theorem V1:Ad prog 182=true:=by kernel_rfl
theorem V3:Ad prog 183=true:=by kernel_rfl
theorem V4:Ad prog 186=true:=by kernel_rfl
theorem gD:Ad prog 187=true:=by kernel_rfl
theorem V5:Ad prog 191=true:=by kernel_rfl
theorem V6:Ad prog 189=true:=by kernel_rfl
theorem gE:Ad prog 201=true:=by kernel_rfl
theorem Mk:Ad prog 8=true:=by kernel_rfl
theorem gF:Ad prog 68=true:=by kernel_rfl
theorem gG:Ad prog 70=true:=by kernel_rfl
theorem gH:Ad prog 74=true:=by kernel_rfl
theorem gI:Ad prog 76=true:=by kernel_rfl
theorem gJ:Ad prog 87=true:=by kernel_rfl
theorem Rf:Ad prog 89=true:=by kernel_rfl
theorem gK:Ad prog 91=true:=by kernel_rfl
theorem gM:Ad prog 93=true:=by kernel_rfl
theorem gN:Ad prog 128=true:=by kernel_rfl
theorem gO:Ad prog 139=true:=by kernel_rfl
theorem gP:Ad prog 188=true:=by kernel_rfl
theorem gQ:Ad prog 192=true:=by kernel_rfl
set_option maxRecDepth 20000
theorem V7{p:Program}(h:p=prog):CU p 28=some 7/\Cg p 28=true/\DN p 33=some [.int .i64 0,.int .i64 0,.int .i64 0,.int .i64 0,.string ⟨#[]⟩,.slice none 0 0]/\CU p 33=some 6/\Cg p 33=true/\kT p 33=8/\Ft p 33=some [(0,1),(1,1),(2,1),(3,1),(4,1),(5,1)]/\kT p 35=7/\kT p 3=2/\DN p 28=some [.string ⟨#[]⟩,.slice none 0 0,.slice none 0 0,.slice none 0 0,.slice none 0 0,.slice none 0 0,.slice none 0 0]/\BV p 28 0=some (0,1,false)/\CU p 9=some 1/\Cg p 9=false/\kT p 9=3/\kT p 60=5/\DZ p 31=some (6,72)/\GK p 31=some [.int .i64 0,.int .i64 0,.int .i64 0,.int .i64 0,.string ⟨#[]⟩,.slice none 0 0]/\DZ p 60=some (7,152)/\BV p 68 0=some (0,1,false)/\CU p 22=some 1/\Cg p 22=false/\kT p 22=5/\DZ p 22=some (2,32)/\GK p 22=some [.string ⟨#[]⟩,.string ⟨#[]⟩]/\BV p 68 1=some (1,6,true)/\CU p 67=some 6/\Cg p 67=true/\DZ p 63=some (6,128)/\GK p 63=some [.string ⟨#[]⟩,.string ⟨#[]⟩,.slice none 0 0,.slice none 0 0,.slice none 0 0,.slice none 0 0]/\kT p 63=5/\kT p 67=8/\DN p 67=some [.string ⟨#[]⟩,.string ⟨#[]⟩,.slice none 0 0,.slice none 0 0,.slice none 0 0,.slice none 0 0]/\Ft p 67=some [(0,1),(1,1),(2,1),(3,1),(4,1),(5,1)]/\DZ p 64=some (1,16)/\GK p 64=some [.string ⟨#[]⟩]/\kT p 77=8/\DN p 77=some [.int .i64 0,.slice none 0 0,.string ⟨#[]⟩,.string ⟨#[]⟩,.slice none 0 0,.slice none 0 0,.slice none 0 0,.slice none 0 0,.string ⟨#[]⟩,.slice none 0 0,.string ⟨#[]⟩,.string ⟨#[]⟩,.int .i64 0,.slice none 0 0,.slice none 0 0]/\Ft p 77=some [(0,1),(1,1),(2,6),(8,1),(9,1),(10,5)]/\CU p 77=some 15/\Cg p 77=true/\BV p 77 2=some (2,6,true)/\DZ p 43=some (15,288)/\GK p 43=some [.int .i64 0,.slice none 0 0,.string ⟨#[]⟩,.string ⟨#[]⟩,.slice none 0 0,.slice none 0 0,.slice none 0 0,.slice none 0 0,.string ⟨#[]⟩,.slice none 0 0,.string ⟨#[]⟩,.string ⟨#[]⟩,.int .i64 0,.slice none 0 0,.slice none 0 0]/\BV p 33 5=some (5,1,false)/\CU p 31=some 1/\Cg p 31=false/\kT p 31=5/\BV p 28 1=some (1,1,false)/\BV p 28 2=some (2,1,false)/\BV p 28 3=some (3,1,false)/\CU p 23=some 1/\Cg p 23=false/\kT p 23=5/\BV p 28 4=some (4,1,false)/\CU p 24=some 1/\Cg p 24=false/\kT p 24=5/\BV p 28 5=some (5,1,false)/\CU p 25=some 1/\Cg p 25=false/\kT p 25=5/\DZ p 25=some (10,200)/\BV p 83 3=some (3,6,true)/\BV p 83 4=some (9,1,false)/\CU p 43=some 1/\Cg p 43=false/\BV p 28 6=some (6,1,false)/\CU p 26=some 1/\Cg p 26=false/\kT p 26=5/\DZ p 26=some (23,480)/\CU p 85=some 23/\Cg p 85=true/\DN p 85=some [.string ⟨#[]⟩,.slice none 0 0,.int .i64 0,.string ⟨#[]⟩,.string ⟨#[]⟩,.slice none 0 0,.slice none 0 0,.slice none 0 0,.slice none 0 0,.string ⟨#[]⟩,.string ⟨#[]⟩,.slice none 0 0,.slice none 0 0,.slice none 0 0,.slice none 0 0,.string ⟨#[]⟩,.string ⟨#[]⟩,.slice none 0 0,.slice none 0 0,.slice none 0 0,.slice none 0 0,.slice none 0 0,.slice none 0 0]/\BV p 85 3=some (3,6,true)/\BV p 85 4=some (9,6,true)/\BV p 85 5=some (15,6,true)/\BV p 85 6=some (21,1,false)/\BV p 85 7=some (22,1,false)/\BV p 83 2=some (2,1,false)/\CU p 3=some 1/\Cg p 3=false/\kT p 43=5/\BV p 77 0=some (0,1,false)/\kT p 89=8/\DN p 89=some [.bool false]/\Ft p 89=some [(0,1)]/\DZ p 23=some (2,40)/\CU p 94=some 2/\Cg p 94=true/\DN p 94=some [.string ⟨#[]⟩,.slice none 0 0]/\BV p 94 0=some (0,1,false)/\BV p 94 1=some (1,1,false)/\DZ p 24=some (4,56)/\CU p 96=some 4/\Cg p 96=true/\DN p 96=some [.string ⟨#[]⟩,.slice none 0 0,.int .i64 0,.int .i64 0]/\BV p 96 0=some (0,1,false)/\BV p 96 1=some (1,1,false)/\BV p 96 2=some (2,1,false)/\BV p 96 3=some (3,1,false)/\CU p 83=some 10/\Cg p 83=true/\DN p 83=some [.string ⟨#[]⟩,.slice none 0 0,.int .i64 0,.string ⟨#[]⟩,.string ⟨#[]⟩,.slice none 0 0,.slice none 0 0,.slice none 0 0,.slice none 0 0,.slice none 0 0]/\BV p 89 0=some (0,1,false)/\CU p 4=some 1/\Cg p 4=false/\kT p 42=2/\BV p 33 0=some (0,1,false)/\BV p 33 1=some (1,1,false)/\BV p 33 4=some (4,1,false)/\BV p 33 2=some (2,1,false)/\BV p 33 3=some (3,1,false)/\BV p 77 1=some (1,1,false)/\BV p 77 4=some (9,1,false)/\CU p 64=some 1/\Cg p 64=false/\kT p 64=5/\BV p 77 5=some (10,5,true)/\CU p 75=some 5/\Cg p 75=true/\kT p 103=8/\DN p 103=some [.slice none 0 0,.slice none 0 0]/\Ft p 103=some [(0,1),(1,1)]/\BV p 77 3=some (8,1,false)/\kT p 28=8/\Ft p 28=some [(0,1),(1,1),(2,1),(3,1),(4,1),(5,1),(6,1)]/\Jn p 110=some (3,(.bool false))/\kT p 5=2/\LV p 42=some (.int .i64 0)/\BV p 123 0=some (0,1,false)/\BV p 123 1=some (1,1,false)/\BV p 67 4=some (4,1,false)/\CU p 65=some 1/\Cg p 65=false/\kT p 65=5/\DZ p 65=some (5,88)/\BV p 67 5=some (5,1,false)/\CU p 63=some 1/\Cg p 63=false/\BV p 67 0=some (0,1,false)/\BV p 67 1=some (1,1,false)/\BV p 67 2=some (2,1,false)/\BV p 67 3=some (3,1,false)/\DN p 50=some [.nilFunc]/\CU p 50=some 1/\Cg p 50=false/\CU p 123=some 2/\Cg p 123=true/\DN p 123=some [.string ⟨#[]⟩,.string ⟨#[]⟩]/\BV p 83 0=some (0,1,false)/\BV p 83 1=some (1,1,false)/\BV p 85 0=some (0,1,false)/\BV p 85 1=some (1,1,false)/\BV p 85 2=some (2,1,false)/\DN p 3=some [.int .i64 0]/\BV p 75 4=some (4,1,false)/\kT p 75=8/\DN p 75=some [.string ⟨#[]⟩,.string ⟨#[]⟩,.int .i64 0,.slice none 0 0,.slice none 0 0]/\Ft p 75=some [(0,1),(1,1),(2,1),(3,1),(4,1)]/\CU p 103=some 2/\Cg p 103=true/\kT p 123=8/\NU p 123=some 2/\BV p 75 0=some (0,1,false)/\BV p 75 1=some (1,1,false)/\BV p 75 2=some (2,1,false)/\BV p 75 3=some (3,1,false)/\GK p 23=some [.string ⟨#[]⟩,.slice none 0 0]/\GK p 24=some [.string ⟨#[]⟩,.slice none 0 0,.int .i64 0,.int .i64 0]/\GK p 25=some [.string ⟨#[]⟩,.slice none 0 0,.int .i64 0,.string ⟨#[]⟩,.string ⟨#[]⟩,.slice none 0 0,.slice none 0 0,.slice none 0 0,.slice none 0 0,.slice none 0 0]/\GK p 26=some [.string ⟨#[]⟩,.slice none 0 0,.int .i64 0,.string ⟨#[]⟩,.string ⟨#[]⟩,.slice none 0 0,.slice none 0 0,.slice none 0 0,.slice none 0 0,.string ⟨#[]⟩,.string ⟨#[]⟩,.slice none 0 0,.slice none 0 0,.slice none 0 0,.slice none 0 0,.string ⟨#[]⟩,.string ⟨#[]⟩,.slice none 0 0,.slice none 0 0,.slice none 0 0,.slice none 0 0,.slice none 0 0,.slice none 0 0]/\kT p 94=8/\Ft p 94=some [(0,1),(1,1)]/\kT p 96=8/\Ft p 96=some [(0,1),(1,1),(2,1),(3,1)]/\DN p 172=some [.string ⟨#[]⟩,.slice none 0 0,.int .i64 0,.slice none 0 0,.slice none 0 0]/\CU p 172=some 5/\Cg p 172=true/\BV p 172 0=some (0,1,false)/\BV p 172 1=some (1,1,false)/\BV p 172 2=some (2,1,false)/\BV p 172 3=some (3,1,false)/\BV p 172 4=some (4,1,false)/\CU p 170=some 1/\Cg p 170=false/\kT p 170=5/\DZ p 170=some (1,24)/\kT p 83=8/\Ft p 83=some [(0,1),(1,1),(2,1),(3,6),(9,1)]/\kT p 85=8/\Ft p 85=some [(0,1),(1,1),(2,1),(3,6),(9,6),(15,6),(21,1),(22,1)]/\BV p 103 1=some (1,1,false)/\BV p 103 0=some (0,1,false)/\Ft p 123=some [(0,1),(1,1)]/\GK p 170=some [.slice none 0 0]/\kT p 172=8/\Ft p 172=some [(0,1),(1,1),(2,1),(3,1),(4,1)]/\JG p 9=none/\JG p 201=none/\kT p 201=5/\LZ p 201=true/\DZ p 201=some (1,1)/\CU p 5=some 1/\Cg p 5=false/\GK p 65=some [.string ⟨#[]⟩,.string ⟨#[]⟩,.int .i64 0,.slice none 0 0,.slice none 0 0]/\kT p 211=8/\DN p 211=some [.int .i64 0]/\Ft p 211=some [(0,1)]/\kT p 222=8/\DN p 222=some [.slice none 0 0,.slice none 0 0]/\Ft p 222=some [(0,1),(1,1)]/\CU p 222=some 2/\Cg p 222=true/\BV p 211 0=some (0,1,false)/\BV p 222 1=some (1,1,false)/\BV p 222 0=some (0,1,false):=by
 subst h
 (repeat' apply And.intro)<;>kernel_rfl
theorem AW:type_of% (V7 rfl):=V7 rfl
def w:=uu @w0 @AW
end Ty
section
variable {P:Program}{ow:Nat->Bool}{wf:FuncId->Bool}{n:Nat}{Q:BW}{s:AD}{h:A1}{f q:Prop}
theorem zI:Nonempty Unit:=⟨()⟩
theorem yT:(!true)=false:=rfl
theorem yF:(!false)=true:=rfl
theorem uR{id:Nat}{ops:List Oper}{K:AD->A1->Prop}(W:f)(k:q)(e:f->q->E7 P ow n ops ops K s h:=by(first|(intro W k;simp only[Ty.w,simprocAttr,B8,Bl,List.nil_append,Bs,W];exact k)|(refine λW (_:Nonempty Unit)=>?_;simp only[Ty.w,simprocAttr,B8,Bl,List.nil_append,Bs,W]))):Aq P ow wf n (.region id ops.toArray false) (BW.seq K Q) s h:=Bn (e W k)
theorem uQ{id:Nat}{ops:List Oper}{q:(AD->A1->Prop)->Prop}(W:f)(k: ∀ K:AD->A1->Prop,(∀ s h,Q .normal s h->K s h)->q K)(e: ∀ K:AD->A1->Prop,f->q K->E7 P ow n ops ops K s h:=by(intro K;first|(intro W k;simp only[Ty.w,simprocAttr,B8,Bl,List.nil_append,Bs,W];exact k)|(refine λW (_:Nonempty Unit)=>?_;simp only[Ty.w,simprocAttr,B8,Bl,List.nil_append,Bs,W]))):Aq P ow wf n (.region id ops.toArray false) Q s h:=FN λK hK=>e K W (k K hK)
theorem uD{id:Nat}{ops:List Oper}{K:AD->A1->Prop}(W:f)(k:q)(hd:Jr ow wf ops=true:=by decide+kernel)(e:f->q->FA P ow wf n ops 0 ops [] [] K s h:=by(first|(intro W k;simp only[Ty.w,simprocAttr,B8,Bl,List.nil_append,Bs,W];exact k)|(refine λW (_:Nonempty Unit)=>?_;simp only[Ty.w,simprocAttr,B8,Bl,List.nil_append,Bs,W]))):Aq P ow wf n (.region id ops.toArray true) (BW.seq K Q) s h:=Lj hd (e W k)
theorem uE{id:Nat}{ops:List Oper}{q:(AD->A1->Prop)->Prop}(W:f)(k: ∀ K:AD->A1->Prop,(∀ s h,Q .normal s h->K s h)->q K)(hd:Jr ow wf ops=true:=by decide+kernel)(e: ∀ K:AD->A1->Prop,f->q K->FA P ow wf n ops 0 ops [] [] K s h:=by(intro K;first|(intro W k;simp only[Ty.w,simprocAttr,B8,Bl,List.nil_append,Bs,W];exact k)|(refine λW (_:Nonempty Unit)=>?_;simp only[Ty.w,simprocAttr,B8,Bl,List.nil_append,Bs,W]))):Aq P ow wf n (.region id ops.toArray true) Q s h:=UM hd λK hK=>e K W (k K hK)
theorem uT(W:f)(k:q)(e:f->q->Q .ret s h:=by(first|(intro W k;simp only[Ty.w,simprocAttr,B8,Bl,List.nil_append,Bs,W];exact k)|(refine λW (_:Nonempty Unit)=>?_;simp only[Ty.w,simprocAttr,B8,Bl,List.nil_append,Bs,W]))):Aq P ow wf n .ret Q s h:=Ej (e W k)
theorem uK(k:q)(e:q->Q .normal s h:=by(first|(intro k;(try simp only[Au,simprocAttr]);exact k)|(refine λ(_:Nonempty Unit)=>?_;simp only[Au,simprocAttr]))):Aq P ow wf n .skip Q s h:=Gh (e k)
theorem uX{id:Nat}(k:q)(e:q->Q (.exit id) s h:=by(first|(intro k;(try simp only[Au,simprocAttr]);exact k)|(refine λ(_:Nonempty Unit)=>?_;simp only[Au,simprocAttr]))):Aq P ow wf n (.exit id) Q s h:=ah (e k)
theorem uN{K R:AD->A1->Prop}(hK: ∀ s h,R s h->K s h)(k:q)(e:q->R s h:=by(first|(intro k;(try simp only[Au,simprocAttr]);exact k)|(refine λ(_:Nonempty Unit)=>?_;simp only[Au,simprocAttr]))):K s h:=hK _ _ (e k)
theorem C2{c:Operand}{x y:Code}{b:Bool}(W:f)(k:q)(e:f->AB s c= .sc (.bool b):=by(intro W;(try simp only[Ty.w,simprocAttr,B8,Bl,List.nil_append,Bs,W]);rfl))(e2:q->Aq P ow wf n (bif b then x else y) Q s h:=by(intro k;(first|rw[AC]|rw[AL]);exact k)):Aq P ow wf n (.cond c x y) Q s h:=EX b (e W) (λhb=>by have:=e2 k;rw[hb,AC]at this;exact this) (λhb=>by have:=e2 k;rw[hb,AL]at this;exact this)
theorem uP{α:Type}{A:Nat × α->Prop}{ops:List Oper}{kk:Nat}{R:Prop}{l:List (Nat × α)}{is:List Nat}(W:f)(k:q)(h1:l.map (·.1)=is:=by rfl)(h2:is.all (λi=>pre ops i kk)=true:=by decide+kernel)(e:f->q->R:=by(first|(intro W k;(try simp only[Ty.w,simprocAttr,B8,Bl,List.nil_append,Bs,W]);exact k)|(refine λW (_:Nonempty Unit)=>?_;simp only[Ty.w,simprocAttr,B8,Bl,List.nil_append,Bs,W]))):(∀ x∈l,pre ops x.1 kk=true\/A x)/\R:=eN is h1 h2 (e W k)
theorem uB{α:Type}{A:Nat × α->Prop}{ops:List Oper}{kk:Nat}{R:Prop}{l:List (Nat × α)}(W:f)(k:q)(h1:f-> ∀ x∈l,pre ops x.1 kk=true\/A x:=by(intro W;simp only[List.forall_mem_cons,Ty.w,simprocAttr,W]<;>(repeat' apply And.intro)<;>first|exact .inl (by decide+kernel)|exact True.intro))(e:f->q->R:=by(first|(intro W k;(try simp only[Ty.w,simprocAttr,B8,Bl,List.nil_append,Bs,W]);exact k)|(refine λW (_:Nonempty Unit)=>?_;simp only[Ty.w,simprocAttr,B8,Bl,List.nil_append,Bs,W]))):(∀ x∈l,pre ops x.1 kk=true\/A x)/\R:=Nm (h1 W) (e W k)
theorem uU{fn:FuncId}{dst:Option Tmp}{args:List Operand}{ts:Array TypeId}{ty:TypeId}{pos:String}{af:Array Edge}{gd:Option (Nat × Bool)}{ag:List PV}{v:PV}{K:AD->A1->Prop}{ops rest:List Oper}(W:f)(hc:A6 P fn ag h λr h'=>r=v/\h'=h)(k:q)(ha:f->args.map (AB s)=ag:=by(intro W;(try simp only[Ty.w,simprocAttr,W]);try rfl))(e:f->q->E7 P ow n ops rest K (Ai s dst v) h:=by(first|(intro W k;simp only[Ty.w,simprocAttr,B8,Bl,List.nil_append,Bs,W];exact k)|(refine λW (_:Nonempty Unit)=>?_;simp only[Ty.w,simprocAttr,B8,Bl,List.nil_append,Bs,W]))):
  CY P ow {dst:=dst,op:= .call {callee:= .value (.func fn),args:=args.toArray,argTypes:=ts},type:=ty,pos:=pos,after:=af,guard:=gd} (Ei P ow n ops rest K) s h:=Gu hc (ha W) (e W k)
theorem uV{fn:FuncId}{d:Nat}{args:List Operand}{ts:Array TypeId}{ty:TypeId}{pos:String}{af:Array Edge}{gd:Option (Nat × Bool)}{ag:List PV}{v:PV}{ops rest:List Oper}{kk k':Nat}{past:Gi}{hist:List (Nat × A1)}{K:AD->A1->Prop}(W:f)(hc:A6 P fn ag h λr h'=>r=v/\h'=h)(k:q)(ha:f->args.map (AB s)=ag:=by(intro W;(try simp only[Ty.w,simprocAttr,W]);try rfl))
  (e:f->q->FA P ow wf n ops kk rest ((k',{dst:=some d,op:= .call {callee:= .value (.func fn),args:=args.toArray,argTypes:=ts},type:=ty,pos:=pos,after:=af,guard:=gd},s,v)::past) hist K (Cf s d v) h:=by(first|(intro W k;simp only[Ty.w,simprocAttr,B8,Bl,List.nil_append,Bs,W];exact k)|(refine λW (_:Nonempty Unit)=>?_;simp only[Ty.w,simprocAttr,B8,Bl,List.nil_append,Bs,W]))):
  ∃ v,Ar P ow {dst:=some d,op:= .call {callee:= .value (.func fn),args:=args.toArray,argTypes:=ts},type:=ty,pos:=pos,after:=af,guard:=gd} (AB s) h v h/\
   EG P ow wf n ops kk rest (Df P ow ((k',{dst:=some d,op:= .call {callee:= .value (.func fn),args:=args.toArray,argTypes:=ts},type:=ty,pos:=pos,after:=af,guard:=gd},s,v)::past)) hist K (Cf s d v) h:=Mh hc (ha W) (e W k)
theorem uA{fn:FuncId}{d:Nat}{args:List Operand}{ts:Array TypeId}{ty:TypeId}{pos:String}{af:Array Edge}{gd:Option (Nat × Bool)}{ag:List PV}{v:PV}{ops rest:List Oper}{kk k':Nat}{past:Gi}{hist:List (Nat × A1)}{K:AD->A1->Prop}{A:PV->Prop}(W:f)(hc:A6 P fn ag h λr h'=>r=v/\h'=h)(k:q)(ha:f->args.map (AB s)=ag:=by(intro W;(try simp only[Ty.w,simprocAttr,W]);try rfl))(hA:f->A v:=by(intro W;simp only[Ty.w,simprocAttr,W];try trivial))
  (e:f->q->FA P ow wf n ops kk rest ((k',{dst:=some d,op:= .call {callee:= .value (.func fn),args:=args.toArray,argTypes:=ts},type:=ty,pos:=pos,after:=af,guard:=gd},s,v)::past) hist K (Cf s d v) h:=by(first|(intro W k;simp only[Ty.w,simprocAttr,B8,Bl,List.nil_append,Bs,W];exact k)|(refine λW (_:Nonempty Unit)=>?_;simp only[Ty.w,simprocAttr,B8,Bl,List.nil_append,Bs,W]))):
  ∃ v,Ar P ow {dst:=some d,op:= .call {callee:= .value (.func fn),args:=args.toArray,argTypes:=ts},type:=ty,pos:=pos,after:=af,guard:=gd} (AB s) h v h/\A v/\
   EG P ow wf n ops kk rest (Df P ow ((k',{dst:=some d,op:= .call {callee:= .value (.func fn),args:=args.toArray,argTypes:=ts},type:=ty,pos:=pos,after:=af,guard:=gd},s,v)::past)) hist K (Cf s d v) h:=Ip hc (ha W) (hA W) (e W k)
theorem uZ{fn:FuncId}{d:Nat}{args:List Operand}{ts:Array TypeId}{ty:TypeId}{pos:String}{af:Array Edge}{gd:Option (Nat × Bool)}{ag:List PV}{v:PV}{h1:A1}{ops rest:List Oper}{kk:Nat}{past:Gi}{hist:List (Nat × A1)}{K:AD->A1->Prop}{A:A1->Prop}(W:f)(hc:A6 P fn ag h λr h'=>r=v/\h'=h1)(k:q)(ha:f->args.map (AB s)=ag:=by(intro W;(try simp only[Ty.w,simprocAttr,W]);try rfl))(hA:f->A h1:=by(intro W;(try simp(maxSteps:=4000000) only[Ty.w,simprocAttr,Df,List.map_cons,List.map_nil,List.forall_mem_cons,W])<;>((repeat' apply And.intro)<;>first|trivial|exact .inl (by decide+kernel)|exact .inr A5|exact .inr (by simp only[Ty.w,simprocAttr,W])|exact(λ_ hx=>by cases hx))))
  (e:f->q->FA P ow wf n ops kk rest past hist K (Cf s d v) h1:=by(first|(intro W k;simp only[Ty.w,simprocAttr,B8,Bl,List.nil_append,Bs,W];exact k)|(refine λW (_:Nonempty Unit)=>?_;simp only[Ty.w,simprocAttr,B8,Bl,List.nil_append,Bs,W]))):
  ∃ v h',Ar P ow {dst:=some d,op:= .call {callee:= .value (.func fn),args:=args.toArray,argTypes:=ts},type:=ty,pos:=pos,after:=af,guard:=gd} (AB s) h v h'/\A h'/\
   EG P ow wf n ops kk rest (Df P ow past) hist K (Cf s d v) h':=Lk hc (ha W) (hA W) (e W k)
theorem uJ{fn:FuncId}{d:Nat}{args:List Operand}{ts:Array TypeId}{ty:TypeId}{pos:String}{af:Array Edge}{gd:Option (Nat × Bool)}{ag:List PV}{v:PV}{ops rest:List Oper}{kk k':Nat}{past:Gi}{hist:List (Nat × A1)}{K:AD->A1->Prop}{A:PV->Prop}(W:f)(hc: ∀ h,A6 P fn ag h λr h'=>r=v/\h'=h)(k:q)(ha:f->args.map (AB s)=ag:=by(intro W;(try simp only[Ty.w,simprocAttr,W]);try rfl))(hA:f->args.map (AB s)=ag->A v:=by(intro W hh;(try simp(maxSteps:=4000000) only[List.map_cons,List.map_nil,List.forall_mem_cons,W])<;>((repeat' apply And.intro)<;>first|trivial|exact .inl (by decide+kernel)|exact .inr A5|exact .inr (CW (hc _) hh)|exact(λ_ hx=>by cases hx))))
  (e:f->q->FA P ow wf n ops kk rest ((k',{dst:=some d,op:= .call {callee:= .value (.func fn),args:=args.toArray,argTypes:=ts},type:=ty,pos:=pos,after:=af,guard:=gd},s,v)::past) hist K (Cf s d v) h:=by(first|(intro W k;simp only[Ty.w,simprocAttr,B8,Bl,List.nil_append,Bs,W];exact k)|(refine λW (_:Nonempty Unit)=>?_;simp only[Ty.w,simprocAttr,B8,Bl,List.nil_append,Bs,W]))):
  ∃ v,Ar P ow {dst:=some d,op:= .call {callee:= .value (.func fn),args:=args.toArray,argTypes:=ts},type:=ty,pos:=pos,after:=af,guard:=gd} (AB s) h v h/\A v/\
   EG P ow wf n ops kk rest (Df P ow ((k',{dst:=some d,op:= .call {callee:= .value (.func fn),args:=args.toArray,argTypes:=ts},type:=ty,pos:=pos,after:=af,guard:=gd},s,v)::past)) hist K (Cf s d v) h:=Ip (hc h) (ha W) (hA W (ha W)) (e W k)
theorem V8{fn:FuncId}{d:Nat}{args:List Operand}{ts:Array TypeId}{ty:TypeId}{pos:String}{af:Array Edge}{gd:Option (Nat × Bool)}{ag:List PV}{v:PV}{ops rest:List Oper}{kk k':Nat}{past:Gi}{hist:List (Nat × A1)}{K:AD->A1->Prop}{A:PV->Prop}(W:f)(hc:A6 P fn ag h λr h'=>r=v/\h'=h)(k:q)(ha:f->args.map (AB s)=ag:=by(intro W;(try simp only[Ty.w,simprocAttr,W]);try rfl))(hA:f->A v:=by(intro W;(try simp(maxSteps:=4000000) only[List.map_cons,List.map_nil,List.forall_mem_cons,W])<;>((repeat' apply And.intro)<;>first|trivial|exact .inl (by decide+kernel)|exact .inr A5|exact(λ_ hx=>by cases hx))))
  (e:f->q->FA P ow wf n ops kk rest ((k',{dst:=some d,op:= .call {callee:= .value (.func fn),args:=args.toArray,argTypes:=ts},type:=ty,pos:=pos,after:=af,guard:=gd},s,v)::past) hist K (Cf s d v) h:=by(first|(intro W k;simp only[Ty.w,simprocAttr,B8,Bl,List.nil_append,Bs,W];exact k)|(refine λW (_:Nonempty Unit)=>?_;simp only[Ty.w,simprocAttr,B8,Bl,List.nil_append,Bs,W]))):
  ∃ v,Ar P ow {dst:=some d,op:= .call {callee:= .value (.func fn),args:=args.toArray,argTypes:=ts},type:=ty,pos:=pos,after:=af,guard:=gd} (AB s) h v h/\A v/\
   EG P ow wf n ops kk rest (Df P ow ((k',{dst:=some d,op:= .call {callee:= .value (.func fn),args:=args.toArray,argTypes:=ts},type:=ty,pos:=pos,after:=af,guard:=gd},s,v)::past)) hist K (Cf s d v) h:=Ip hc (ha W) (hA W) (e W k)
structure Tk(c:Code)(Q:BW):Type where
@[irreducible] def Kc (P:Program)(ow:Nat->Bool)(wf:FuncId->Bool)(n:Nat)(c:Code)(Q:BW)(_:Tk c Q)(s:AD)(h:A1):Prop:=Aq P ow wf n c Q s h
structure Tq(Q:BW):Type where
@[irreducible] def Kn (Q:BW)(_:Tq Q)(s:AD)(h:A1):Prop:=Q .normal s h
structure Hd(p:Prop):Prop where
 out:p
structure It(n:Nat):Prop where
theorem sK{a b:Code}(k:Aq P ow wf n a (BW.seq (Kc P ow wf n b Q ⟨⟩) Q) s h):Aq P ow wf n (.seq a b) Q s h:=by
 simp only[Aq];unfold Kc at k;exact k
theorem cK{b:Code}{t:Tk b Q}(k:Aq P ow wf n b Q s h):Kc P ow wf n b Q t s h:=by
 unfold Kc;exact k
theorem nK{t:Tq Q}(k:q)(e:q->Q .normal s h:=by(first|(intro k;(try simp only[Au,simprocAttr]);exact k)|(refine λ(_:Nonempty Unit)=>?_;simp only[Au,simprocAttr]))):Kn Q t s h:=by
 unfold Kn;exact e k
theorem uq{id:Nat}{ops:List Oper}(W:f)(k:q)(e:f->q->E7 P ow n ops ops (Kn Q ⟨⟩) s h:=by(first|(intro W k;simp only[Ty.w,simprocAttr,B8,Bl,List.nil_append,Bs,W];exact k)|(refine λW (_:Nonempty Unit)=>?_;simp only[Ty.w,simprocAttr,B8,Bl,List.nil_append,Bs,W]))):Aq P ow wf n (.region id ops.toArray false) Q s h:=by
 simp only[Aq,BR,AQ];have y:=e W k;unfold Kn at y;exact⟨_,_,.refl,Jy _ _ _ y⟩
theorem ue{id:Nat}{ops:List Oper}(W:f)(k:q)(hd:Jr ow wf ops=true:=by decide+kernel)(e:f->q->FA P ow wf n ops 0 ops [] [] (Kn Q ⟨⟩) s h:=by(first|(intro W k;simp only[Ty.w,simprocAttr,B8,Bl,List.nil_append,Bs,W];exact k)|(refine λW (_:Nonempty Unit)=>?_;simp only[Ty.w,simprocAttr,B8,Bl,List.nil_append,Bs,W]))):Aq P ow wf n (.region id ops.toArray true) Q s h:=by
 simp only[Aq,AO];have y:=e W k;unfold Kn at y;exact⟨_,_,.refl,.inl ⟨hd,JK _ _ _ _ _ _ y⟩⟩
theorem yH{id i:Nat}{ops:Array Oper}{d:Bool}{x y:Code}(_:It i)(hh:Hd (Aq P ow wf n (.seq (.seq (.region id ops d) x) y) Q s h))(e:id=i:=by rfl):Aq P ow wf n (.seq (.seq (.region id ops d) x) y) Q s h:=hh.out
theorem yR{id i:Nat}{ops:Array Oper}{d:Bool}{y:Code}(_:It i)(hh:Hd (Aq P ow wf n (.seq (.region id ops d) y) Q s h))(e:id=i:=by rfl):Aq P ow wf n (.seq (.region id ops d) y) Q s h:=hh.out
theorem yB{id i:Nat}{ops:Array Oper}{d:Bool}(_:It i)(hh:Hd (Aq P ow wf n (.region id ops d) Q s h))(e:id=i:=by rfl):Aq P ow wf n (.region id ops d) Q s h:=hh.out
theorem dL{g:Prop}(e:g:=by(intro x hx;repeat'(first|(exact absurd hx (List.not_mem_nil))|(rcases List.mem_cons.1 hx with rfl|hx)|(refine .inr ?_;dsimp only;omega)|(refine .inr ?_;exact List.not_mem_nil)|(refine .inr λhm=>?_;have:=List.mem_singleton.1 hm;omega)|(refine .inl ?_;dsimp only;decide+kernel)))):g:=e
theorem sq{g:Prop}(W:f)(e:f->g:=by(intro W;simp only[Ty.w,simprocAttr,W])):g:=e W
theorem sr{g:Prop}(W:f)(e:f->g:=by(intro W;(try simp only[Ty.w,simprocAttr,W]);try rfl)):g:=e W
theorem wt{g:Prop}(W:f)(k:q)(e:f->q->g:=by(intro W k;(repeat'(first|refine cK ?_|refine nK ?_|refine sK ?_|refine Ci ?_|refine uR W ?_|refine uq W ?_|refine uT W ?_|refine uK ?_|refine uX ?_|refine C2 W ?_|(refine uN hK ?_;clear hK)|(clear hK;refine uN hK ?_;clear hK)|(clear hK;clear hK;refine uN hK ?_;clear hK)|(clear hK;clear hK;clear hK;refine uN hK ?_;clear hK)|apply zI));exact k)):g:=e W k
theorem wm{g:Prop}(W:f)(k:q)(e:f->q->g:=by first|(intro W k;(repeat'(first|refine cK ?_|refine nK ?_|refine sK ?_|refine Ci ?_|refine uR W ?_|refine uq W ?_|refine uT W ?_|refine uK ?_|refine uX ?_|refine C2 W ?_|(refine uN hK ?_;clear hK)|(clear hK;refine uN hK ?_;clear hK)|(clear hK;clear hK;refine uN hK ?_;clear hK)|(clear hK;clear hK;clear hK;refine uN hK ?_;clear hK)|apply zI));exact k)|(refine λW (_:Nonempty Unit)=>?_;repeat'(first|refine cK ?_|refine nK ?_|refine sK ?_|refine Ci ?_|refine uR W ?_|refine uq W ?_|refine uT W ?_|refine uK ?_|refine uX ?_|refine C2 W ?_|(refine uN hK ?_;clear hK)|(clear hK;refine uN hK ?_;clear hK)|(clear hK;clear hK;refine uN hK ?_;clear hK)|(clear hK;clear hK;clear hK;refine uN hK ?_;clear hK)|apply zI))):g:=e W k
theorem wz{g:Prop}(W:f)(e:f->g:=by(intro W;repeat'(first|refine cK ?_|refine nK ?_|refine sK ?_|refine Ci ?_|refine uR W ?_|refine uq W ?_|refine uT W ?_|refine uK ?_|refine uX ?_|refine C2 W ?_|(refine uN hK ?_;clear hK)|(clear hK;refine uN hK ?_;clear hK)|(clear hK;clear hK;refine uN hK ?_;clear hK)|(clear hK;clear hK;clear hK;refine uN hK ?_;clear hK)|apply zI))):g:=e W
theorem wy{g:Prop}(W:f)(k:q)(e:f->q->g:=by(intro W k;(repeat'(first|refine cK ?_|refine nK ?_|refine sK ?_|refine Ci ?_|refine uR W ?_|refine uD W ?_|refine uq W ?_|refine ue W ?_|refine uT W ?_|refine uK ?_|refine uX ?_|refine C2 W ?_|(refine uN hK ?_;clear hK)|(clear hK;refine uN hK ?_;clear hK)|(clear hK;clear hK;refine uN hK ?_;clear hK)|(clear hK;clear hK;clear hK;refine uN hK ?_;clear hK)|refine uP W ?_|refine uB W ?_|apply zI));exact k)):g:=e W k
theorem wo{g:Prop}(W:f)(k:q)(e:f->q->g:=by first|(intro W k;(repeat'(first|refine cK ?_|refine nK ?_|refine sK ?_|refine Ci ?_|refine uR W ?_|refine uD W ?_|refine uq W ?_|refine ue W ?_|refine uT W ?_|refine uK ?_|refine uX ?_|refine C2 W ?_|(refine uN hK ?_;clear hK)|(clear hK;refine uN hK ?_;clear hK)|(clear hK;clear hK;refine uN hK ?_;clear hK)|(clear hK;clear hK;clear hK;refine uN hK ?_;clear hK)|refine uP W ?_|refine uB W ?_|apply zI));exact k)|(refine λW (_:Nonempty Unit)=>?_;repeat'(first|refine cK ?_|refine nK ?_|refine sK ?_|refine Ci ?_|refine uR W ?_|refine uD W ?_|refine uq W ?_|refine ue W ?_|refine uT W ?_|refine uK ?_|refine uX ?_|refine C2 W ?_|(refine uN hK ?_;clear hK)|(clear hK;refine uN hK ?_;clear hK)|(clear hK;clear hK;refine uN hK ?_;clear hK)|(clear hK;clear hK;clear hK;refine uN hK ?_;clear hK)|refine uP W ?_|refine uB W ?_|apply zI))):g:=e W k
theorem xH{g:Prop}(i:Nat)(W:f)(k:q)(e:It i->f->q->g:=by(intro I W k;(repeat'(first|refine cK ?_|(with_reducible refine yH I ?_)|refine cK ?_|refine nK ?_|refine sK ?_|refine Ci ?_|refine uR W ?_|refine uq W ?_|refine uT W ?_|refine uK ?_|refine uX ?_|refine C2 W ?_|(refine uN hK ?_;clear hK)|(clear hK;refine uN hK ?_;clear hK)|(clear hK;clear hK;refine uN hK ?_;clear hK)|(clear hK;clear hK;clear hK;refine uN hK ?_;clear hK)|apply zI));exact k)):g:=e ⟨⟩ W k
theorem xG{g:Prop}(i:Nat)(W:f)(k:q)(e:It i->f->q->g:=by(intro I W k;(repeat'(first|refine cK ?_|(with_reducible refine yR I ?_)|refine cK ?_|refine nK ?_|refine sK ?_|refine Ci ?_|refine uR W ?_|refine uq W ?_|refine uT W ?_|refine uK ?_|refine uX ?_|refine C2 W ?_|(refine uN hK ?_;clear hK)|(clear hK;refine uN hK ?_;clear hK)|(clear hK;clear hK;refine uN hK ?_;clear hK)|(clear hK;clear hK;clear hK;refine uN hK ?_;clear hK)|apply zI));exact k)):g:=e ⟨⟩ W k
theorem xB{g:Prop}(i:Nat)(W:f)(k:q)(e:It i->f->q->g:=by(intro I W k;(repeat'(first|refine cK ?_|(with_reducible refine yB I ?_)|refine cK ?_|refine nK ?_|refine sK ?_|refine Ci ?_|refine uR W ?_|refine uq W ?_|refine uT W ?_|refine uK ?_|refine uX ?_|refine C2 W ?_|(refine uN hK ?_;clear hK)|(clear hK;refine uN hK ?_;clear hK)|(clear hK;clear hK;refine uN hK ?_;clear hK)|(clear hK;clear hK;clear hK;refine uN hK ?_;clear hK)|apply zI));exact k)):g:=e ⟨⟩ W k
theorem uG{fid:FuncId}{fn:Func}{c:Code}{args:List PV}{m:Nat}{rs:Array ResultVar}{K:PV->A1->Prop}(hf:Tryz.prog.funcs[fid]? =some fn)(h1:fn.ntmps=m)(h2:fn.results=rs)(hh:Ad prog fid=true)(hw:Aq prog ow wf m c (Io prog rs.toList K) (Mb args) h)(hb:fn.body=some c:=by rfl)(hn:args.length<=m:=by simp):A6 prog fid args h K:=by
 subst h1 h2;exact PT Ty.Pa hf hb hh hn hw
theorem AF{fid:FuncId}{fn:Func}{c:Code}{args:List PV}{m:Nat}{rs:Array ResultVar}{K:PV->A1->Prop}(hf:Tryz.prog.funcs[fid]? =some fn)(h1:fn.ntmps=m)(h2:fn.results=rs)(hh:Ad prog fid=true)(hw:Aq prog (λ_=>false) (λ_=>false) m c (Io prog rs.toList K) (Mb args) h)(hb:fn.body=some c:=by rfl)(hn:args.length<=m:=by simp):A6 prog fid args h K:=uG hf h1 h2 hh hw hb hn
end
set_option maxHeartbeats 2000000
def HI:List ByteArray:=[⟨#[97,110,100]⟩,⟨#[111,114]⟩,⟨#[110,111,116]⟩,⟨#[105,109,112,108,121]⟩,⟨#[102,111,114,97,108,108]⟩,⟨#[101,120,105,115,116,115]⟩,⟨#[119,104,101,110]⟩,⟨#[97,115,115,105,103,110]⟩,⟨#[105,110,99,114,101,97,115,101]⟩,⟨#[100,101,99,114,101,97,115,101]⟩,⟨#[111,98,106,101,99,116]⟩]
theorem gR:HI.length=11:=rfl
def HJ(l:List ByteArray)(s:ByteArray):Int:=match l.findIdx? (λw=>A3 s w)with
 |some i=>i
 |none=> -1
theorem Kr{l:List ByteArray}{i:Nat}{w:ByteArray}(h:l[i]? =some w):(AN l)[i]? =some [A4 w]:=by simp[AN,h]
theorem GP(l:List ByteArray):(AN l).length=l.length:=by simp[AN]
theorem Rg{h:A1}{l:List ByteArray}{s:ByteArray}(hl:l.length<=9223372036854775807):A6 prog 117 [.A2 1 (AN l),A4 s] h λr h'=>r= .sc (.int .i64 (HJ l s))/\h'=h:=by
 have hlen:=GP l;refine AF func117 ntmps117 results117 Ty.fi ?_;refine wt hlen ?_;refine CG (λm S h'=>h'=h/\S 0= .A2 1 (AN l)/\S 1=A4 s/\S 7= .sc (.int .i64 l.length)/\ ∃ k:Nat,S 8= .sc (.int .i64 k)/\k<=l.length/\m=l.length-k/\ ∀ (i:Nat)(w:ByteArray),i<k->l[i]? =some w->A3 s w=false) l.length ?_ ?_
 ·simp only[Ty.w,simprocAttr];exact⟨0,rfl,by omega,rfl,by omega⟩
 ·rintro m S h' ⟨rfl,g0,g1,g7,k,g8,hk,rfl,hall⟩;by_cases hlt:k<l.length
  ·have hd:decide ((k:Int)<(l.length:Int))=true:=(by simp;omega);have w7:IntKind.i64.wrap ((k:Int)+1)=k+1:=(by rw[BZ (by omega) (by omega)]);obtain⟨w,hx⟩: ∃ w,l[k]? =some w:=⟨l[k],List.getElem?_eq_getElem hlt⟩;have hr:=Kr hx;cases he:A3 s w with
   |true=>
    have he':=he;unfold A3 at he';replace zz:=Ah g0 g1 g7 g8 hd hr he';refine wt zz ?_;have:l.findIdx? (λw=>A3 s w)=some k:=by
     rw[List.findIdx?_eq_some_iff_getElem];refine⟨hlt,?_,λj hj=>?_⟩
     ·rw [List.getElem?_eq_getElem hlt]at hx;simp only[BD]at hx;rw[hx];exact he
     ·rw [hall j l[j] hj (List.getElem?_eq_getElem (by omega))];simp
    simp only[HJ,this]
   |false=>
    have he':=he;unfold A3 at he';replace zz:=BT g0 g1 g7 g8 hd hr he' w7;refine wt zz ?_;refine⟨l.length-(k+1),by omega,k+1,by simp,by omega,rfl,λi w2 hi hw=>?_⟩;by_cases hik:i=k
    ·subst hik;rw[hx]at hw;simp at hw;rw[← hw];exact he
    ·exact hall i w2 (by omega) hw
  ·have hd:decide ((k:Int)<(l.length:Int))=false:=(by simp;omega);replace zz:=Ak g0 g1 g7 g8 hd;refine wt zz ?_;have:l.findIdx? (λw=>A3 s w)=none:=by
    rw[List.findIdx?_eq_none_iff];intro w hw;obtain⟨i,hi⟩:=List.getElem?_of_mem hw;have:i<l.length:=(List.getElem?_eq_some_iff.1 hi).1;exact hall i w (by omega) hi
   simp only[HJ,this]
theorem gS(l:List ByteArray)(s:ByteArray):decide (HJ l s>=0)=l.any (λw=>A3 s w):=by
 unfold HJ;cases h:l.findIdx? (λw=>A3 s w)with
 |none=>
  rw[List.findIdx?_eq_none_iff]at h;have:l.any (λw=>A3 s w)=false:=by simpa using h
  rw[this];try rfl
 |some i=>
  rw[List.findIdx?_eq_some_iff_getElem]at h;obtain⟨hi,h1,_⟩:=h;have:l.any (λw=>A3 s w)=true:=List.any_eq_true.2 ⟨l[i],List.getElem_mem hi,h1⟩;rw[this];simp
theorem gT{h:A1}{l:List ByteArray}{s:ByteArray}(hl:l.length<=9223372036854775807):A6 prog 60 [.A2 1 (AN l),A4 s] h λr h'=>r= .sc (.bool (l.any λw=>A3 s w))/\h'=h:=by
 refine AF func60 ntmps60 results60 Ty.UY ?_;refine wt A5 ?_;refine uU A5 (Rg (l:=l) (s:=s) hl) ?_;refine wt A5 ?_;rw[← gS]
theorem gU{h:A1}:A6 prog 135 [] h λr h'=>r= .A2 1 (AN HI)/\h'=h:=by
 refine AF func135 ntmps135 results135 Ty.fu ?_;refine wt A5 ?_;rfl
def EY(c:UInt8):Bool:=decide (97<=c.toNat)&&decide (c.toNat<=122)
def Ew(c:UInt8):Bool:=EY c||(decide (48<=c.toNat)&&decide (c.toNat<=57))||decide (c.toNat=45)||decide (c.toNat=95)
def Fx(i:Nat)(c:UInt8):Bool:=EY c||(decide (i≠0)&&Ew c)
def II:List UInt8->Bool
 |[]=>true
 |c::l=>EY c&&l.all Ew
def As(s:ByteArray):Bool:=II s.data.toList&&decide (0<s.size)&&decide (s.size<=32)&&!(HI.any λw=>A3 s w)
def Ey(s:ByteArray):Bool:=decide (2<=s.size)&&decide (s.size<=32)&&(match s.data.toList[0]? with|some c=>decide (c.toNat=63)|none=>false)&&As (s.extract 1 s.size)
theorem Po(s:ByteArray)(i:Nat):s[i]? =s.data.toList[i]?:=by
 rw[getElem?_def];by_cases hi:i<s.size
 ·rw [dif_pos hi,List.getElem?_eq_getElem (by simpa using hi)];rfl
 ·rw [dif_neg hi,List.getElem?_eq_none (by simp;omega)]
theorem V9{c:UInt8}(h:EY c=true):Ew c=true:=by simp[Ew,h]
theorem gV{l:List UInt8}(h: ∀ (j:Nat)(c:UInt8),l[j]? =some c->Fx j c=true):II l=true:=by
 cases l with
 |nil=>rfl
 |cons c l=>
  simp only[II,AV,List.all_eq_true];refine⟨by simpa[Fx]using h 0 c rfl,λx hx=>?_⟩;obtain⟨i,hi⟩:=List.getElem?_of_mem hx;have:=h (i+1) x (by simpa using hi);simp only[Fx,ED,AV]at this;exact this.elim V9 (·.2)
theorem gW{l:List UInt8}{j:Nat}{c:UInt8}(hj:l[j]? =some c)(h:Fx j c=false):II l=false:=by
 cases l with
 |nil=>simp at hj
 |cons d l=>
  cases j with
  |zero=>
   simp at hj;subst hj;simp only[Fx]at h;simp at h;simp[II,h]
  |succ j=>
   simp at hj;have hm:Ew c=false:=(by simp[Fx]at h;exact h.2);have:l.all Ew=false:=(by rw[List.all_eq_false];exact⟨c,List.mem_of_getElem? hj,by simp[hm]⟩);simp[II,this]
set_option maxHeartbeats 800000
theorem gX(c:UInt8):(EY c=true/\decide ((c.toNat:Int)>=97)=true/\decide ((c.toNat:Int)<=122)=true)\/
  (EY c=false/\decide ((c.toNat:Int)>=97)=false)\/(EY c=false/\Ew c=false/\decide ((c.toNat:Int)>=97)=true/\decide ((c.toNat:Int)<=122)=false/\decide ((c.toNat:Int)<48)=false/\decide ((c.toNat:Int)>57)=true/\((c.toNat:Int) !=45)=true/\((c.toNat:Int) !=95)=true):=by
 by_cases h1:97<=c.toNat
 ·by_cases h2:c.toNat<=122
  ·exact .inl ⟨by simp[EY,h1,h2],by simp;omega,by simp;omega⟩
  ·refine .inr (.inr ⟨by simp[EY,h1,h2],by simp[Ew,EY];omega,by simp;omega,by simp;omega,by simp;omega,by simp;omega,by simp;omega,by simp;omega⟩)
 ·exact .inr (.inl ⟨by simp[EY,h1],by simp;omega⟩)
theorem gY{c:UInt8}(h:decide ((c.toNat:Int)>=97)=false):
  (Ew c=true/\decide ((c.toNat:Int)<48)=true/\((c.toNat:Int) !=45)=false)\/
  (Ew c=false/\decide ((c.toNat:Int)<48)=true/\((c.toNat:Int) !=45)=true/\((c.toNat:Int) !=95)=true)\/
  (Ew c=true/\decide ((c.toNat:Int)<48)=false/\decide ((c.toNat:Int)>57)=false)\/
  (Ew c=true/\decide ((c.toNat:Int)<48)=false/\decide ((c.toNat:Int)>57)=true/\((c.toNat:Int) !=45)=true/\((c.toNat:Int) !=95)=false)\/
  (Ew c=false/\decide ((c.toNat:Int)<48)=false/\decide ((c.toNat:Int)>57)=true/\((c.toNat:Int) !=45)=true/\((c.toNat:Int) !=95)=true):=by
 simp at h;by_cases h1:c.toNat<48
 ·by_cases h2:c.toNat=45
  ·exact .inl ⟨by simp[Ew,h2],by simp;omega,by simp;omega⟩
  ·exact .inr (.inl ⟨by simp[Ew,EY];omega,by simp;omega,by simp;omega,by simp;omega⟩)
 ·by_cases h2:c.toNat<=57
  ·exact .inr (.inr (.inl ⟨by simp[Ew,EY];omega,by simp;omega,by simp;omega⟩))
  ·by_cases h3:c.toNat=95
   ·exact .inr (.inr (.inr (.inl ⟨by simp[Ew,h3],by simp;omega,by simp;omega,by simp;omega,by simp;omega⟩)))
   ·exact .inr (.inr (.inr (.inr ⟨by simp[Ew,EY];omega,by simp;omega,by simp;omega,by simp;omega,by simp;omega⟩)))
theorem FP{h:A1}{s:ByteArray}(hs:s.size<=9223372036854775807):A6 prog 94 [A4 s] h λr h'=>r= .sc (.bool (As s))/\h'=h:=by
 have hsl:s.data.toList.length=s.size:=by rw[F7];try rfl
 refine AF func94 ntmps94 results94 Ty.fb ?_;refine wt A5 ?_;refine CG (λm S h'=>h'=h/\S 0=A4 s/\S 7= .sc (.int .i64 s.size)/\ ∃ k:Nat,S 8= .sc (.int .i64 k)/\k<=s.size/\m=s.size-k/\ ∀ (i:Nat)(c:UInt8),i<k->s.data.toList[i]? =some c->Fx i c=true) s.size ?_ ?_
 ·simp only[Ty.w,simprocAttr];exact⟨0,rfl,by omega,rfl,by omega⟩
 ·rintro m S h' ⟨rfl,g0,g7,k,g8,hk,rfl,hall⟩;by_cases hlt:k<s.size
  ·have hd:decide ((k:Int)<(s.size:Int))=true:=(by simp;omega);have w7:IntKind.i64.wrap ((k:Int)+1)=k+1:=(by rw[BZ (by omega) (by omega)]);obtain⟨c,hx⟩: ∃ c,s.data.toList[k]? =some c:=⟨_,List.getElem?_eq_getElem (by omega)⟩;have hr:s[k]? =some c:=(by rw[Po];exact hx);have bad:Fx k c=false->As s=false:=λe=>(by simp[As,gW hx e]);have good:Fx k c=true-> ∃ m',m'<s.size-k/\ ∃ k':Nat,(k:Int)+1=k'/\k'<=s.size/\m'=s.size-k'/\ ∀ (i:Nat)(c:UInt8),i<k'->s.data.toList[i]? =some c->Fx i c=true:=λe=>by
    refine⟨s.size-(k+1),by omega,k+1,by simp,by omega,rfl,λi c2 hi hw=>?_⟩;by_cases hik:i=k
    ·subst hik;rw[hx]at hw;simp at hw;rw[← hw];exact e
    ·exact hall i c2 (by omega) hw
   clear hall;have fin1: ∀ {e:Bool},Fx k c=false->e=false->PV.sc (.bool e)= .sc (.bool (As s)):=λh1 h2=>(by rw[h2,bad h1]);rcases gX c with⟨l1,c1,c2⟩|⟨l1,c1⟩|⟨l1,m1,c1,c2,c3,c4,c5,c6⟩
   ·replace zz:=BT g0 g7 g8 hd hr w7 c1 c2;refine wt zz ?_;have:=good (by simp[Fx,l1]);simpa using this
   ·cases k0:((k:Int)==0)with
    |true=>
     have hk0:k=0:=(by simpa using k0);have hbad:=bad (by simp[Fx,l1,hk0]);replace zz:=BT g0 g7 g8 hd hr w7 c1 k0;refine wt zz ?_;rw[hbad]
    |false=>
     have hk0:k≠0:=(by simpa using k0);rcases gY c1 with⟨m1,c3,c5⟩|⟨m1,c3,c5,c6⟩|⟨m1,c3,c4⟩|⟨m1,c3,c4,c5,c6⟩|⟨m1,c3,c4,c5,c6⟩
     ·replace zz:=B9 g0 g7 g8 hd hr w7 c1 k0 c3 c5;refine wt zz ?_;have:=good (by simp[Fx,m1,hk0]);simpa using this
     ·have hbad:=bad (by simp[Fx,l1,m1]);replace zz:=EI g0 g7 g8 hd hr w7 c1 k0 c3 c5 c6;refine wt zz ?_;rw[hbad]
     ·replace zz:=B9 g0 g7 g8 hd hr w7 c1 k0 c3 c4;refine wt zz ?_;have:=good (by simp[Fx,m1,hk0]);simpa using this
     ·replace zz:=Ab g0 g7 g8 hd hr w7 c1 k0 c3 c4 c5 c6;refine wt zz ?_;have:=good (by simp[Fx,m1,hk0]);simpa using this
     ·have hbad:=bad (by simp[Fx,l1,m1]);replace zz:=Ab g0 g7 g8 hd hr w7 c1 k0 c3 c4 c5 c6;refine wt zz ?_;rw[hbad]
   ·have hbad:=bad (by simp[Fx,l1,m1]);cases k0:((k:Int)==0)with
    |true=>
     replace zz:=BO g0 g7 g8 hd hr w7 c1 c2 k0;refine wt zz ?_;rw[hbad]
    |false=>
     replace zz:=Ab g0 g7 g8 hd hr w7 c1 c2 k0 c3 c4 (uu c5 c6);refine wt zz ?_;rw[hbad]
  ·have hd:decide ((k:Int)<(s.size:Int))=false:=(by simp;omega);have hok:II s.data.toList=true:=gV λj c hj=>hall j c (by have:=(List.getElem?_eq_some_iff.1 hj).1;omega) hj;clear hall;have hn:As s=(!(s.data.toList==(#[]:Array UInt8).toList)&&decide ((s.size:Int)<=32)&&!(HI.any λw=>A3 s w)):=by
    have e1:decide (0<s.size)=!(s.data.toList==(#[]:Array UInt8).toList):=by
     rw[← hsl];cases s.data.toList<;>simp
    have e2:decide ((s.size:Int)<=32)=decide (s.size<=32):=by
     exact Yk.2 (by omega)
    simp only[As,hok,BG,e1,e2]
   cases b1:(s.data.toList==(#[]:Array UInt8).toList)with
   |true=>
    replace zz:=Ak g0 g7 g8 hd b1;refine wt zz ?_;rw[hn,b1];try rfl
   |false=>
    cases b2:decide ((s.size:Int)<=32)with
    |false=>
     replace zz:=Al g0 g7 g8 hd b1 b2;refine wt zz ?_;rw[hn,b1,b2];try rfl
    |true=>
     replace zz:=Al g0 g7 g8 hd b1 b2;refine wt zz ?_;have hwl:HI.length<=9223372036854775807:=(by rw[gR];omega);refine uU A5 (gU) ?_;refine uU (AY b1 b2 g0) (gT (l:=HI) (s:=s) hwl) ?_;refine wt (AY g0 b1 b2) ?_;rw[hn,b1,b2];try rfl
theorem Lt{h:A1}{s:ByteArray}(hs:s.size<=9223372036854775807):A6 prog 95 [A4 s] h λr h'=>r= .sc (.bool (Ey s))/\h'=h:=by
 cases b1:decide ((s.size:Int)>1)with
 |false=>
  have:Ey s=false:=by simp at b1;simp[Ey];omega
  refine AF func95 ntmps95 results95 Ty.Pd ?_;refine wt b1 ?_;rw[this]
 |true=>
  cases b2:decide ((s.size:Int)<=32)with
  |false=>
   have:Ey s=false:=(by simp at b2;simp[Ey];omega);refine AF func95 ntmps95 results95 Ty.Pd ?_;refine wt (uu b1 b2) ?_;rw[this]
  |true=>
   simp at b1 b2;have hsl:s.data.toList.length=s.size:=(by rw[F7];try rfl);obtain⟨c,hx⟩: ∃ c,s.data.toList[0]? =some c:=⟨_,List.getElem?_eq_getElem (by omega)⟩;have hr:s[0]? =some c:=(by rw[Po];exact hx);have d1:decide ((s.size:Int)>1)=true:=(by simp;omega);have d2:decide ((s.size:Int)<=32)=true:=(by simp;omega);have q1:(1:Int)<=(s.size:Int):=(by omega);have hv:Ey s=(decide (c.toNat=63)&&As (s.extract 1 s.size)):=by
    have e1:decide (2<=s.size)=true:=(by simp;omega);have e2:decide (s.size<=32)=true:=(by simp;omega);simp only[Ey,e1,e2,hx,BG]
   cases b3:((c.toNat:Int)==63)with
   |false=>
    have:¬ c.toNat=63:=(by simp at b3;omega);refine AF func95 ntmps95 results95 Ty.Pd ?_;replace zz:=Aa d1 d2 hr b3;refine wt zz ?_;rw[hv];simp[this]
   |true=>
    have:c.toNat=63:=(by simp at b3;omega);refine AF func95 ntmps95 results95 Ty.Pd ?_;have hsz:(s.extract 1 s.size).size<=9223372036854775807:=(by simp;omega);replace zz:=Al d1 d2 hr b3 q1 @CT;refine wt zz ?_;replace zz:=Al d1 d2 hr b3 q1 @CT;refine uU zz (FP (s:=s.extract 1 s.size) hsz) ?_;refine wt (AY d1 d2 b3) ?_;rw[hv,this];try rfl
end Go.Proofs.YtblgchkahpgdjaaGreat
namespace Go.AM
inductive Sx where
 |mk(kind value line col:Int)(text:ByteArray)(kids:List Sx)
mutual
def Sx.cells:Sx->List PV
 | .mk kind value line col text kids=>[.sc (.int .i64 kind),.sc (.int .i64 value),.sc (.int .i64 line),.sc (.int .i64 col),A4 text,.A2 6 (Sx.rows kids)]
def Sx.rows:List Sx->List (List PV)
 |[]=>[]
 |k::ks=>k.cells::Sx.rows ks
end
theorem Sx.rows_map: ∀ l:List Sx,Sx.rows l=l.map Sx.cells
 |[]=>rfl
 |k::ks=>by simp[Sx.rows,Sx.rows_map ks]
theorem Sx.B4(l:List Sx):(Sx.rows l).length=l.length:=by simp[Sx.rows_map]
theorem Sx.CL{l:List Sx}{i:Nat}{k:Sx}(h:l[i]? =some k):(Sx.rows l)[i]? =some k.cells:=by simp[Sx.rows_map,h]
theorem Sx.ind{C:Sx->Prop}(hC: ∀ kind value line col text kids,(∀ k∈kids,C k)->C (.mk kind value line col text kids)): ∀ e,C e
 | .mk kind value line col text kids=>hC kind value line col text kids λk hk=>Sx.ind hC k
termination_by e=>SizeOf.sizeOf e
decreasing_by
 have:=List.sizeOf_lt_of_mem hk;simp only[Sx.mk.sizeOf_spec];omega
mutual
def Sx.ok:Sx->Prop
 | .mk kind value line col text kids=>(-9223372036854775808<=kind/\kind<=9223372036854775807)/\(-9223372036854775808<=value/\value<=9223372036854775807)/\text.size<=AI/\kids.length<=AI/\Sx.DJ kids
def Sx.DJ:List Sx->Prop
 |[]=>True
 |k::ks=>k.ok/\Sx.DJ ks
end
theorem Sx.Bz:{l:List Sx}->(Sx.DJ l↔ ∀ k∈l,k.ok)
 |[]=>by simp[Sx.DJ]
 |k::ks=>by simp[Sx.DJ,Sx.Bz (l:=ks)]
end Go.AM
namespace Go.Proofs.YtblgchkahpgdjaaGreat
open Go.AM Go.Proofs.Tryz
def Ff(c:UInt8):Bool:=decide (48<=c.toNat)&&decide (c.toNat<=57)
def Lu:List UInt8:=[45,95,63,58,60,62,61,43,42]
def wB(c:UInt8):Bool:=EY c||Ff c||Lu.contains c
def IJ(c:UInt8):Bool:=decide (65<=c.toNat)&&decide (c.toNat<=90)
def Ek(c:UInt8):Option UInt8:=if IJ c then some (c+32)else if wB c then some c else none
def EZ:List UInt8->Option (List UInt8)
 |[]=>some []
 |c::l=>match Ek c with
  |some d=>(EZ l).map (d::·)
  |none=>none
def FB(s:ByteArray):ByteArray × Bool:=if 0<s.size/\s.size<=32 then(match EZ s.data.toList with|some l=>(⟨l.toArray⟩,true)|none=>(⟨#[]⟩,false))else(⟨#[]⟩,false)
def GQ(s:ByteArray):ByteArray:=match s.data.toList with
 |45::l=>⟨l.toArray⟩
 |_=>s
def Ks(s:ByteArray):Bool:=(GQ s).data.toList.all Ff&&decide (0<(GQ s).size)
def JN(s:ByteArray):Bool:=(FB s).2&&A3 (FB s).1 s&&!(Ks (FB s).1)
mutual
def CM:Sx->Nat->Nat->Bool × Nat
 | .mk kind value _ _ text kids,d,n=>
  if n+1>4096 then(false,n+1)
  else if kind=1 then(JN text&&decide (value=0)&&kids.isEmpty,n+1)
  else if kind=2 then(A3 text ⟨#[]⟩&&kids.isEmpty&&decide (-1099511627776<=value)&&decide (value<=1099511627776),n+1)
  else if kind=3 then(if A3 text ⟨#[]⟩=true/\value=0/\d≠32 then Gx kids (d+1) (n+1)else(false,n+1))
  else(false,n+1)
def Gx:List Sx->Nat->Nat->Bool × Nat
 |[],_,n=>(true,n)
 |k::ks,d,n=>match CM k d n with
  |(true,n')=>Gx ks d n'
  |(false,n')=>(false,n')
end
end Go.Proofs.YtblgchkahpgdjaaGreat
namespace Go.AM
def VA:Value->Value->Bool
 | .int k a,.int k' b=>decide (k=k')&&decide (a=b)
 | .bool a,.bool b=>a==b
 | .string a,.string b=>decide (a.data.toList=b.data.toList)
 | .nilIface,.nilIface=>true
 | .pointer none,.pointer none=>true
 | .map none,.map none=>true
 | .slice none n m,.slice none n' m'=>decide (n=n')&&decide (m=m')
 | .func (.func f) a b,.func (.func f') a' b'=>decide (f=f')&&decide (a.size=0)&&decide (b.size=0)&&decide (a'.size=0)&&decide (b'.size=0)
 | .iface t v,.iface u x=>decide (t=u)&&VA v x
 |_,_=>false
mutual
def VB:PV->PV->Bool
 | .sc v,.sc u=>VA v u
 | .ptr a b c,.ptr a' b' c'=>decide (a=a')&&decide (b=b')&&decide (c=c')
 | .own a b c,.own a' b' c'=>decide (a=a')&&decide (b=b')&&decide (c=c')
 | .mp a,.mp b=>decide (a=b)
 | .emp,.emp=>true
 | .Ag l,.Ag l'=>Lv l l'
 | .agg l,.agg l'=>Lv l l'
 | .Am l,.Am l'=>Lv l l'
 | .fn f a b,.fn f' a' b'=>decide (f=f')&&Lv a a'&&Lv b b'
 | .ab k a b c d,.ab k' a' b' c' d'=>decide (k=k')&&decide (a=a')&&decide (b=b')&&decide (c=c')&&decide (d=d')
 | .A2 z r,.A2 z' r'=>decide (z=z')&&VC r r'
 |_,_=>false
def Lv:List PV->List PV->Bool
 |[],[]=>true
 |a::l,b::l'=>VB a b&&Lv l l'
 |_,_=>false
def VC:List (List PV)->List (List PV)->Bool
 |[],[]=>true
 |a::l,b::l'=>Lv a b&&VC l l'
 |_,_=>false
end
abbrev Nx:=FuncId->List PV->A1->Option (PV × Bool × A1)
section
variable (P:Program)(wf:FuncId->Bool)(own:FuncId->Nat->Bool)(CV:FuncId->List PV->Option PV)
def Rh(call:Nx)(ow:Nat->Bool)(o:Oper)(ρ:Operand->PV)(h:A1):Option (PV × Bool × A1):=
 match callee ρ o.op with
 |some (f,args)=>call f args h
 |none=>match AX P (o.dst.any ow) o.op ρ h with
  |some (v,h')=>some (v,!(BL ow wf o),h')
  |none=>none
def VD(call:Nx)(ow:Nat->Bool)(o:Oper)(ρ:Operand->PV)(h:A1)(v:PV):Bool:=
 match Rh P wf call ow o ρ h with
 |some (v',q,_)=>q&&VB v' v
 |none=>false
def xl(call:Nx)(ow:Nat->Bool)(n:Nat)(ops:List Oper):List Oper->AD->Bool->A1->Option (AD × Bool × A1)
 |[],s,q,h=>some (s,q,h)
 | o :: rest, s, q, h => if o.dst.all (λd => decide (d < n)) = true then
   match D3 ops s o with
   |none=>none
   |some false=>xl call ow n ops rest (Ai s o.dst (.sc undef)) q h
   |some true=>match Rh P wf call ow o (AB s) h with
    |some (v,q',h')=>xl call ow n ops rest (Ai s o.dst v) (q&&q') h'
    |none=>none
  else none
def xd(call:Nx)(ow:Nat->Bool)(n:Nat)(ops:List Oper):Nat->List Oper->List (Nat × Oper × AD × PV)->List (Nat × A1)->AD->Bool->A1->Option (AD × Bool × A1)
 |_,[],_,_,s,q,h=>some (s,q,h)
 | k, o :: rest, past, hist, s, q, h => if o.dst.all (λd => decide (d < n)) = true then
   match D3 ops s o with
   |none=>none
   |some false=>xd call ow n ops (k+1) rest past hist (Ai s o.dst (.sc undef)) q h
   |some true=>match Rh P wf call ow o (AB s) h with
    |none=>none
    |some (v,q',h')=>
     if BL ow wf o=true then
      (if past.all (λx=>pre ops x.1 k||VD P wf call ow x.2.1 (AB x.2.2.1) h' x.2.2.2)=true then xd call ow n ops (k+1) rest past ((k,h)::hist) (Ai s o.dst v) (q&&q') h' else none)
     else if q'=true then
      (if hist.all (λx=>pre ops x.1 k||VD P wf call ow o (AB s) x.2 v)=true then xd call ow n ops (k+1) rest ((k,o,s,v)::past) hist (Ai s o.dst v) q h else none)
     else none
  else none
def xc(call:Nx)(ow:Nat->Bool)(n:Nat):Nat->Code->AD->Bool->A1->Option (Exit × AD × Bool × A1)
 |0,_,_,_,_=>none
 |k+1,c,s,q,h=>match c with
  | .skip=>some (.normal,s,q,h)
  | .region _ ops true=>if Jr ow wf ops.toList=true then(xd P wf call ow n ops.toList 0 ops.toList [] [] s q h).map (Exit.normal,·)else none
  | .region _ ops false=>(xl P wf call ow n ops.toList ops.toList s q h).map (Exit.normal,·)
  | .seq a b=>match xc call ow n k a s q h with
   |some (.normal,s',q',h')=>xc call ow n k b s' q' h'
   |r=>r
  | .cond c x y=>match AB s c with
   | .sc (.bool true)=>xc call ow n k x s q h
   | .sc (.bool false)=>xc call ow n k y s q h
   |_=>none
  | .block id c=>match xc call ow n k c s q h with
   |some (.exit id',s',q',h')=>some (if id'=id then .normal else .exit id',s',q',h')
   |r=>r
  | .loop c=>match xc call ow n k c s q h with
   |some (.normal,s',q',h')=>xc call ow n k (.loop c) s' q' h'
   |r=>r
  | .exit id=>some (.exit id,s,q,h)
  | .ret=>some (.ret,s,q,h)
  |_=>none
end
section
variable {P:Program}{wf:FuncId->Bool}{own:FuncId->Nat->Bool}
theorem gZ{f:FuncId}{fn:Func}(hf:P.funcs[f]? =some fn)(hname:(fn.name== "runtime.NumGoroutine")=false)(hb:fn.body.isNone=true)(hn:Extern.findNext fn=none)(he:Extern.find fn=some Extern.BytealgIndexByte.indexByte)(s:ByteArray)(c:Int)(h:A1):
  A6 P f [.sc (.string s),.sc (.int .u8 c)] h (λr h'=>r= .sc (.int .i64 (firstIdx s c.toNat.toUInt8))/\h'=h):=by
 intro β w vals sm hr
 match vals,hr.len,hr with
 |[x,y],_,hr=>
  simp only[AU,AA]at hr;obtain⟨rfl,rfl,_⟩:=hr;exact .inr ⟨_,w,by rw[run_callFunc_extern hf hname hb hn he];simp only[run_indexByte_string];rfl,_,h,β,_,rfl,⟨rfl,rfl⟩,sm,by simp only[AT,AA],BS.refl⟩
end
end Go.AM
namespace Go.Proofs.YtblgchkahpgdjaaGreat
open Go.AM Go.Proofs.Tryz
set_option maxHeartbeats 2000000
set_option maxRecDepth 100000
def CV(f:FuncId)(args:List PV):Option PV:=if f=190 then(match args with|[.sc (.string s),.sc (.int .u8 c)]=>some (.sc (.int .i64 (firstIdx s c.toNat.toUInt8)))|_=>none)else none
theorem Pp:(Tryz.f190.name== "runtime.NumGoroutine")=false/\Tryz.f190.body.isNone=true/\Extern.findNext Tryz.f190=none/\Extern.find Tryz.f190=some Extern.BytealgIndexByte.indexByte:=
 ⟨by kernel_rfl,by kernel_rfl,by kernel_rfl,by kernel_rfl⟩
end Go.Proofs.YtblgchkahpgdjaaGreat
namespace Go.Proofs.YtblgchkahpgdjaaGreat
open Go.AM Go.Proofs.Tryz
set_option maxHeartbeats 2000000
set_option maxRecDepth 20000
theorem A6.pF{P:Program}{f:FuncId}{args:List PV}{h:A1}{v u:Value}(hb:Ad P f=true)(hc:A6 P f args h λr h'=>r= .Am [.sc v,.sc u]/\AH h h'):A6 P f args h λr h'=>r= .Am [.sc v,.sc u]/\h'=h:=by
 refine JL hb λhw=>A6.drop (hc.mono ?_);rintro r h' ⟨rfl,g⟩;refine⟨.Am [.sc v,.sc u],h,⟨rfl,rfl⟩,by simp only[AJ,AP];exact⟨_,rfl,rfl,rfl,trivial⟩,AG _,λid o ho=>?_⟩;have hid:=hw id (by rw[ho];try rfl);exact⟨by rw[g.B6 id hid];exact ho,hid,.inl ho⟩
theorem Iu{h:A1}{c:UInt8}:A6 prog 163 [.sc (.int .u8 c.toNat)] h λr h'=>r= .sc (.bool (Ff c))/\h'=h:=by
 cases b1:decide ((c.toNat:Int)>=48)with
 |false=>
  have:Ff c=false:=by simp at b1;simp[Ff];omega
  refine AF func163 ntmps163 results163 Ty.Uv ?_;refine wt b1 ?_;rw[this]
 |true=>
  have:Ff c=decide ((c.toNat:Int)<=57):=by
   simp at b1;have e1:decide (48<=c.toNat)=true:=(by simp;omega);simp only[Ff,e1,BG];exact Yk.2 (by omega)
  refine AF func163 ntmps163 results163 Ty.Uv ?_;refine wt b1 ?_;rw[this]
theorem Ml(s:ByteArray)(c:UInt8):decide (firstIdx s c>=0)=s.data.toList.contains c:=by
 unfold firstIdx;have hsl:s.data.toList.length=s.size:=by rw[F7];try rfl
 have hget: ∀ i,i<s.size->s[i]! =s.data.toList[i]!:=by
  intro i hi;have h1:s[i]? =s.data.toList[i]?:=Po s i;rw[getElem!_def,getElem!_def,h1]
 cases hf:(List.range s.size).find? λi=>s[i]! ==c with
 |none=>
  rw[List.find?_eq_none]at hf;have:s.data.toList.contains c=false:=by
   rw[Bool.eq_false_iff];intro hc;rw[List.contains_iff_mem]at hc;obtain⟨i,hi,he⟩:=List.getElem_of_mem hc;have h2:=hf i (by simp;omega);rw[hget i (by omega),getElem!_pos s.data.toList i hi,he]at h2;simp at h2
  rw[this];try rfl
 |some i=>
  have h1:=List.find?_some hf;have h2:=List.mem_of_find?_eq_some hf;simp at h2;have:s.data.toList.contains c=true:=by
   rw[List.contains_iff_mem];rw[hget i h2]at h1;rw[getElem!_pos s.data.toList i (by omega)]at h1;have:=Eg.1 h1;rw[← this];exact List.getElem_mem _
  rw[this];simp
theorem Mm{h:A1}{s:ByteArray}{c:UInt8}:A6 prog 164 [A4 s,.sc (.int .u8 c.toNat)] h λr h'=>r= .sc (.int .i64 (firstIdx s c))/\h'=h:=by
 have hx:A6 prog 190 [A4 s,.sc (.int .u8 c.toNat)] h λr h'=>r= .sc (.int .i64 (firstIdx s c))/\h'=h:=by
  have:=gZ (P:=prog) func190 Pp.1 Pp.2.1 Pp.2.2.1 Pp.2.2.2 s c.toNat h;simpa using this
 have hy:A6 prog 176 [A4 s,.sc (.int .u8 c.toNat)] h λr h'=>r= .sc (.int .i64 (firstIdx s c))/\h'=h:=by
  refine AF func176 ntmps176 results176 Ty.gC ?_;refine wt A5 ?_;refine uU A5 (hx) ?_;exact wz A5
 refine AF func164 ntmps164 results164 Ty.gA ?_;refine wt A5 ?_;refine uU A5 (hy) ?_;exact wz A5
theorem Ri{a b:ByteArray}(h:a.data.toList=b.data.toList):a=b:=by
 obtain⟨⟨a⟩⟩:=a;obtain⟨⟨b⟩⟩:=b;simp at h;rw[h]
theorem VE{h:A1}{s:ByteArray}:A6 prog 191 [A4 s,A4 ⟨#[45]⟩] h λr h'=>r= .sc (.bool (match s.data.toList with|45::_=>true|_=>false))/\h'=h:=by
 have hsl:s.data.toList.length=s.size:=by rw[F7];try rfl
 have h1:(ByteArray.mk #[45]).size=1:=rfl;cases b1:decide ((s.size:Int)>=1)with
 |false=>
  have:(match s.data.toList with|45::_=>true|_=>false)=false:=by
   simp at b1;have:s.data.toList=[]:=List.eq_nil_of_length_eq_zero (by omega);rw[this]
  refine AF func191 ntmps191 results191 Ty.V5 ?_;repeat'(first|refine Af λK hK=>?_|((first|refine Bn ?_|refine Ej ?_);simp only[Ty.w,simprocAttr,h1,TK,b1])|(refine hK _ _ ?_;clear hK;(try simp only[Au,simprocAttr])))
  rw[this]
 |true=>
  have b1':=b1;simp at b1';have q1:(1:Int)<=(s.size:Int):=by omega
  have:(match s.data.toList with|45::_=>true|_=>false)=((s.extract 0 1).data.toList==(#[45]:Array UInt8).toList):=by
   have he:(s.extract 0 1).data.toList=s.data.toList.take 1:=(by simp);rw[he];cases hl:s.data.toList with
   |nil=>rw[hl]at hsl;simp at hsl;omega
   |cons c l=>
    simp only[List.take_succ_cons,List.take_zero];by_cases hc:c=45
    ·subst hc;rfl
    ·have:([c]==(#[45]:Array UInt8).toList)=false:=(by simp[hc]);rw[this];split
     ·rename_i heq;simp at heq;exact absurd heq.1 hc
     ·rfl
  refine AF func191 ntmps191 results191 Ty.V5 ?_;repeat'(first|refine Af λK hK=>?_|((first|refine Bn ?_|refine Ej ?_);simp only[Ty.w,simprocAttr,h1,TK,b1,q1,B8,Bl,CT,Ce,Int.toNat_zero])|(refine hK _ _ ?_;clear hK;(try simp only[Au,simprocAttr])))
  rw[this]
theorem ga{h:A1}{s:ByteArray}:A6 prog 165 [A4 s,A4 ⟨#[45]⟩] h λr h'=>r=A4 (GQ s)/\h'=h:=by
 have hsl:s.data.toList.length=s.size:=by rw[F7];try rfl
 have h1:(ByteArray.mk #[45]).size=1:=rfl;have hy:A6 prog 177 [A4 s,A4 ⟨#[45]⟩] h λr h'=>r=A4 (GQ s)/\h'=h:=by
  cases b1:(match s.data.toList with|45::_=>true|_=>false)with
  |false=>
   have:GQ s=s:=by
    unfold GQ;split
    ·rename_i heq;rw[heq]at b1;simp at b1
    ·rfl
   refine AF func177 ntmps177 results177 Ty.Uz ?_;refine wt A5 ?_;refine uU b1 (VE (s:=s)) ?_;refine wt b1 ?_;rw[this]
  |true=>
   have hq: ∃ l,s.data.toList=45::l:=by
    split at b1
    ·rename_i l heq;exact⟨l,heq⟩
    ·simp at b1
   obtain⟨l,hl⟩:=hq;have q1:(1:Int)<=(s.size:Int):=(by rw[hl]at hsl;simp at hsl;omega);have:GQ s=s.extract 1 s.size:=by
    unfold GQ;rw[hl];refine Ri ?_;have hl2:=hsl;rw[hl]at hl2;simp at hl2;simp only[oT,Array.toList_extract,List.extract_eq_take_drop,hl];rw[List.drop_succ_cons,List.drop_zero,List.take_of_length_le (by omega)]
   refine AF func177 ntmps177 results177 Ty.Uz ?_;refine wt A5 ?_;refine uU b1 (VE (s:=s)) ?_;(repeat'(first|refine cK ?_|(refine nK ?_;try exact zI)|refine Af λK hK=>?_|((first|refine Bn ?_|refine Ej ?_);simp only[Ty.w,simprocAttr,b1,h1,TK,q1,B8,Bl,CT,Ce])|(refine hK _ _ ?_;clear hK;(try simp only[Au,simprocAttr]))));rw[this]
 refine AF func165 ntmps165 results165 Ty.gB ?_;refine wt A5 ?_;refine uU A5 (hy) ?_;exact wz A5
theorem Rj{h:A1}{s:ByteArray}(hs:s.size<=AI):A6 prog 143 [A4 s] h λr h'=>r= .sc (.bool (Ks s))/\h'=h:=by
 have htl:(GQ s).data.toList.length=(GQ s).size:=by rw[F7];try rfl
 have hts:(GQ s).size<=AI:=by
  have hsl:s.data.toList.length=s.size:=by rw[F7];try rfl
  unfold GQ;split
  ·rename_i l heq;rw[heq]at hsl;have:(ByteArray.mk l.toArray).size=l.length:=(by simp[ByteArray.size]);simp at hsl;omega
  ·exact hs
 unfold AI at hts;have hN:Ks s=((GQ s).data.toList.all Ff&&decide (0<(GQ s).size)):=rfl;have ht:A6 prog 165 [A4 s,A4 ⟨#[45]⟩] h λr h'=>r=A4 (GQ s)/\h'=h:=ga;generalize GQ s=u at htl hts hN ht;rw[hN]
 clear hN;refine AF func143 ntmps143 results143 Ty.fx ?_;refine wt A5 ?_;refine uU A5 (ht) ?_;refine wt A5 ?_;refine CG (λm S h'=>h'=h/\S 0=A4 u/\S 7= .sc (.int .i64 u.size)/\ ∃ k:Nat,S 8= .sc (.int .i64 k)/\k<=u.size/\m=u.size-k/\ ∀ (i:Nat)(c:UInt8),i<k->u.data.toList[i]? =some c->Ff c=true) u.size ?_ ?_
 ·simp only[Ty.w,simprocAttr];exact⟨0,rfl,by omega,rfl,by omega⟩
 ·rintro m S h' ⟨rfl,g0,g7,k,g8,hk,rfl,hall⟩;by_cases hlt:k<u.size
  ·have hd:decide ((k:Int)<(u.size:Int))=true:=(by simp;omega);have w7:IntKind.i64.wrap ((k:Int)+1)=k+1:=(by rw[BZ (by omega) (by omega)]);obtain⟨c,hx⟩: ∃ c,u.data.toList[k]? =some c:=⟨_,List.getElem?_eq_getElem (by omega)⟩;have hr:u[k]? =some c:=(by rw[Po];exact hx);cases hg:Ff c with
   |false=>
    have:u.data.toList.all Ff=false:=(by rw[List.all_eq_false];exact⟨c,List.mem_of_getElem? hx,by simp[hg]⟩);replace zz:=Ak g0 g7 g8 hd hr;refine wt zz ?_;replace zz:=Al g0 g7 g8 hd hr hg;refine uU zz (Iu (c:=c)) ?_;refine wt (uu hg yF) ?_;rw[this];try rfl
   |true=>
    replace zz:=Ak g0 g7 g8 hd hr;refine wt zz ?_;replace zz:=Al g0 g7 g8 hd hr hg;refine uU zz (Iu (c:=c)) ?_;replace zz:=Al g0 g7 g8 hg w7 yT;refine wt zz ?_;refine⟨u.size-(k+1),by omega,k+1,by simp,by omega,rfl,λi c2 hi hw=>?_⟩;by_cases hik:i=k
    ·subst hik;rw[hx]at hw;simp at hw;rw[← hw];exact hg
    ·exact hall i c2 (by omega) hw
  ·have hd:decide ((k:Int)<(u.size:Int))=false:=(by simp;omega);have hok:u.data.toList.all Ff=true:=by
    rw[List.all_eq_true];intro c hc;obtain⟨i,hi⟩:=List.getElem?_of_mem hc;exact hall i c (by have:=(List.getElem?_eq_some_iff.1 hi).1;omega) hi
   have e1:decide (0<u.size)=!(u.data.toList==(#[]:Array UInt8).toList):=by
    rw[← htl];cases u.data.toList<;>simp
   clear hall;replace zz:=Aa g0 g7 g8 hd;refine wt zz ?_;rw[hok,e1];try rfl
end Go.Proofs.YtblgchkahpgdjaaGreat
namespace Go.Proofs.YtblgchkahpgdjaaGreat
open Go.AM Go.Proofs.Tryz
set_option maxHeartbeats 2000000
set_option maxRecDepth 20000
theorem gb{l:List UInt8}{k:Nat}{c:UInt8}(h:l[k]? =some c)(hc:Ek c=none):EZ l=none:=by
 induction l generalizing k with
 |nil=>simp at h
 |cons d l ih=>
  simp only[EZ];cases k with
  |zero=>simp at h;subst h;rw[hc]
  |succ k=>
   simp at h;rw[ih h];cases Ek d<;>simp
theorem VF{l p:List UInt8}{k:Nat}{c d:UInt8}(h:l[k]? =some c)(hc:Ek c=some d)(hp:EZ (l.take k)=some p):EZ (l.take (k+1))=some (p++[d]):=by
 induction l generalizing k p with
 |nil=>simp at h
 |cons e l ih=>
  cases k with
  |zero=>simp at h;subst h;simp[EZ]at hp;subst hp;simp[EZ,hc]
  |succ k=>
   simp at h;simp only[List.take_succ_cons,EZ]at hp⊢;cases he:Ek e with
   |none=>simp[he]at hp
   |some e'=>
    rw[he]at hp;cases hq:EZ (l.take k)with
    |none=>simp[hq]at hp
    |some p'=>
     simp[hq]at hp;subst hp;rw[ih h hq];simp
theorem Pq{l p:List UInt8}(h:EZ l=some p):p.length=l.length:=by
 induction l generalizing p with
 |nil=>simp[EZ]at h;subst h;rfl
 |cons e l ih=>
  simp only[EZ]at h;split at h
  ·cases hq:EZ l with
   |none=>simp[hq]at h
   |some p'=>simp[hq]at h;subst h;simp[ih hq]
  ·simp at h
theorem VG(l:List UInt8):(EV l).length=l.length:=by simp[EV]
theorem gf{l:List UInt8}{k:Nat}{c:UInt8}(h:l[k]? =some c):(EV l)[k]? =some [.sc (.int .u8 c.toNat)]:=by simp[EV,h]
theorem gh(l:List UInt8)(k:Nat)(c:UInt8):(EV l).set k [.sc (.int .u8 c.toNat)]=EV (l.set k c):=by simp[EV,List.map_set]
structure Lw(h:A1)(l:List UInt8)(k:Nat)(h':A1):Prop where
 grow:AH h h'
 ex: ∃ p,EZ (l.take k)=some p/\h'.obj h.next=some (.arr 1 (EV (p++l.drop k)))
theorem Lw.MQ{h h':A1}{l:List UInt8}{k:Nat}{c:UInt8}(i:Lw h l k h')(hc:l[k]? =some c)(hl:Ek c=some c):Lw h l (k+1) h':=by
 obtain⟨p,hp,ho⟩:=i.ex;refine⟨i.grow,p++[c],VF hc hl hp,?_⟩;rw[ho];obtain⟨hk,rfl⟩:=List.getElem?_eq_some_iff.1 hc;rw[List.drop_eq_getElem_cons hk];simp
theorem Lw.put{h h':A1}{l:List UInt8}{k:Nat}{c d:UInt8}{rows:List (List PV)}(i:Lw h l k h')(hc:l[k]? =some c)(hl:Ek c=some d)(hr:h'.obj h.next=some (.arr 1 rows)):
  Lw h l (k+1) (h'.set h.next (.arr 1 (rows.set k [.sc (.int .u8 d.toNat)]))):=by
 obtain⟨p,hp,ho⟩:=i.ex;refine⟨i.grow.set (AG _) _,p++[d],VF hc hl hp,?_⟩;rw[ho]at hr;simp at hr;subst hr;have hpl:=Pq hp;obtain⟨hk,rfl⟩:=List.getElem?_eq_some_iff.1 hc;simp only[A1.set,AO,gh];rw[List.length_take]at hpl;rw[List.set_append_right _ _ (by omega),List.drop_eq_getElem_cons hk,show k-p.length=0 by omega,List.set_cons_zero];simp
theorem VH(x:Int)(h0:0<=x)(h1:x<256):IntKind.u8.wrap x=x:=by
 unfold IntKind.wrap;simp[IntKind.signed,IntKind.bits];omega
theorem gi(c:UInt8):
  (IJ c=false/\EY c=false/\decide ((c.toNat:Int)>=65)=false/\decide ((c.toNat:Int)>=97)=false)\/
  (IJ c=true/\decide ((c.toNat:Int)>=65)=true/\decide ((c.toNat:Int)<=90)=true)\/
  (IJ c=false/\EY c=false/\decide ((c.toNat:Int)>=65)=true/\decide ((c.toNat:Int)<=90)=false/\decide ((c.toNat:Int)>=97)=false)\/
  (IJ c=false/\EY c=true/\decide ((c.toNat:Int)>=65)=true/\decide ((c.toNat:Int)<=90)=false/\decide ((c.toNat:Int)>=97)=true/\decide ((c.toNat:Int)<=122)=true)\/
  (IJ c=false/\EY c=false/\decide ((c.toNat:Int)>=65)=true/\decide ((c.toNat:Int)<=90)=false/\decide ((c.toNat:Int)>=97)=true/\decide ((c.toNat:Int)<=122)=false):=by
 simp only[IJ,EY,AV,oS,Bg,D7];omega
theorem gj{h:A1}{s:ByteArray}:A6 prog 142 [A4 s] h λr h'=>r= .Am [A4 (FB s).1,.sc (.bool (FB s).2)]/\h'=h:=by
 have hsl:s.data.toList.length=s.size:=by rw[F7];try rfl
 refine A6.pF Ty.Pj ?_;cases b1:(s.data.toList==(#[]:Array UInt8).toList)with
 |true=>
  have:FB s=(⟨#[]⟩,false):=by
   unfold FB;rw[A8];have:s.data.toList=[]:=(by simpa using b1);rw[this]at hsl;simp at hsl;omega
  refine AF func142 ntmps142 results142 Ty.Pj ?_;refine wt b1 ?_;rw[this];exact⟨rfl,AH.refl _⟩
 |false=>
  have hpos:0<s.size:=by
   rcases Nat.eq_zero_or_pos s.size with h0|h0
   ·rw [h0]at hsl;have:=List.eq_nil_of_length_eq_zero hsl;rw[this]at b1;simp at b1
   ·exact h0
  cases b2:decide ((s.size:Int)>32)with
  |true=>
   have:FB s=(⟨#[]⟩,false):=by
    unfold FB;rw[A8];simp at b2;omega
   refine AF func142 ntmps142 results142 Ty.Pj ?_;refine wt (uu b1 b2) ?_;rw[this];exact⟨rfl,AH.refl _⟩
  |false=>
   have h32:s.size<=32:=(by simp at b2;omega);have hsz:s.size<=140737488355328:=(by omega);have hS:FB s=(match EZ s.data.toList with|some l=>(⟨l.toArray⟩,true)|none=>(⟨#[]⟩,false)):=(by unfold FB;rw[AK ⟨hpos,h32⟩];try rfl);refine uG (ow:=λt=>t==15) (wf:=λ_=>false) func142 ntmps142 results142 Ty.Pj ?_;refine wt (AY b1 b2 hsz) ?_;refine CG (λm S h'=>S 4= .own h.next 0 s.data.toList.length/\S 16= .own h.next 0 s.data.toList.length/\S 17= .sc (.int .i64 s.data.toList.length)/\ ∃ k:Nat,S 18= .sc (.int .i64 k)/\k<=s.data.toList.length/\m=s.data.toList.length-k/\Lw h s.data.toList k h') s.data.toList.length ?_ ?_
   ·simp only[Ty.w,simprocAttr];refine⟨0,rfl,by omega,rfl,(AH.refl h).new _,[],rfl,?_⟩;simp[A1.new]
   ·rintro m S h' ⟨g4,g16,g17,k,g18,hk,rfl,hI⟩;by_cases hlt:k<s.data.toList.length
    ·have hd:decide ((k:Int)<(s.data.toList.length:Int))=true:=(by simp;omega);have w7:IntKind.i64.wrap ((k:Int)+1)=k+1:=(by rw[BZ (by omega) (by omega)]);obtain⟨c,hx⟩: ∃ c,s.data.toList[k]? =some c:=⟨_,List.getElem?_eq_getElem hlt⟩;obtain⟨p,hp,ho⟩:=hI.ex;have hpl:=Pq hp;rw[List.length_take]at hpl;have hgr:=hI.grow;have hlen:(EV (p++s.data.toList.drop k)).length=s.data.toList.length:=(by rw[VG,List.length_append,List.length_drop];omega);have hr:(EV (p++s.data.toList.drop k))[k]? =some [.sc (.int .u8 c.toNat)]:=by
      refine gf ?_;rw[List.getElem?_append_right (by omega),List.getElem?_drop,show k+(k-p.length)=k by omega];exact hx
     have bad:Ek c=none->PV.Am [.sc (.string ⟨#[]⟩),.sc (.bool false)]= .Am [A4 (FB s).1,.sc (.bool (FB s).2)]:=λe=>(by rw[hS,gb hx e]);generalize hrows:EV (p++s.data.toList.drop k)=rows at ho hlen hr;have hho:=ho;rcases gi c with⟨hup,hlet,a1,a3⟩|⟨hup,a1,a2⟩|⟨hup,hlet,a1,a2,a3⟩|⟨hup,hlet,a1,a2,a3,a4⟩|⟨hup,hlet,a1,a2,a3,a4⟩
     ·cases hg:Ff c with
      |true=>
       have hw:wB c=true:=(by simp[wB,hg]);replace zz:=Ab g4 g16 g17 g18 hd hho hlen hr hlt @Bf a1 a3;refine wt zz ?_;replace zz:=Ab g4 g16 g17 g18 hd hho hlen hr hlt @Bf a1 (uu a3 hg);refine uU zz (Iu (c:=c)) ?_;replace zz:=Ab g4 g16 g17 g18 hd hho hlen hr hlt @Bf a1 (AY a3 hg w7);refine wt zz ?_;exact⟨s.data.toList.length-(k+1),by omega,k+1,by simp,by omega,rfl,hI.MQ hx (by simp[Ek,hup,hw])⟩
      |false=>
       cases hs2:Lu.contains c with
       |true=>
        have hw:wB c=true:=(by simp only[wB,hs2,TI]);have hfi:decide (firstIdx ⟨#[45,95,63,58,60,62,61,43,42]⟩ c>=0)=true:=(by rw[Ml];exact hs2);replace zz:=Ab g4 g16 g17 g18 hd hho hlen hr hlt @Bf a1 a3;refine wt zz ?_;replace zz:=Ab g4 g16 g17 g18 hd hho hlen hr hlt @Bf a1 (uu a3 hg);refine uU zz (Iu (c:=c)) ?_;refine wt zz ?_;replace zz:=Ab g4 g16 g17 g18 hd hho hlen hr hlt @Bf a1 (AY a3 hg hfi);refine uU zz (Mm (s:=⟨#[45,95,63,58,60,62,61,43,42]⟩) (c:=c)) ?_;replace zz:=Ab g4 g16 g17 g18 hd hho hlen hr hlt @Bf a1 (Aa a3 hg hfi w7);refine wt zz ?_;exact⟨s.data.toList.length-(k+1),by omega,k+1,by simp,by omega,rfl,hI.MQ hx (by simp[Ek,hup,hw])⟩
       |false=>
        have hw:wB c=false:=(by simp only[wB,hs2,hg,hlet,Gq]);have hfi:decide (firstIdx ⟨#[45,95,63,58,60,62,61,43,42]⟩ c>=0)=false:=(by rw[Ml];exact hs2);replace zz:=Ab g4 g16 g17 g18 hd hho hlen hr hlt @Bf a1 a3;refine wt zz ?_;replace zz:=Ab g4 g16 g17 g18 hd hho hlen hr hlt @Bf a1 (uu a3 hg);refine uU zz (Iu (c:=c)) ?_;refine wt zz ?_;replace zz:=Ab g4 g16 g17 g18 hd hho hlen hr hlt @Bf a1 (AY a3 hg hfi);refine uU zz (Mm (s:=⟨#[45,95,63,58,60,62,61,43,42]⟩) (c:=c)) ?_;refine wt zz ?_;exact⟨bad (by simp[Ek,hup,hw]),hgr⟩
     ·have hu:65<=c.toNat/\c.toNat<=90:=(by simpa[IJ]using hup);have hadd:(c+32).toNat=c.toNat+32:=(by rw[UInt8.toNat_add];simp;omega);have w1:IntKind.u8.wrap ((c.toNat:Int)+97)=(c.toNat:Int)+97:=VH _ (by omega) (by omega);have w2:IntKind.u8.wrap ((c.toNat:Int)+97-65)=((c+32).toNat:Int):=(by rw[VH _ (by omega) (by omega),hadd];omega);replace zz:=Ab g4 g16 g17 g18 hd hho hlen hr hlt a1 a2 (Aa w1 w2 w7 @Bf);refine wt zz ?_;exact⟨s.data.toList.length-(k+1),by omega,k+1,by simp,by omega,rfl,hI.put hx (by simp[Ek,hup]) ho⟩
     ·cases hg:Ff c with
      |true=>
       have hw:wB c=true:=(by simp[wB,hg]);replace zz:=Ab g4 g16 g17 g18 hd hho hlen hr hlt @Bf a1 (uu a2 a3);refine wt zz ?_;replace zz:=Ab g4 g16 g17 g18 hd hho hlen hr hlt @Bf a1 (AY a2 a3 hg);refine uU zz (Iu (c:=c)) ?_;replace zz:=Ab g4 g16 g17 g18 hd hho hlen hr hlt @Bf a1 (Aa a2 a3 hg w7);refine wt zz ?_;exact⟨s.data.toList.length-(k+1),by omega,k+1,by simp,by omega,rfl,hI.MQ hx (by simp[Ek,hup,hw])⟩
      |false=>
       cases hs2:Lu.contains c with
       |true=>
        have hw:wB c=true:=(by simp only[wB,hs2,TI]);have hfi:decide (firstIdx ⟨#[45,95,63,58,60,62,61,43,42]⟩ c>=0)=true:=(by rw[Ml];exact hs2);replace zz:=Ab g4 g16 g17 g18 hd hho hlen hr hlt @Bf a1 (uu a2 a3);refine wt zz ?_;replace zz:=Ab g4 g16 g17 g18 hd hho hlen hr hlt @Bf a1 (AY a2 a3 hg);refine uU zz (Iu (c:=c)) ?_;refine wt zz ?_;replace zz:=Ab g4 g16 g17 g18 hd hho hlen hr hlt @Bf a1 (Aa a2 a3 hg hfi);refine uU zz (Mm (s:=⟨#[45,95,63,58,60,62,61,43,42]⟩) (c:=c)) ?_;replace zz:=Ab g4 g16 g17 g18 hd hho hlen hr hlt @Bf a1 (Ak a2 a3 hg hfi w7);refine wt zz ?_;exact⟨s.data.toList.length-(k+1),by omega,k+1,by simp,by omega,rfl,hI.MQ hx (by simp[Ek,hup,hw])⟩
       |false=>
        have hw:wB c=false:=(by simp only[wB,hs2,hg,hlet,Gq]);have hfi:decide (firstIdx ⟨#[45,95,63,58,60,62,61,43,42]⟩ c>=0)=false:=(by rw[Ml];exact hs2);replace zz:=Ab g4 g16 g17 g18 hd hho hlen hr hlt @Bf a1 (uu a2 a3);refine wt zz ?_;replace zz:=Ab g4 g16 g17 g18 hd hho hlen hr hlt @Bf a1 (AY a2 a3 hg);refine uU zz (Iu (c:=c)) ?_;refine wt zz ?_;replace zz:=Ab g4 g16 g17 g18 hd hho hlen hr hlt @Bf a1 (Aa a2 a3 hg hfi);refine uU zz (Mm (s:=⟨#[45,95,63,58,60,62,61,43,42]⟩) (c:=c)) ?_;refine wt zz ?_;exact⟨bad (by simp[Ek,hup,hw]),hgr⟩
     ·replace zz:=Ab g4 g16 g17 g18 hd hho hlen hr hlt a1 a2 (Aa a3 a4 w7 @Bf);refine wt zz ?_;exact⟨s.data.toList.length-(k+1),by omega,k+1,by simp,by omega,rfl,hI.MQ hx (by simp[Ek,hup,wB,hlet])⟩
     ·cases hg:Ff c with
      |true=>
       have hw:wB c=true:=(by simp[wB,hg]);replace zz:=Ab g4 g16 g17 g18 hd hho hlen hr hlt @Bf a1 (AY a2 a3 a4);refine wt zz ?_;replace zz:=Ab g4 g16 g17 g18 hd hho hlen hr hlt @Bf a1 (Aa a2 a3 a4 hg);refine uU zz (Iu (c:=c)) ?_;replace zz:=Ab g4 g16 g17 g18 hd hho hlen hr hlt @Bf a1 (Ak a2 a3 a4 hg w7);refine wt zz ?_;exact⟨s.data.toList.length-(k+1),by omega,k+1,by simp,by omega,rfl,hI.MQ hx (by simp[Ek,hup,hw])⟩
      |false=>
       cases hs2:Lu.contains c with
       |true=>
        have hw:wB c=true:=(by simp only[wB,hs2,TI]);have hfi:decide (firstIdx ⟨#[45,95,63,58,60,62,61,43,42]⟩ c>=0)=true:=(by rw[Ml];exact hs2);replace zz:=Ab g4 g16 g17 g18 hd hho hlen hr hlt @Bf a1 (AY a2 a3 a4);refine wt zz ?_;replace zz:=Ab g4 g16 g17 g18 hd hho hlen hr hlt @Bf a1 (Aa a2 a3 a4 hg);refine uU zz (Iu (c:=c)) ?_;refine wt zz ?_;replace zz:=Ab g4 g16 g17 g18 hd hho hlen hr hlt @Bf a1 (Ak a2 a3 a4 hg hfi);refine uU zz (Mm (s:=⟨#[45,95,63,58,60,62,61,43,42]⟩) (c:=c)) ?_;replace zz:=Ab g4 g16 g17 g18 hd hho hlen hr hlt @Bf a1 (Al a2 a3 a4 hg hfi w7);refine wt zz ?_;exact⟨s.data.toList.length-(k+1),by omega,k+1,by simp,by omega,rfl,hI.MQ hx (by simp[Ek,hup,hw])⟩
       |false=>
        have hw:wB c=false:=(by simp only[wB,hs2,hg,hlet,Gq]);have hfi:decide (firstIdx ⟨#[45,95,63,58,60,62,61,43,42]⟩ c>=0)=false:=(by rw[Ml];exact hs2);replace zz:=Ab g4 g16 g17 g18 hd hho hlen hr hlt @Bf a1 (AY a2 a3 a4);refine wt zz ?_;replace zz:=Ab g4 g16 g17 g18 hd hho hlen hr hlt @Bf a1 (Aa a2 a3 a4 hg);refine uU zz (Iu (c:=c)) ?_;refine wt zz ?_;replace zz:=Ab g4 g16 g17 g18 hd hho hlen hr hlt @Bf a1 (Ak a2 a3 a4 hg hfi);refine uU zz (Mm (s:=⟨#[45,95,63,58,60,62,61,43,42]⟩) (c:=c)) ?_;refine wt zz ?_;exact⟨bad (by simp[Ek,hup,hw]),hgr⟩
    ·have hd:decide ((k:Int)<(s.data.toList.length:Int))=false:=(by simp;omega);have hke:k=s.data.toList.length:=(by omega);subst hke;obtain⟨p,hp,ho⟩:=hI.ex;rw[List.take_length]at hp;rw[List.drop_length,List.append_nil]at ho;have hpl:=Pq hp;have hlen:(EV p).length=s.data.toList.length:=(by rw[VG];exact hpl);have htk:List.take s.data.toList.length (EV p)=EV p:=(by rw[List.take_of_length_le (by omega)]);have hbr:=Z6 p;replace zz:=B9 g4 g16 g17 g18 hd ho hlen htk hbr @Bf;(repeat'(first|refine cK ?_|refine nK ?_|refine Af λK hK=>?_|refine uR zz ?_|refine uT zz ?_|refine uX ?_|refine C2 zz ?_|(refine uN hK ?_;clear hK)|(clear hK;refine uN hK ?_;clear hK)|(rw[AK];rotate_left 1;omega;simp only[Ty.w,simprocAttr,g4,g16,g17,g18,hd,ho,hlen,htk,hbr,Bf])|apply zI));rw[hS,hp];exact⟨rfl,hI.grow⟩
end Go.Proofs.YtblgchkahpgdjaaGreat
namespace Go.Proofs.YtblgchkahpgdjaaGreat
open Go.AM Go.Proofs.Tryz
set_option maxHeartbeats 2000000
set_option maxRecDepth 20000
theorem Cd{α:Type}{l:List α}{k:Nat}{a:α}(h:l[k]? =some a):l.drop k=a::l.drop (k+1):=by
 obtain⟨hl,rfl⟩:=List.getElem?_eq_some_iff.1 h;exact List.drop_eq_getElem_cons hl
theorem VI: ∀ {l m:List ByteArray},¬ l.length=m.length->FO l m=false
 |[],[],h=>by simp at h
 |[],_::_,_=>rfl
 |_::_,[],_=>rfl
 |a::l,b::m,h=>by simp only[FO,VI (l:=l) (m:=m) (by simpa using h),BH]
theorem VJ: ∀ {l m:List Pm},¬ l.length=m.length->Di l m=false
 |[],[],h=>by simp at h
 |[],_::_,_=>rfl
 |_::_,[],_=>rfl
 |a::l,b::m,h=>by simp only[Di,VJ (l:=l) (m:=m) (by simpa using h),BH]
theorem Ny{h:A1}{l m:List ByteArray}(hl:l.length<=AI)(hm:m.length<=AI):A6 prog 137 [.A2 1 (AN l),.A2 1 (AN m)] h λr h'=>r= .sc (.bool (FO l m))/\h'=h:=by
 unfold AI at hl hm;have hll:=GP l;have hlm:=GP m;refine AF func137 ntmps137 results137 Ty.fw ?_;cases hne:((l.length:Int) !=m.length)with
 |true=>
  have:FO l m=false:=VI (by simp at hne;omega);refine wt (AY hll hlm hne) ?_;rw[this]
 |false=>
  have hlen:l.length=m.length:=by simp at hne;omega
  refine wt (AY hll hlm hne) ?_;refine CG (λc S h'=>h'=h/\S 0= .A2 1 (AN l)/\S 1= .A2 1 (AN m)/\S 12= .sc (.int .i64 l.length)/\ ∃ k:Nat,S 13= .sc (.int .i64 k)/\k<=l.length/\c=l.length-k/\FO l m=FO (l.drop k) (m.drop k)) l.length ?_ ?_
  ·simp only[Ty.w,simprocAttr];exact⟨0,rfl,by omega,rfl,by simp⟩
  ·rintro c S h' ⟨rfl,g0,g1,g12,k,gk,hkl,rfl,hinv⟩;by_cases hlt:k<l.length
   ·have hd:decide ((k:Int)<(l.length:Int))=true:=(by simp;omega);have w7:IntKind.i64.wrap ((k:Int)+1)=k+1:=(by rw[BZ (by omega) (by omega)]);obtain⟨a,hx⟩: ∃ a,l[k]? =some a:=⟨_,List.getElem?_eq_getElem hlt⟩;obtain⟨b,hy⟩: ∃ b,m[k]? =some b:=⟨_,List.getElem?_eq_getElem (by omega)⟩;rw[Cd hx,Cd hy]at hinv;simp only[FO]at hinv;have hr:=Kr hx;have hr2:=Kr hy;cases he:(a.data.toList==b.data.toList)with
    |false=>
     simp only[A3,he,BF]at hinv;replace zz:=Ab g0 g1 g12 gk hll hlm hd hr hr2 he w7 yF;refine wy zz ?_;rw[hinv]
    |true=>
     simp only[A3,he,BG]at hinv;replace zz:=Ab g0 g1 g12 gk hll hlm hd hr hr2 he w7 yT;refine wy zz ?_;exact⟨l.length-(k+1),by omega,k+1,by simp,by omega,rfl,hinv⟩
   ·have hd:decide ((k:Int)<(l.length:Int))=false:=(by simp;omega);rw[List.drop_eq_nil_of_le (by omega),List.drop_eq_nil_of_le (by omega)]at hinv;simp only[FO]at hinv;replace zz:=Al g0 g1 g12 gk hll hd;refine wt zz ?_;rw[hinv]
theorem K0{h:A1}{l m:List Pm}(hl:l.length<=AI)(hm:m.length<=AI):A6 prog 69 [.A2 2 (A9 l),.A2 2 (A9 m)] h λr h'=>r= .sc (.bool (Di l m))/\h'=h:=by
 unfold AI at hl hm;have hll:=Gw l;have hlm:=Gw m;refine AF func69 ntmps69 results69 Ty.fW ?_;cases hne:((l.length:Int) !=m.length)with
 |true=>
  have:Di l m=false:=VJ (by simp at hne;omega);refine wt (AY hll hlm hne) ?_;rw[this]
 |false=>
  have hlen:l.length=m.length:=by simp at hne;omega
  refine wt (AY hll hlm hne) ?_;refine CG (λc S h'=>h'=h/\S 0= .A2 2 (A9 l)/\S 1= .A2 2 (A9 m)/\S 12= .sc (.int .i64 l.length)/\ ∃ k:Nat,S 13= .sc (.int .i64 k)/\k<=l.length/\c=l.length-k/\Di l m=Di (l.drop k) (m.drop k)) l.length ?_ ?_
  ·simp only[Ty.w,simprocAttr];exact⟨0,rfl,by omega,rfl,by simp⟩
  ·rintro c S h' ⟨rfl,g0,g1,g12,k,gk,hkl,rfl,hinv⟩;by_cases hlt:k<l.length
   ·have hd:decide ((k:Int)<(l.length:Int))=true:=(by simp;omega);have w7:IntKind.i64.wrap ((k:Int)+1)=k+1:=(by rw[BZ (by omega) (by omega)]);obtain⟨a,hx⟩: ∃ a,l[k]? =some a:=⟨_,List.getElem?_eq_getElem hlt⟩;obtain⟨b,hy⟩: ∃ b,m[k]? =some b:=⟨_,List.getElem?_eq_getElem (by omega)⟩;rw[Cd hx,Cd hy]at hinv;simp only[Di]at hinv;have hr:=Nn hx;have hr2:=Nn hy;cases he:RO a b with
    |false=>
     have he':(a.name.data.toList==b.name.data.toList&&a.type.data.toList==b.type.data.toList)=false:=he;rw[he,BF]at hinv;replace zz:=Ab g0 g1 g12 gk hll hlm hd hr hr2 he' w7 yF;refine wy zz ?_;rw[hinv]
    |true=>
     have he':(a.name.data.toList==b.name.data.toList&&a.type.data.toList==b.type.data.toList)=true:=he;rw[he,BG]at hinv;replace zz:=Ab g0 g1 g12 gk hll hlm hd hr hr2 he' w7 yT;refine wy zz ?_;exact⟨l.length-(k+1),by omega,k+1,by simp,by omega,rfl,hinv⟩
   ·have hd:decide ((k:Int)<(l.length:Int))=false:=(by simp;omega);rw[List.drop_eq_nil_of_le (by omega),List.drop_eq_nil_of_le (by omega)]at hinv;simp only[Di]at hinv;replace zz:=Al g0 g1 g12 gk hll hd;refine wt zz ?_;rw[hinv]
end Go.Proofs.YtblgchkahpgdjaaGreat
namespace Go.AM
def Tl(h:A1)(id0 z:Nat)(p:PV)(rows:List (List PV)):Prop:=
 (rows=[]/\(p= .sc (.slice none 0 0)\/p= .emp))\/ ∃ id,id0<=id/\id<h.next/\p= .own id 0 rows.length/\h.obj id=some (.arr z rows)
variable {h:A1}{id0 z:Nat}{p:PV}{rows:List (List PV)}
theorem Tl.nil:Tl h id0 z (.sc (.slice none 0 0)) []:= .inl ⟨rfl,.inl rfl⟩
theorem Tl.sl(t:Tl h id0 z p rows):Sl h z p rows:=by
 rcases t with⟨rfl,rfl|rfl⟩|⟨id,_,_,rfl,ho⟩
 ·exact Sl.nil
 ·exact Sl.emp
 ·exact Sl.pE ho
theorem Tl.tail(t:Tl h id0 z p rows): ∃ H,EW h p=some (H,rows)/\De h z p=true/\H.next=h.next/\(∀ j,j<id0->H.obj j=h.obj j)/\(∀ h0,PZ h0 h->h0.next<=id0->PZ h0 H):=by
 rcases t with⟨rfl,rfl|rfl⟩|⟨id,h1,h2,rfl,ho⟩
 ·exact ⟨h,rfl,rfl,rfl,λ_ _=>rfl,λ_ hk _=>hk⟩
 ·exact ⟨h,rfl,rfl,rfl,λ_ _=>rfl,λ_ hk _=>hk⟩
 ·refine ⟨h.kill id,by simp[EW,ho],by simp[De,ho],rfl,λj hj=>?_,λh0 hk hn=>eO (by omega) hk⟩;rw[PU,A8 (by omega)]
theorem Tl.grow{H:A1}{len:Nat}(hn:id0<=H.next)(hl:len=rows.length):Tl (H.new (.arr z rows)) id0 z (.own H.next 0 len) rows:=
 .inr ⟨H.next,hn,Nat.lt_succ_self _,by rw[hl],by rw[RI,AK rfl]⟩
theorem Tl.up{h':A1}(t:Tl h id0 z p rows)(hn:h.next<=h'.next)(ho: ∀ j,id0<=j->j<h.next->h'.obj j=h.obj j):Tl h' id0 z p rows:=by
 rcases t with ht|⟨id,h1,h2,rfl,h3⟩
 ·exact .inl ht
 ·exact .inr ⟨id,h1,by omega,rfl,by rw[ho id h1 h2];exact h3⟩
theorem VK{n:Nat}:(l:List PV)->(∀ p∈l, ∃ v,p= .sc v)->AP n h l l
 |[],_=>by simp only[AP]
 |p::l,hp=>by
  obtain⟨v,hv⟩:=hp p (by simp);simp only[AP];exact⟨by rw[hv];simp only[AJ],VK l (λq hq=>hp q (by simp[hq]))⟩
theorem Rk{n:Nat}:(l:List (List PV))->(∀ r∈l, ∀ p∈r, ∃ v,p= .sc v)->DA n h l l
 |[],_=>by simp only[DA]
 |r::l,hp=>by
  simp only[DA];exact⟨VK r (hp r (by simp)),Rk l (λq hq=>hp q (by simp[hq]))⟩
theorem Tl.CF(t:Tl h id0 z p rows)(hs: ∀ r∈rows, ∀ p∈r, ∃ v,p= .sc v):AJ id0 h (.A2 z rows) p:=by
 simp only[AJ];rcases t with⟨h1,h2⟩|⟨id,h1,h2,rfl,ho⟩
 ·exact .inr (.inl ⟨h1,h2.symm⟩)
 ·refine .inr (.inr ⟨id,0,_,_,rfl,h1,ho,by omega,?_⟩);rw[List.drop_zero,List.take_of_length_le (by omega)];exact Rk _ hs
theorem DK{P:Program}{ow:Nat->Bool}{n:Nat}{s:AD}{f:FuncId}{dst:Option Tmp}{args:List Operand}{ts:Array TypeId}{ty:TypeId}{pos:String}{af:Array Edge}{gd:Option (Nat × Bool)}{ags:List PV}{v:PV}{h1:A1}{K:AD->A1->Prop}{ops rest:List Oper}
  (hc:A6 P f ags h λr h'=>r=v/\h'=h1)(ha:args.map (AB s)=ags)(hk:E7 P ow n ops rest K (Ai s dst v) h1):
  CY P ow {dst:=dst,op:= .call {callee:= .value (.func f),args:=args.toArray,argTypes:=ts},type:=ty,pos:=pos,after:=af,guard:=gd} (Ei P ow n ops rest K) s h:=
 RN hc ha λr h' hr=>by rw[hr.1,hr.2];exact hk
end Go.AM
namespace Go.Proofs.YtblgchkahpgdjaaGreat
open Go.AM Go.Proofs.Tryz
set_option maxHeartbeats 2000000
set_option maxRecDepth 20000
structure CQ(h:A1)(id:Nat)(o:An)(h':A1):Prop where
 le:h.next<=h'.next
 B6: ∀ i,i<h.next->i≠id->h'.obj i=h.obj i
 at_:h'.obj id=some o
theorem CQ.new{h h':A1}{id:Nat}{o o2:An}(g:CQ h id o h')(hid:id<h.next):CQ h id o (h'.new o2):=
 ⟨ES g.le (by simp[A1.new]),λi hi hne=>by simp only[A1.new];rw[A8 (by have:=g.le;omega)];exact g.B6 i hi hne,by simp only[A1.new];rw[A8 (by have:=g.le;omega)];exact g.at_⟩
theorem CQ.set{h h':A1}{id j:Nat}{o o2:An}(g:CQ h id o h')(hid:id<h.next)(hj:h.next<=j):CQ h id o (h'.set j o2):=
 ⟨g.le,λi hi hne=>by simp only[A1.set];rw[A8 (by omega)];exact g.B6 i hi hne,by simp only[A1.set];rw[A8 (by omega)];exact g.at_⟩
theorem CQ.put{h h':A1}{id:Nat}{o o2:An}(g:CQ h id o h'):CQ h id o2 (h'.set id o2):=
 ⟨g.le,λi hi hne=>by simp only[A1.set];rw[A8 hne];exact g.B6 i hi hne,by simp[A1.set]⟩
theorem CQ.refl{h:A1}{id:Nat}{o:An}(ho:h.obj id=some o):CQ h id o h:=⟨AG _,λ_ _ _=>rfl,ho⟩
theorem A6.Yx{P:Program}{f:FuncId}{args:List PV}{h:A1}{v:Value}{id:Nat}{o o0:An}(hb:Ad P f=true)(hid:h.obj id=some o0)(hfl:Eu h.next o)(hc:A6 P f args h λr h'=>r= .sc v/\CQ h id o h'):
  A6 P f args h λr h'=>r= .sc v/\h'=h.set id o:=by
 refine JL hb λhw=>A6.drop (hc.mono ?_);rintro r h' ⟨rfl,g⟩;refine⟨.sc v,h.set id o,⟨rfl,rfl⟩,by simp only[AJ],AG _,λi oo ho=>?_⟩;have hlt:=hw id (by rw[hid];try rfl);simp only[A1.set]at ho;split at ho
 ·rename_i hi;subst hi;simp at ho;subst ho;exact⟨g.at_,hlt,.inr hfl⟩
 ·rename_i hi;have h1:=hw i (by rw[ho];try rfl);exact⟨by rw[g.B6 i h1 hi];exact ho,h1,.inl ho⟩
theorem gl(s:ByteArray):(FB s).1.size<=32:=by
 unfold FB;split
 ·rename_i hc;split
  ·rename_i l hl;have h1:=Pq hl;have hsl:s.data.toList.length=s.size:=(by rw[F7];try rfl);have:(ByteArray.mk l.toArray).size=l.length:=(by simp[ByteArray.size]);simp only[this];omega
  ·simp [ByteArray.size]
 ·simp [ByteArray.size]
mutual
theorem VL: ∀ (x:Sx)(d n:Nat),(CM x d n).1=true->(CM x d n).2<=4096
 | .mk kind value line col text kids,d,n=>by
  unfold CM;split
  ·simp
  ·rename_i hn;split
   ·intro _;simp only;omega
   ·split
    ·intro _;simp only;omega
    ·split
     ·split
      ·exact VM kids (d+1) (n+1) (by omega)
      ·simp
     ·simp
theorem VM: ∀ (l:List Sx)(d n:Nat),n<=4096->(Gx l d n).1=true->(Gx l d n).2<=4096
 |[],d,n,hn=>by simp[Gx,hn]
 |k::ks,d,n,hn=>by
  unfold Gx;have h1:=VL k d n;split
  ·rename_i n' he;rw[he]at h1;exact VM ks d n' (h1 rfl)
  ·simp
end
theorem Lx(n:Nat):((n+1:Nat):Int)=(n:Int)+1:=by simp
def D4(n:Nat):An:= .arr 1 [[.sc (.int .i64 n)]]
theorem gm: ∀ (x:Sx),x.ok-> ∀ (d n:Nat),d<=32->n<=4096-> ∀ (id:Nat)(h:A1),h.obj id=some (D4 n)->
  A6 prog 101 [.agg x.cells,.sc (.int .i64 d),.ptr id 0 0] h λr h'=>r= .sc (.bool (CM x d n).1)/\h'=h.set id (D4 (CM x d n).2):=by
 refine Sx.ind ?_;intro kind value line col text kids ih hok d n hd hn id h ho;simp only[Sx.ok]at hok;obtain⟨_,_,ht,hk,hks⟩:=hok;rw[Sx.Bz]at hks;have hlen:=Sx.B4 kids;have wn:IntKind.i64.wrap ((n:Int)+1)=(n:Int)+1:=by rw[BZ (by omega) (by omega)]
 refine JL Ty.GO λhwf=>?_;have hid:id<h.next:=hwf id (by rw[ho];try rfl)
 refine A6.Yx Ty.GO ho (by simp[D4,Eu,BC,Br,Be]) ?_;have ho':=ho;simp only[D4]at ho';have G1:CQ h id (D4 (n+1)) (h.set id (.arr 1 [[.sc (.int .i64 ((n:Int)+1))]])):=by
  have:=(CQ.refl ho).put (o2:=D4 (n+1));simp only[D4,Lx]at this⊢;exact this
 unfold CM;simp only[Sx.cells];cases b0:decide ((n:Int)+1>4096)with
 |true=>
  rw[AK (by simp at b0;omega)];refine AF func101 ntmps101 results101 Ty.GO ?_;refine wt (AY ho' wn b0) ?_;first|exact G1|exact⟨rfl,G1⟩
 |false=>
  rw[A8 (by simp at b0;omega)];cases k1:(kind==1)with
  |true=>
   have hk1:kind=1:=(by simpa using k1);rw[AK hk1];have e1:(kids.isEmpty)=((kids.length:Int)==0):=(by cases kids<;>simp;omega);have hlow:=λh:A1=>gj (h:=h) (s:=text);have hsz:=gl text;have hW:JN text=((FB text).2&&((FB text).1.data.toList==text.data.toList)&&!(Ks (FB text).1)):=rfl;generalize hL:FB text=L at hlow hsz hW;obtain⟨w,ok⟩:=L;simp only at hlow hsz hW;have hwb:w.size<=AI:=(by unfold AI;omega);rw[hW];cases ok with
   |false=>
    refine AF func101 ntmps101 results101 Ty.GO ?_;replace zz:=Aa ho' wn b0 k1;refine wt zz ?_;replace zz:=Aa ho' wn b0 k1;refine uU zz (hlow _) ?_;refine wt zz ?_;first|exact G1|exact⟨rfl,G1⟩
   |true=>
    cases c1:(w.data.toList==text.data.toList)with
    |false=>
     refine AF func101 ntmps101 results101 Ty.GO ?_;replace zz:=Aa ho' wn b0 k1;refine wt zz ?_;replace zz:=Aa ho' wn b0 k1;refine uU zz (hlow _) ?_;replace zz:=Ak ho' wn b0 k1 c1;refine wt zz ?_;first|exact G1|exact⟨rfl,G1⟩
    |true=>
     cases c2:Ks w with
     |true=>
      refine AF func101 ntmps101 results101 Ty.GO ?_;replace zz:=Aa ho' wn b0 k1;refine wt zz ?_;replace zz:=Aa ho' wn b0 k1;refine uU zz (hlow _) ?_;replace zz:=Ak ho' wn b0 k1 c1;refine wt zz ?_;replace zz:=Ah ho' wn b0 k1 c1 c2 yT;refine uU zz (Rj (s:=w) hwb) ?_;refine wt zz ?_;first|exact G1|exact⟨rfl,G1⟩
     |false=>
      cases c3:(value==0)with
      |false=>
       have c3':decide (value=0)=false:=(by simpa using c3);refine AF func101 ntmps101 results101 Ty.GO ?_;replace zz:=Aa ho' wn b0 k1;refine wt zz ?_;replace zz:=Aa ho' wn b0 k1;refine uU zz (hlow _) ?_;replace zz:=Ak ho' wn b0 k1 c1;refine wt zz ?_;replace zz:=BO ho' wn b0 k1 c1 c2 c3 hlen yF;refine uU zz (Rj (s:=w) hwb) ?_;replace zz:=BT ho' wn b0 k1 c1 c2 c3 yF;refine wt zz ?_;first|exact G1|exact⟨by simp only[c3',BH,BF],G1⟩
      |true=>
       have c3':decide (value=0)=true:=(by simpa using c3);refine AF func101 ntmps101 results101 Ty.GO ?_;replace zz:=Aa ho' wn b0 k1;refine wt zz ?_;replace zz:=Aa ho' wn b0 k1;refine uU zz (hlow _) ?_;replace zz:=Ak ho' wn b0 k1 c1;refine wt zz ?_;replace zz:=BO ho' wn b0 k1 c1 c2 c3 hlen yF;refine uU zz (Rj (s:=w) hwb) ?_;replace zz:=BO ho' wn b0 k1 c1 c2 c3 yF hlen;refine wt zz ?_;exact⟨by simp only[c3',e1,CB,BG],G1⟩
  |false=>
   have hk1:¬ kind=1:=(by simpa using k1);rw[A8 hk1];cases k2:(kind==2)with
   |true=>
    have hk2:kind=2:=(by simpa using k2);rw[AK hk2];have e1:(kids.isEmpty)=((kids.length:Int)==0):=(by cases kids<;>simp;omega);cases c1:(text.data.toList==(#[]:Array UInt8).toList)with
    |false=>
     refine AF func101 ntmps101 results101 Ty.GO ?_;replace zz:=Al ho' wn b0 k1 k2 c1;refine wt zz ?_;first|exact⟨by simp only[A3,c1,BF],G1⟩|(simp only[A3,c1,e1,c2,BG];exact G1)|exact G1
    |true=>
     cases c2:((kids.length:Int)==0)with
     |false=>
      refine AF func101 ntmps101 results101 Ty.GO ?_;replace zz:=BT ho' wn b0 k1 k2 c1 c2 hlen;refine wt zz ?_;first|exact⟨by simp only[A3,c1,e1,c2,BH,BF],G1⟩|(simp only[A3,c1,e1,c2,BG];exact G1)|exact G1
     |true=>
      cases c3:decide (value>= -1099511627776)with
      |false=>
       refine AF func101 ntmps101 results101 Ty.GO ?_;replace zz:=BO ho' wn b0 k1 k2 c1 c2 c3 hlen;refine wt zz ?_;have c3':decide (-1099511627776<=value)=false:=c3;first|exact⟨by simp only[A3,c1,e1,c2,c3',BH,BF],G1⟩|(simp only[A3,c1,e1,c2,BG];exact G1)|exact G1
      |true=>
       refine AF func101 ntmps101 results101 Ty.GO ?_;replace zz:=BO ho' wn b0 k1 k2 c1 c2 c3 hlen;refine wt zz ?_;have c3':decide (-1099511627776<=value)=true:=c3;first|exact⟨by simp only[A3,c1,e1,c2,c3',BG],G1⟩|(simp only[A3,c1,e1,c2,BG];exact G1)|exact G1
   |false=>
    have hk2:¬ kind=2:=(by simpa using k2);rw[A8 hk2];cases k3:(kind==3)with
    |false=>
     have hk3:¬ kind=3:=(by simpa using k3);rw[A8 hk3];refine AF func101 ntmps101 results101 Ty.GO ?_;replace zz:=Al ho' wn b0 k1 k2 k3;refine wt zz ?_;first|exact G1|exact⟨rfl,G1⟩
    |true=>
     have hk3:kind=3:=(by simpa using k3);rw[AK hk3];cases c1:(text.data.toList==(#[]:Array UInt8).toList)with
     |false=>
      rw[A8 (by simp[A3,c1])];refine AF func101 ntmps101 results101 Ty.GO ?_;replace zz:=BT ho' wn b0 k1 k2 k3 c1 yF;refine wt zz ?_;first|exact G1|exact⟨rfl,G1⟩
     |true=>
      cases c2:(value !=0)with
      |true=>
       rw[A8 (by simp at c2;simp[c2])];refine AF func101 ntmps101 results101 Ty.GO ?_;replace zz:=BO ho' wn b0 k1 k2 k3 c1 c2 yT;refine wt zz ?_;first|exact G1|exact⟨rfl,G1⟩
      |false=>
       cases c3:((d:Int)==32)with
       |true=>
        rw[A8 (by simp at c3;simp;omega)];refine AF func101 ntmps101 results101 Ty.GO ?_;replace zz:=B9 ho' wn b0 k1 k2 k3 c1 c2 c3 yT;refine wt zz ?_;first|exact G1|exact⟨rfl,G1⟩
       |false=>
        rw[AK (by simp at c2 c3;exact⟨c1,c2,by omega⟩)];refine AF func101 ntmps101 results101 Ty.GO ?_;replace zz:=EI ho' wn b0 k1 k2 k3 c1 c2 c3 yT hlen;refine wt zz ?_;generalize hV:Gx kids (d+1) (n+1)=V;refine CG (λc S h'=>S 1= .sc (.int .i64 d)/\S 2= .ptr id 0 0/\S 89= .A2 6 (Sx.rows kids)/\S 90= .sc (.int .i64 kids.length)/\ ∃ k n':Nat,S 91= .sc (.int .i64 k)/\k<=kids.length/\c=kids.length-k/\n'<=4096/\CQ h id (D4 n') h'/\V=Gx (kids.drop k) (d+1) n') kids.length ?_ ?_
        ·simp only[Ty.w,simprocAttr];exact⟨0,n+1,rfl,by omega,rfl,by simp at b0;omega,G1,hV.symm⟩
        ·clear G1 ho';rintro c S h' ⟨g1,g2,g89,g90,k,n',g91,hkl,rfl,hn',hG,hinv⟩;by_cases hlt:k<kids.length
         ·have hdk:decide ((k:Int)<(kids.length:Int))=true:=(by simp;omega);have w7:IntKind.i64.wrap ((k:Int)+1)=k+1:=(by unfold AI at hk;rw[BZ (by omega) (by omega)]);have wd:IntKind.i64.wrap ((d:Int)+1)=(d:Int)+1:=(by rw[BZ (by omega) (by omega)]);obtain⟨e,hx⟩: ∃ e,kids[k]? =some e:=⟨_,List.getElem?_eq_getElem hlt⟩;have hmem:=List.mem_of_getElem? hx;have hc:=ih e hmem (hks e hmem) (d+1) n' (by simp at c3;omega) hn' id;have hle:=VL e (d+1) n';rw[Cd hx]at hinv;simp only[Gx]at hinv;generalize CM e (d+1) n'=W at hc hle hinv;obtain⟨b,n''⟩:=W;simp only[Lx]at hc hle hinv;have hr:=Sx.CL hx;have hne:id≠h'.next:=by have:=hG.le;omega
          have hne':(h'.next=id)=False:=(by simp;omega);have hc2:=hc ((h'.new (.arr 6 [[.sc (.int .i64 0),.sc (.int .i64 0),.sc (.int .i64 0),.sc (.int .i64 0),.sc (.string ⟨#[]⟩),.sc (.slice none 0 0)]])).set h'.next (.arr 6 [e.cells])) (by simp only[A1.set,A1.new];rw[A8 hne,A8 hne];exact hG.at_);have hG2:CQ h id (D4 n') ((h'.new (.arr 6 [[.sc (.int .i64 0),.sc (.int .i64 0),.sc (.int .i64 0),.sc (.int .i64 0),.sc (.string ⟨#[]⟩),.sc (.slice none 0 0)]])).set h'.next (.arr 6 [e.cells])):=(hG.new hid).set hid hG.le;obtain⟨ki,va,li,co,te,ks⟩:=e;simp only[Sx.cells]at hr hc2 hG2;replace zz:=BO g1 g2 g89 g90 g91 hlen hdk hr wd;refine wt zz ?_;refine DK (hc2) (sr (BO g1 g2 g89 g90 g91 hlen hdk hr wd)) ?_;simp only[Ty.w,simprocAttr,g1,g2,g89,g90,g91,hlen,hdk,hr,wd];cases b with
          |false=>
           subst hinv;replace zz:=Ah g1 g2 g89 g90 g91 w7 yF;refine wt zz ?_;exact hG2.put
          |true=>
           replace zz:=Ah g1 g2 g89 g90 g91 w7 yT;refine wt zz ?_;exact⟨kids.length-(k+1),by omega,k+1,n'',by simp,by omega,rfl,hle rfl,hG2.put,hinv⟩
         ·have hdk:decide ((k:Int)<(kids.length:Int))=false:=(by simp;omega);rw[List.drop_eq_nil_of_le (by omega)]at hinv;simp only[Gx]at hinv;subst hinv;replace zz:=Al g1 g2 g89 g90 g91 hdk;refine wt zz ?_;(try rw[hV]);first|exact⟨rfl,hG⟩|exact hG
theorem JO{x:Sx}(hx:x.ok)(h:A1):A6 prog 47 [.agg x.cells] h λr h'=>r= .sc (.bool (CM x 0 0).1)/\h'=h:=by
 have hc:=gm x hx 0 0 (by omega) (by omega) h.next ((h.new (.arr 1 [[.sc (.int .i64 0)]])).set h.next (.arr 1 [[.sc (.int .i64 0)]])) (by simp[A1.set,D4])
 refine A6.quiet Ty.UX ?_;generalize CM x 0 0=W at hc;obtain⟨b,n⟩:=W;obtain⟨ki,va,li,co,te,ks⟩:=x;simp only[Sx.cells,Qg]at hc⊢;refine AF func47 ntmps47 results47 Ty.UX ?_;refine wt A5 ?_;refine DK (hc) (sr A5) ?_;simp only[Ty.w,simprocAttr];refine wt A5 ?_;exact(((AH.refl h).new _).set (AG _) _).set (AG _) _
end Go.Proofs.YtblgchkahpgdjaaGreat
namespace Go.Proofs.YtblgchkahpgdjaaGreat
open Go.AM Go.Proofs.Tryz
set_option maxHeartbeats 2000000
set_option maxRecDepth 20000
theorem gp(n:Nat): ∀ x:Sx,Br n x.cells:=by
 refine Sx.ind ?_;intro kind value line col text kids ih;have:BC n (Sx.rows kids):=by
  clear kind value line col text
  induction kids with
  |nil=>simp only[Sx.rows,BC]
  |cons k ks ih2=>
   simp only[Sx.rows,BC];exact⟨ih k (by simp),ih2 λq hq=>ih q (by simp[hq])⟩
 simp only[Sx.cells,Br,Be,Dh,Fb];exact this
theorem HK(n:Nat): ∀ l:List Sx,BC n (Sx.rows l)
 |[]=>by simp only[Sx.rows,BC]
 |k::ks=>by simp only[Sx.rows,BC];exact⟨gp n k,HK n ks⟩
theorem FC(n:Nat)(h:A1)(x:Sx):AP n h x.cells x.cells:=by
 obtain⟨kind,value,line,col,text,kids⟩:=x;simp only[Sx.cells,AP,AJ,Dh,Fb];exact .inl (HK n kids)
theorem IK(n:Nat)(h:A1): ∀ l:List Sx,DA n h (Sx.rows l) (Sx.rows l)
 |[]=>by simp only[Sx.rows,DA]
 |k::ks=>by simp only[Sx.rows,DA];exact⟨FC n h k,IK n h ks⟩
theorem A6.CF{P:Program}{f:FuncId}{args:List PV}{h:A1}{v:PV}(hb:Ad P f=true)(hc:A6 P f args h λr' h'=>AJ h.next h' v r'/\AH h h'):A6 P f args h λr h'=>r=v/\h'=h:=by
 refine JL hb λhw=>A6.drop (hc.mono ?_);rintro r' h' ⟨hf,g⟩;refine⟨v,h,⟨rfl,rfl⟩,hf,AG _,λid o ho=>?_⟩;have hid:=hw id (by rw[ho];try rfl);exact⟨by rw[g.B6 id hid];exact ho,hid,.inl ho⟩
theorem Kt{n id off len:Nat}{h':A1}(hid:id<n):AJ n h' (.own id off len) (.own id off len):=by simp only[AJ];exact⟨trivial,hid⟩
def A7(s:ByteArray):Sx:= .mk 1 0 0 0 s []
def AE(l:List Sx):Sx:= .mk 3 0 0 0 ⟨#[]⟩ l
def Cu(first:ByteArray)(l:List ByteArray):Sx:=AE ((first::l).map A7)
theorem Ku{h:A1}{s:ByteArray}:A6 prog 136 [A4 s] h λr h'=>r= .agg (A7 s).cells/\h'=h:=by
 refine A6.CF Ty.Un ?_;refine AF func136 ntmps136 results136 Ty.Un ?_;refine wt A5 ?_;refine⟨?_,((AH.refl h).new _).set (AG _) _⟩;simp only[A7,Sx.cells,Sx.rows,AJ,AP];exact⟨_,rfl,rfl,rfl,rfl,rfl,rfl,.inr (.inl ⟨rfl,.inr rfl⟩),trivial⟩
theorem Kv{h:A1}{p:PV}(h1:Cx p=true)(hf: ∀ h',AJ h.next h' p p):A6 prog 175 [p] h λr h'=>r= .agg [.sc (.int .i64 3),.sc (.int .i64 0),.sc (.int .i64 0),.sc (.int .i64 0),.sc (.string ⟨#[]⟩),p]/\h'=h:=by
 refine A6.CF Ty.Uy ?_;have hc:p.cells=[p]:=by cases p<;>simp[Cx]at h1<;>rfl
 refine AF func175 ntmps175 results175 Ty.Uy ?_;refine wt (uu hc h1) ?_;refine⟨?_,((AH.refl h).new _).set (AG _) _⟩;simp only[AJ,AP];exact⟨_,rfl,rfl,rfl,rfl,rfl,rfl,hf _,trivial⟩
structure gq(h:A1)(first:ByteArray)(l:List ByteArray)(k:Nat)(h':A1):Prop where
 grow:AH h h'
 ex: ∃ id,h.next+1+1<h'.next/\id≠h.next+1+1/\h.next<id/\id<h'.next/\
  h'.obj h.next=some (.arr 6 [[.sc (.int .i64 0),.sc (.int .i64 0),.sc (.int .i64 0),.sc (.int .i64 0),.sc (.string ⟨#[]⟩),.sc (.slice none 0 0)]])/\
  h'.obj (h.next+1+1)=some (.arr 6 [[.sc (.int .i64 3),.sc (.int .i64 0),.sc (.int .i64 0),.sc (.int .i64 0),.sc (.string ⟨#[]⟩),.own id 0 (k+1)]])/\
  h'.obj id=some (.arr 6 (Sx.rows ((first::l.take k).map A7)))
theorem Rl{h:A1}{first:ByteArray}{l:List ByteArray}(hl:l.length<=1048576):A6 prog 174 [A4 first,.A2 1 (AN l)] h λr h'=>r= .agg (Cu first l).cells/\h'=h:=by
 refine A6.CF Ty.Ux ?_;have hll:=GP l;have hw: ∀ (s:ByteArray)(h:A1),A6 prog 136 [A4 s] h λr h'=>r= .agg (A7 s).cells/\h'=h:=λs h=>Ku;simp only[A7,Sx.cells,Sx.rows]at hw;refine uG (ow:=λt=>t==10) (wf:=λ_=>false) func174 ntmps174 results174 Ty.Ux ?_;refine wt A5 ?_;refine uU A5 (hw first _) ?_;refine wt A5 ?_;refine uU A5 (Kv (p:= .own (h.next+1) 0 1) rfl (λ_=>Kt (by simp[A1.new]))) ?_;refine wt hll ?_;refine CG (λm S h'=>S 4= .ptr h.next 0 0/\S 5= .ptr (h.next+1+1) 0 0/\S 12= .A2 1 (AN l)/\S 13= .sc (.int .i64 l.length)/\ ∃ k:Nat,S 14= .sc (.int .i64 k)/\k<=l.length/\m=l.length-k/\gq h first l k h') l.length ?_ ?_
 ·simp only[Ty.w,simprocAttr];refine⟨0,rfl,by omega,rfl,?_⟩;have e1:¬ h.next=h.next+1+1:=by omega
  refine⟨(((((AH.refl h).new _).new _).new _).set (show h.next<=h.next+1+1 by omega) _),h.next+1,by simp[A1.new,A1.set],by omega,by omega,by simp[A1.new,A1.set],?_,?_,?_⟩
  ·simp [A1.new,A1.set,e1]
  ·simp [A1.new,A1.set]
  ·simp [A1.new,A1.set,A7,Sx.rows,Sx.cells]
 ·rintro m S h' ⟨g4,g5,g12,g13,k,g14,hk,rfl,hI⟩;obtain⟨hg,id,hn2,hne,hlo,hhi,o1,o2,o3⟩:=hI;by_cases hlt:k<l.length
  ·have hd:decide ((k:Int)<(l.length:Int))=true:=(by simp;omega);have w7:IntKind.i64.wrap ((k:Int)+1)=k+1:=(by rw[BZ (by omega) (by omega)]);obtain⟨s,hx⟩: ∃ s,l[k]? =some s:=⟨_,List.getElem?_eq_getElem hlt⟩;have hr:=Kr hx;have hrl:(Sx.rows ((first::l.take k).map A7)).length=k+1:=(by rw[Sx.B4];simp;omega);generalize hR:Sx.rows ((first::l.take k).map A7)=R at o3 hrl;have n1:(h.next+1+1=id)=False:=(by simp;omega);have n2:(h.next+1+1=h'.next)=False:=(by simp;omega);have htk:List.take (k+1) R=R:=List.take_of_length_le (by omega);have hb:(k+1+1)*72<=140737488355328:=(by omega);replace zz:=B9 g4 g5 g12 g13 g14 hd hr w7 o2 o3;refine wy zz ?_;replace zz:=Ah g4 g5 g12 g13 g14 o2 o3;(first|refine uV zz (hw s _) ?_|refine uA zz (hw s _) ?_);replace zz:=Ab g4 g5 g12 g13 g14 w7 o2 o3 n1 n2 hrl (uu htk hb);(repeat'(first|refine cK ?_|refine nK ?_|refine uR zz ?_|(refine uN hK ?_;clear hK)|refine uB zz ?_|(rw[AK];rotate_left 1;omega;simp only[Ty.w,simprocAttr,g4,g5,g12,g13,g14,w7,o2,o3,n1,n2,hrl,htk,hb])|apply zI));refine⟨l.length-(k+1),by omega,k+1,by simp,by omega,rfl,((hg.kill (by omega)).new _).set (by omega) _,h'.next,?_,?_,?_,?_,?_,?_,?_⟩
   ·simp only[A1.set,A1.new,A1.kill];omega
   ·omega
   ·omega
   ·simp only[A1.set,A1.new,A1.kill];omega
   ·have a1:¬ h.next=h.next+1+1:=by omega
    have a2:¬ h.next=h'.next:=by omega
    have a3:¬ h.next=id:=by omega
    simp only[A1.set,A1.new,A1.kill,a1,a2,a3,AQ];exact o1
   ·simp only[A1.set,AO]
   ·have a1:¬ h'.next=h.next+1+1:=by omega
    simp only[A1.set,A1.new,A1.kill,a1,AQ,AO];rw[List.take_add_one,hx, ← hR];simp only[Sx.rows_map,List.map_cons,List.map_append,List.map_nil,Yl,List.cons_append,A7,Sx.cells]
  ·have hd:decide ((k:Int)<(l.length:Int))=false:=(by simp;omega);have hke:k=l.length:=(by omega);subst hke;rw[List.take_length]at o3;have n1:(h.next+1+1=h.next)=False:=(by simp;omega);replace zz:=BO g4 g5 g12 g13 g14 hd o1 o2 o3;refine wt zz ?_;refine⟨?_,hg.set (AG _) _⟩;simp only[Cu,AE,Sx.cells,AJ,AP];refine⟨_,rfl,rfl,rfl,rfl,rfl,rfl,.inr (.inr ⟨id,0,l.length+1,Sx.rows ((first::l).map A7),rfl,by omega,?_,?_,?_⟩),trivial⟩
   ·simp only[A1.set];rw[A8 (by omega)];exact o3
   ·rw [Sx.B4];simp
   ·rw [List.drop_zero,List.take_of_length_le (by rw[Sx.B4];simp)];exact IK _ _ _
end Go.Proofs.YtblgchkahpgdjaaGreat
namespace Go.AM
mutual
def Ex.small:Ex->Prop
 | .mk _ _ _ args kids=>args.length<=1048576/\Ex.DY kids
def Ex.DY:List Ex->Prop
 |[]=>True
 |k::ks=>k.small/\Ex.DY ks
end
theorem Ex.Eh:{l:List Ex}->(Ex.DY l↔ ∀ k∈l,k.small)
 |[]=>by simp[Ex.DY]
 |k::ks=>by simp[Ex.DY,Ex.Eh (l:=ks)]
end Go.AM
namespace Go.Proofs.YtblgchkahpgdjaaGreat
open Go.AM Go.Proofs.Tryz
set_option maxHeartbeats 2000000
set_option maxRecDepth 20000
def Iv:ByteArray:=⟨#[110,117,109,98,101,114]⟩
def Iw:ByteArray:=⟨#[102,108,117,101,110,116]⟩
def Ly:ByteArray:=⟨#[43]⟩
def GD:ByteArray:=⟨#[45]⟩
def Lz:ByteArray:=⟨#[42]⟩
def HL(s:ByteArray):Bool:=A3 s ⟨#[]⟩
def CH(s:ByteArray):Bool:=As s||Ey s
def Rm(n:Int):Bool:=decide (-1099511627776<=n)&&decide (n<=1099511627776)
def FD:Ex->Bool
 | .mk op name n args kids=>
  if A3 op Iv then HL name&&args.isEmpty&&kids.isEmpty&&Rm n
  else if A3 op Iw then decide (n=0)&&kids.isEmpty&&As name&&args.all CH
  else if A3 op Ly||A3 op GD||A3 op Lz then decide (n=0)&&HL name&&args.isEmpty&&(match kids with
   |[a,b]=>FD a&&FD b
   |_=>false)
  else false
termination_by e=>SizeOf.sizeOf e
decreasing_by all_goals(simp_wf;omega)
def EJ:Ex->Nat->Nat->Bool × Nat
 | .mk op name n args kids,d,c=>
  if c+1<=4096/\d<=32 then
   if A3 op Iv then(HL name&&args.isEmpty&&kids.isEmpty&&Rm n,c+1)
   else if A3 op Iw then(decide (n=0)&&kids.isEmpty&&As name&&args.all CH,c+1)
   else if A3 op Ly||A3 op GD||A3 op Lz then
    (if (decide (n = 0) && HL name && args.isEmpty) = true then (match kids with
     |[a,b]=>(match EJ a (d+1) (c+1)with
      |(true,c')=>EJ b (d+1) c'
      |(false,c')=>(false,c'))
     |_=>(false,c+1))else(false,c+1))
   else(false,c+1)
  else(false,c+1)
termination_by e=>SizeOf.sizeOf e
decreasing_by all_goals(simp_wf;omega)
def BI:Ex->Sx
 | .mk op name n args kids=>
  if A3 op Iv then .mk 2 n 0 0 ⟨#[]⟩ []
  else if A3 op Iw then Cu name args
  else match kids with
   |[a,b]=>AE [A7 op,BI a,BI b]
   |_=>AE [A7 op]
termination_by e=>SizeOf.sizeOf e
decreasing_by all_goals(simp_wf;omega)
theorem K1{n z:Nat}{h':A1}{rows:List (List PV)}(h:BC n rows):AJ n h' (.A2 z rows) (.A2 z rows):=by simp only[AJ];exact .inl ⟨trivial,h⟩
theorem Kw: ∀ e:Ex,e.small->FD e=true-> ∀ h:A1,A6 prog 167 [.agg e.cells] h λr h'=>r= .agg (BI e).cells/\h'=h:=by
 refine Ex.ind ?_;intro op name n args kids ih hsm hsh h;simp only[Ex.small]at hsm;obtain⟨hal,hks⟩:=hsm;rw[Ex.Eh]at hks;unfold FD at hsh;unfold BI;refine A6.CF Ty.Pk ?_;cases c1:A3 op Iv with
 |true=>
  have c1':(op.data.toList==(#[110,117,109,98,101,114]:Array UInt8).toList)=true:=c1;simp only[AO,Ex.cells];refine AF func167 ntmps167 results167 Ty.Pk ?_;refine wt c1' ?_;refine⟨?_,((AH.refl h).new _).set (AG _) _⟩;simp only[Sx.cells,Sx.rows,AJ,AP];exact⟨_,rfl,rfl,rfl,rfl,rfl,rfl,.inr (.inl ⟨rfl,.inr rfl⟩),trivial⟩
 |false=>
  have c1':(op.data.toList==(#[110,117,109,98,101,114]:Array UInt8).toList)=false:=c1;rw[c1]at hsh;simp only[BR,AQ]at hsh⊢;cases c2:A3 op Iw with
  |true=>
   have c2':(op.data.toList==(#[102,108,117,101,110,116]:Array UInt8).toList)=true:=c2;have hw:=λh:A1=>Rl (h:=h) (first:=name) hal;have hfz:=λ(n:Nat)(h:A1)=>FC n h (Cu name args);simp only[AO,Ex.cells];generalize Cu name args=X at hw hfz;obtain⟨ki,va,li,co,te,ks⟩:=X;simp only[Sx.cells]at hw hfz⊢;refine AF func167 ntmps167 results167 Ty.Pk ?_;refine wt (uu c1' c2') ?_;refine uU (uu c1' c2') (hw _) ?_;refine wt A5 ?_;refine⟨?_,((AH.refl h).new _).set (AG _) _⟩;simp only[AJ];exact⟨_,rfl,hfz _ _⟩
  |false=>
   have c2':(op.data.toList==(#[102,108,117,101,110,116]:Array UInt8).toList)=false:=c2;rw[c2]at hsh;simp only[BR,AQ]at hsh⊢;split at hsh
   case isFalse=>simp at hsh
   simp only[AV]at hsh;obtain⟨⟨⟨_,_⟩,_⟩,hsh⟩:=hsh;split at hsh
   case h_2=>simp at hsh
   rename_i a b;simp only[AV]at hsh;have ca:=ih a (by simp) (hks a (by simp)) hsh.1;have cb:=ih b (by simp) (hks b (by simp)) hsh.2;have hw:=λh:A1=>Ku (h:=h) (s:=op);have hfz:=λ(n:Nat)(h:A1)=>FC n h (AE [A7 op,BI a,BI b]);have hl:=λh:A1=>Kv (h:=h) (p:= .A2 6 (Sx.rows [A7 op,BI a,BI b])) rfl (λ_=>K1 (HK _ _));generalize BI a=xa at ca hfz hl⊢;generalize BI b=xb at cb hfz hl⊢;clear ih hks hsh;obtain⟨Es,aname,an,aargs,akids⟩:=a;obtain⟨bop,bname,bn,bargs,bkids⟩:=b;obtain⟨ki,va,li,co,te,ks⟩:=xa;obtain⟨ki2,va2,li2,co2,te2,ks2⟩:=xb;simp only[Ex.cells,Ex.rows,AE,Sx.cells,Sx.rows,A7]at ca cb hw hfz hl⊢;refine AF func167 ntmps167 results167 Ty.Pk ?_;refine wy (uu c1' c2') ?_;(first|refine uV A5 (hw _) ?_|refine uA A5 (hw _) ?_);refine wy A5 ?_;(first|refine uV A5 (ca _) ?_|refine uA A5 (ca _) ?_);refine wy A5 ?_;(first|refine uV A5 (cb _) ?_|refine uA A5 (cb _) ?_);refine wy A5 ?_;(first|refine uV A5 (hl _) ?_|refine uA A5 (hl _) ?_);refine wy A5 ?_;refine⟨?_,((AH.refl h).new _).set (AG _) _⟩;simp only[AJ];exact⟨_,rfl,hfz _ _⟩
end Go.Proofs.YtblgchkahpgdjaaGreat
