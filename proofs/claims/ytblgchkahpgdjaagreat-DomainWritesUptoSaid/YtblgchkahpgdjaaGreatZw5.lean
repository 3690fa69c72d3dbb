/- What the claim rests on, part 5: the abstract machine, contracts of the functions, plain data. -/
import Derived.Test.YtblgchkahpgdjaaGreatProg
import Derived.Test.YtblgchkahpgdjaaGreatZw4
set_option linter.unusedVariables false
set_option linter.defProp false
set_option linter.unusedSimpArgs false
set_option linter.unusedSectionVars false
namespace Go.Proofs.YtblgchkahpgdjaaGreat
open Go.AM Go.Proofs.Tryz
namespace Ty
theorem K7:Tryz.prog.follows .mixedOrders=true:=by kernel_rfl
theorem Qz:Af prog 10=true:=by kernel_rfl
theorem O7:Af prog 12=true:=by kernel_rfl
theorem Me:Af prog 13=true:=by kernel_rfl
theorem O8:Af prog 14=true:=by kernel_rfl
theorem YB:Af prog 15=true:=by kernel_rfl
theorem YC:Af prog 16=true:=by kernel_rfl
theorem YD:Af prog 21=true:=by kernel_rfl
theorem YE:Af prog 24=true:=by kernel_rfl
theorem R3:Af prog 29=true:=by kernel_rfl
theorem O9:Af prog 30=true:=by kernel_rfl
theorem YF:Af prog 31=true:=by kernel_rfl
theorem IU:Af prog 33=true:=by kernel_rfl
theorem OA:Af prog 34=true:=by kernel_rfl
theorem OB:Af prog 35=true:=by kernel_rfl
theorem R4:Af prog 40=true:=by kernel_rfl
theorem OC:Af prog 41=true:=by kernel_rfl
theorem R5:Af prog 39=true:=by kernel_rfl
theorem R6:Af prog 43=true:=by kernel_rfl
theorem R7:Af prog 42=true:=by kernel_rfl
theorem R8:Af prog 44=true:=by kernel_rfl
theorem OD:Af prog 45=true:=by kernel_rfl
theorem OE:Af prog 46=true:=by kernel_rfl
theorem R9:Af prog 47=true:=by kernel_rfl
theorem RB:Af prog 48=true:=by kernel_rfl
theorem OF:Af prog 49=true:=by kernel_rfl
theorem YG:Af prog 50=true:=by kernel_rfl
theorem OG:Af prog 51=true:=by kernel_rfl
theorem RC:Af prog 52=true:=by kernel_rfl
theorem YH:Af prog 57=true:=by kernel_rfl
theorem YI:Af prog 60=true:=by kernel_rfl
theorem YJ:Af prog 69=true:=by kernel_rfl
theorem Mf:Af prog 77=true:=by kernel_rfl
theorem L9:Af prog 78=true:=by kernel_rfl
theorem RD:Af prog 79=true:=by kernel_rfl
theorem YK:Af prog 80=true:=by kernel_rfl
theorem RE:Af prog 81=true:=by kernel_rfl
theorem Mg:Af prog 82=true:=by kernel_rfl
theorem Hv:Af prog 83=true:=by kernel_rfl
theorem YL:Af prog 84=true:=by kernel_rfl
theorem RF:Af prog 85=true:=by kernel_rfl
theorem Mh:Af prog 86=true:=by kernel_rfl
theorem YM:Af prog 94=true:=by kernel_rfl
theorem Mi:Af prog 95=true:=by kernel_rfl
theorem RG:Af prog 96=true:=by kernel_rfl
theorem RH:Af prog 97=true:=by kernel_rfl
theorem RI:Af prog 99=true:=by kernel_rfl
theorem YN:Af prog 98=true:=by kernel_rfl
theorem RJ:Af prog 100=true:=by kernel_rfl
theorem Ek:Af prog 101=true:=by kernel_rfl
theorem OH:Af prog 102=true:=by kernel_rfl
theorem RK:Af prog 103=true:=by kernel_rfl
theorem RL:Af prog 104=true:=by kernel_rfl
theorem RM:Af prog 105=true:=by kernel_rfl
theorem OI:Af prog 106=true:=by kernel_rfl
theorem RN:Af prog 107=true:=by kernel_rfl
theorem YO:Af prog 108=true:=by kernel_rfl
theorem YP:Af prog 115=true:=by kernel_rfl
theorem YQ:Af prog 117=true:=by kernel_rfl
theorem YR:Af prog 129=true:=by kernel_rfl
theorem YS:Af prog 130=true:=by kernel_rfl
theorem YT:Af prog 131=true:=by kernel_rfl
theorem YU:Af prog 135=true:=by kernel_rfl
theorem RO:Af prog 136=true:=by kernel_rfl
theorem YV:Af prog 137=true:=by kernel_rfl
theorem RP:Af prog 138=true:=by kernel_rfl
theorem RQ:Af prog 140=true:=by kernel_rfl
theorem OJ:Af prog 141=true:=by kernel_rfl
theorem Mj:Af prog 142=true:=by kernel_rfl
theorem YW:Af prog 143=true:=by kernel_rfl
theorem RS:Af prog 144=true:=by kernel_rfl
theorem YX:Af prog 145=true:=by kernel_rfl
theorem OK:Af prog 146=true:=by kernel_rfl
theorem RT:Af prog 151=true:=by kernel_rfl
theorem RU:Af prog 152=true:=by kernel_rfl
theorem RV:Af prog 158=true:=by kernel_rfl
theorem YY:Af prog 159=true:=by kernel_rfl
theorem OL:Af prog 160=true:=by kernel_rfl
theorem OM:Af prog 161=true:=by kernel_rfl
theorem JM:Af prog 162=true:=by kernel_rfl
theorem RZ:Af prog 163=true:=by kernel_rfl
theorem YZ:Af prog 164=true:=by kernel_rfl
theorem Ya:Af prog 165=true:=by kernel_rfl
theorem ON:Af prog 166=true:=by kernel_rfl
theorem Mk:Af prog 167=true:=by kernel_rfl
theorem Yb:Af prog 172=true:=by kernel_rfl
theorem Ml:Af prog 173=true:=by kernel_rfl
theorem Ra:Af prog 174=true:=by kernel_rfl
theorem Rb:Af prog 175=true:=by kernel_rfl
theorem Yc:Af prog 176=true:=by kernel_rfl
theorem Rd:Af prog 177=true:=by kernel_rfl
theorem Gg:Af prog 178=true:=by kernel_rfl
theorem Re:Af prog 186=true:=by kernel_rfl
theorem Yd:Af prog 187=true:=by kernel_rfl
theorem Rf:Af prog 191=true:=by kernel_rfl
theorem Rg:Af prog 189=true:=by kernel_rfl
theorem Ye:Af prog 201=true:=by kernel_rfl
theorem Mm:Af prog 3=true:=by kernel_rfl
theorem Yf:Af prog 139=true:=by kernel_rfl
theorem Yg:Af prog 188=true:=by kernel_rfl
theorem Yh:Af prog 192=true:=by kernel_rfl
set_option maxRecDepth 20000
theorem Rh{p:Program}(h:p=prog):Bs p 28=some 7/\C3 p 28=true/\CI p 33=some [.int .i64 0,.int .i64 0,.int .i64 0,.int .i64 0,.string ⟨#[]⟩,.slice none 0 0]/\Bs p 33=some 6/\C3 p 33=true/\kT p 33=8/\ET p 33=some [(0,1),(1,1),(2,1),(3,1),(4,1),(5,1)]/\kT p 35=7/\kT p 3=2/\CI p 28=some [.string ⟨#[]⟩,.slice none 0 0,.slice none 0 0,.slice none 0 0,.slice none 0 0,.slice none 0 0,.slice none 0 0]/\BC p 28 0=some (0,1,false)/\Bs p 9=some 1/\C3 p 9=false/\kT p 9=3/\kT p 60=5/\CU p 31=some (6,72)/\Eh p 31=some [.int .i64 0,.int .i64 0,.int .i64 0,.int .i64 0,.string ⟨#[]⟩,.slice none 0 0]/\CU p 60=some (7,152)/\BC p 68 0=some (0,1,false)/\Bs p 22=some 1/\C3 p 22=false/\kT p 22=5/\CU p 22=some (2,32)/\Eh p 22=some [.string ⟨#[]⟩,.string ⟨#[]⟩]/\BC p 68 1=some (1,6,true)/\Bs p 67=some 6/\C3 p 67=true/\CU p 63=some (6,128)/\Eh p 63=some [.string ⟨#[]⟩,.string ⟨#[]⟩,.slice none 0 0,.slice none 0 0,.slice none 0 0,.slice none 0 0]/\kT p 63=5/\kT p 67=8/\CI p 67=some [.string ⟨#[]⟩,.string ⟨#[]⟩,.slice none 0 0,.slice none 0 0,.slice none 0 0,.slice none 0 0]/\ET p 67=some [(0,1),(1,1),(2,1),(3,1),(4,1),(5,1)]/\CU p 64=some (1,16)/\Eh p 64=some [.string ⟨#[]⟩]/\kT p 77=8/\CI p 77=some [.int .i64 0,.slice none 0 0,.string ⟨#[]⟩,.string ⟨#[]⟩,.slice none 0 0,.slice none 0 0,.slice none 0 0,.slice none 0 0,.string ⟨#[]⟩,.slice none 0 0,.string ⟨#[]⟩,.string ⟨#[]⟩,.int .i64 0,.slice none 0 0,.slice none 0 0]/\ET p 77=some [(0,1),(1,1),(2,6),(8,1),(9,1),(10,5)]/\Bs p 77=some 15/\C3 p 77=true/\BC p 77 2=some (2,6,true)/\CU p 43=some (15,288)/\Eh p 43=some [.int .i64 0,.slice none 0 0,.string ⟨#[]⟩,.string ⟨#[]⟩,.slice none 0 0,.slice none 0 0,.slice none 0 0,.slice none 0 0,.string ⟨#[]⟩,.slice none 0 0,.string ⟨#[]⟩,.string ⟨#[]⟩,.int .i64 0,.slice none 0 0,.slice none 0 0]/\BC p 33 5=some (5,1,false)/\Bs p 31=some 1/\C3 p 31=false/\kT p 31=5/\BC p 28 1=some (1,1,false)/\BC p 28 2=some (2,1,false)/\BC p 28 3=some (3,1,false)/\Bs p 23=some 1/\C3 p 23=false/\kT p 23=5/\BC p 28 4=some (4,1,false)/\Bs p 24=some 1/\C3 p 24=false/\kT p 24=5/\BC p 28 5=some (5,1,false)/\Bs p 25=some 1/\C3 p 25=false/\kT p 25=5/\CU p 25=some (10,200)/\BC p 83 3=some (3,6,true)/\BC p 83 4=some (9,1,false)/\Bs p 43=some 1/\C3 p 43=false/\BC p 28 6=some (6,1,false)/\Bs p 26=some 1/\C3 p 26=false/\kT p 26=5/\CU p 26=some (23,480)/\Bs p 85=some 23/\C3 p 85=true/\CI p 85=some [.string ⟨#[]⟩,.slice none 0 0,.int .i64 0,.string ⟨#[]⟩,.string ⟨#[]⟩,.slice none 0 0,.slice none 0 0,.slice none 0 0,.slice none 0 0,.string ⟨#[]⟩,.string ⟨#[]⟩,.slice none 0 0,.slice none 0 0,.slice none 0 0,.slice none 0 0,.string ⟨#[]⟩,.string ⟨#[]⟩,.slice none 0 0,.slice none 0 0,.slice none 0 0,.slice none 0 0,.slice none 0 0,.slice none 0 0]/\BC p 85 3=some (3,6,true)/\BC p 85 4=some (9,6,true)/\BC p 85 5=some (15,6,true)/\BC p 85 6=some (21,1,false)/\BC p 85 7=some (22,1,false)/\BC p 83 2=some (2,1,false)/\Bs p 3=some 1/\C3 p 3=false/\kT p 43=5/\BC p 77 0=some (0,1,false)/\kT p 89=8/\CI p 89=some [.bool false]/\ET p 89=some [(0,1)]/\CU p 23=some (2,40)/\Bs p 94=some 2/\C3 p 94=true/\CI p 94=some [.string ⟨#[]⟩,.slice none 0 0]/\BC p 94 0=some (0,1,false)/\BC p 94 1=some (1,1,false)/\CU p 24=some (4,56)/\Bs p 96=some 4/\C3 p 96=true/\CI p 96=some [.string ⟨#[]⟩,.slice none 0 0,.int .i64 0,.int .i64 0]/\BC p 96 0=some (0,1,false)/\BC p 96 1=some (1,1,false)/\BC p 96 2=some (2,1,false)/\BC p 96 3=some (3,1,false)/\Bs p 83=some 10/\C3 p 83=true/\CI p 83=some [.string ⟨#[]⟩,.slice none 0 0,.int .i64 0,.string ⟨#[]⟩,.string ⟨#[]⟩,.slice none 0 0,.slice none 0 0,.slice none 0 0,.slice none 0 0,.slice none 0 0]/\BC p 89 0=some (0,1,false)/\Bs p 4=some 1/\C3 p 4=false/\kT p 42=2/\BC p 33 0=some (0,1,false)/\BC p 33 1=some (1,1,false)/\BC p 33 4=some (4,1,false)/\BC p 33 2=some (2,1,false)/\BC p 33 3=some (3,1,false)/\BC p 77 1=some (1,1,false)/\BC p 77 4=some (9,1,false)/\Bs p 64=some 1/\C3 p 64=false/\kT p 64=5/\BC p 77 5=some (10,5,true)/\Bs p 75=some 5/\C3 p 75=true/\kT p 103=8/\CI p 103=some [.slice none 0 0,.slice none 0 0]/\ET p 103=some [(0,1),(1,1)]/\BC p 77 3=some (8,1,false)/\kT p 28=8/\ET p 28=some [(0,1),(1,1),(2,1),(3,1),(4,1),(5,1),(6,1)]/\Hg p 110=some (3,(.bool false))/\kT p 5=2/\J2 p 42=some (.int .i64 0)/\BC p 123 0=some (0,1,false)/\BC p 123 1=some (1,1,false)/\BC p 67 4=some (4,1,false)/\Bs p 65=some 1/\C3 p 65=false/\kT p 65=5/\CU p 65=some (5,88)/\BC p 67 5=some (5,1,false)/\Bs p 63=some 1/\C3 p 63=false/\BC p 67 0=some (0,1,false)/\BC p 67 1=some (1,1,false)/\BC p 67 2=some (2,1,false)/\BC p 67 3=some (3,1,false)/\CI p 50=some [.nilFunc]/\Bs p 50=some 1/\C3 p 50=false/\Bs p 123=some 2/\C3 p 123=true/\CI p 123=some [.string ⟨#[]⟩,.string ⟨#[]⟩]/\BC p 83 0=some (0,1,false)/\BC p 83 1=some (1,1,false)/\BC p 85 0=some (0,1,false)/\BC p 85 1=some (1,1,false)/\BC p 85 2=some (2,1,false)/\CI p 3=some [.int .i64 0]/\BC p 75 4=some (4,1,false)/\kT p 75=8/\CI p 75=some [.string ⟨#[]⟩,.string ⟨#[]⟩,.int .i64 0,.slice none 0 0,.slice none 0 0]/\ET p 75=some [(0,1),(1,1),(2,1),(3,1),(4,1)]/\Bs p 103=some 2/\C3 p 103=true/\kT p 123=8/\Kk p 123=some 2/\BC p 75 0=some (0,1,false)/\BC p 75 1=some (1,1,false)/\BC p 75 2=some (2,1,false)/\BC p 75 3=some (3,1,false)/\Eh p 23=some [.string ⟨#[]⟩,.slice none 0 0]/\Eh p 24=some [.string ⟨#[]⟩,.slice none 0 0,.int .i64 0,.int .i64 0]/\Eh p 25=some [.string ⟨#[]⟩,.slice none 0 0,.int .i64 0,.string ⟨#[]⟩,.string ⟨#[]⟩,.slice none 0 0,.slice none 0 0,.slice none 0 0,.slice none 0 0,.slice none 0 0]/\Eh p 26=some [.string ⟨#[]⟩,.slice none 0 0,.int .i64 0,.string ⟨#[]⟩,.string ⟨#[]⟩,.slice none 0 0,.slice none 0 0,.slice none 0 0,.slice none 0 0,.string ⟨#[]⟩,.string ⟨#[]⟩,.slice none 0 0,.slice none 0 0,.slice none 0 0,.slice none 0 0,.string ⟨#[]⟩,.string ⟨#[]⟩,.slice none 0 0,.slice none 0 0,.slice none 0 0,.slice none 0 0,.slice none 0 0,.slice none 0 0]/\kT p 94=8/\ET p 94=some [(0,1),(1,1)]/\kT p 96=8/\ET p 96=some [(0,1),(1,1),(2,1),(3,1)]/\CI p 172=some [.string ⟨#[]⟩,.slice none 0 0,.int .i64 0,.slice none 0 0,.slice none 0 0]/\Bs p 172=some 5/\C3 p 172=true/\BC p 172 0=some (0,1,false)/\BC p 172 1=some (1,1,false)/\BC p 172 2=some (2,1,false)/\BC p 172 3=some (3,1,false)/\BC p 172 4=some (4,1,false)/\Bs p 170=some 1/\C3 p 170=false/\kT p 170=5/\CU p 170=some (1,24)/\kT p 83=8/\ET p 83=some [(0,1),(1,1),(2,1),(3,6),(9,1)]/\kT p 85=8/\ET p 85=some [(0,1),(1,1),(2,1),(3,6),(9,6),(15,6),(21,1),(22,1)]/\BC p 103 1=some (1,1,false)/\BC p 103 0=some (0,1,false)/\ET p 123=some [(0,1),(1,1)]/\Eh p 170=some [.slice none 0 0]/\kT p 172=8/\ET p 172=some [(0,1),(1,1),(2,1),(3,1),(4,1)]/\H8 p 9=none/\H8 p 201=none/\kT p 201=5/\J5 p 201=true/\CU p 201=some (1,1)/\Bs p 5=some 1/\C3 p 5=false/\Eh p 65=some [.string ⟨#[]⟩,.string ⟨#[]⟩,.int .i64 0,.slice none 0 0,.slice none 0 0]/\kT p 211=8/\CI p 211=some [.int .i64 0]/\ET p 211=some [(0,1)]/\kT p 222=8/\CI p 222=some [.slice none 0 0,.slice none 0 0]/\ET p 222=some [(0,1),(1,1)]/\Bs p 222=some 2/\C3 p 222=true/\BC p 211 0=some (0,1,false)/\BC p 222 1=some (1,1,false)/\BC p 222 0=some (0,1,false):=by
 subst h
 (repeat' apply And.intro)<;>kernel_rfl
theorem AU:type_of% (Rh rfl):=Rh rfl
def w:=uu @w0 @AU
end Ty
section
variable {P:Program}{ow:Nat->Bool}{wf:FuncId->Bool}{n:Nat}{Q:Au}{s:A8}{h:A0}{f q:Prop}
theorem zI:Nonempty Unit:=⟨()⟩
theorem yT:(!true)=false:=rfl
theorem yF:(!false)=true:=rfl
theorem uR{id:Nat}{ops:List Oper}{K:A8->A0->Prop}(W:f)(k:q)(e:f->q->D4 P ow n ops ops K s h:=by(first|(intro W k;simp only[Ty.w,simprocAttr,Bm,CO,List.nil_append,BT,W];exact k)|(refine λW (_:Nonempty Unit)=>?_;simp only[Ty.w,simprocAttr,Bm,CO,List.nil_append,BT,W]))):AX P ow wf n (.region id ops.toArray false) (Au.seq K Q) s h:=Bp (e W k)
theorem uQ{id:Nat}{ops:List Oper}{q:(A8->A0->Prop)->Prop}(W:f)(k: ∀ K:A8->A0->Prop,(∀ s h,Q .normal s h->K s h)->q K)(e: ∀ K:A8->A0->Prop,f->q K->D4 P ow n ops ops K s h:=by(intro K;first|(intro W k;simp only[Ty.w,simprocAttr,Bm,CO,List.nil_append,BT,W];exact k)|(refine λW (_:Nonempty Unit)=>?_;simp only[Ty.w,simprocAttr,Bm,CO,List.nil_append,BT,W]))):AX P ow wf n (.region id ops.toArray false) Q s h:=Ht λK hK=>e K W (k K hK)
theorem uD{id:Nat}{ops:List Oper}{K:A8->A0->Prop}(W:f)(k:q)(hd:HC ow wf ops=true:=by decide+kernel)(e:f->q->Dl P ow wf n ops 0 ops [] [] K s h:=by(first|(intro W k;simp only[Ty.w,simprocAttr,Bm,CO,List.nil_append,BT,W];exact k)|(refine λW (_:Nonempty Unit)=>?_;simp only[Ty.w,simprocAttr,Bm,CO,List.nil_append,BT,W]))):AX P ow wf n (.region id ops.toArray true) (Au.seq K Q) s h:=Qu hd (e W k)
theorem uE{id:Nat}{ops:List Oper}{q:(A8->A0->Prop)->Prop}(W:f)(k: ∀ K:A8->A0->Prop,(∀ s h,Q .normal s h->K s h)->q K)(hd:HC ow wf ops=true:=by decide+kernel)(e: ∀ K:A8->A0->Prop,f->q K->Dl P ow wf n ops 0 ops [] [] K s h:=by(intro K;first|(intro W k;simp only[Ty.w,simprocAttr,Bm,CO,List.nil_append,BT,W];exact k)|(refine λW (_:Nonempty Unit)=>?_;simp only[Ty.w,simprocAttr,Bm,CO,List.nil_append,BT,W]))):AX P ow wf n (.region id ops.toArray true) Q s h:=VT hd λK hK=>e K W (k K hK)
theorem uT(W:f)(k:q)(e:f->q->Q .ret s h:=by(first|(intro W k;simp only[Ty.w,simprocAttr,Bm,CO,List.nil_append,BT,W];exact k)|(refine λW (_:Nonempty Unit)=>?_;simp only[Ty.w,simprocAttr,Bm,CO,List.nil_append,BT,W]))):AX P ow wf n .ret Q s h:=Ea (e W k)
theorem uK(k:q)(e:q->Q .normal s h:=by(first|(intro k;(try simp only[B2,simprocAttr]);exact k)|(refine λ(_:Nonempty Unit)=>?_;simp only[B2,simprocAttr]))):AX P ow wf n .skip Q s h:=EH (e k)
theorem uX{id:Nat}(k:q)(e:q->Q (.exit id) s h:=by(first|(intro k;(try simp only[B2,simprocAttr]);exact k)|(refine λ(_:Nonempty Unit)=>?_;simp only[B2,simprocAttr]))):AX P ow wf n (.exit id) Q s h:=Qt (e k)
theorem uN{K R:A8->A0->Prop}(hK: ∀ s h,R s h->K s h)(k:q)(e:q->R s h:=by(first|(intro k;(try simp only[B2,simprocAttr]);exact k)|(refine λ(_:Nonempty Unit)=>?_;simp only[B2,simprocAttr]))):K s h:=hK _ _ (e k)
theorem uC{c:Operand}{x y:Code}{b:Bool}(W:f)(h1:b=true->AX P ow wf n x Q s h)(h2:b=false->AX P ow wf n y Q s h)(e:f->A6 s c= .sc (.bool b):=by(intro W;(try simp only[Ty.w,simprocAttr,Bm,CO,List.nil_append,BT,W]);rfl)):AX P ow wf n (.cond c x y) Q s h:=DQ b (e W) h1 h2
theorem Aw{c:Operand}{x y:Code}{b:Bool}(W:f)(k:q)(e:f->A6 s c= .sc (.bool b):=by(intro W;(try simp only[Ty.w,simprocAttr,Bm,CO,List.nil_append,BT,W]);rfl))(e2:q->AX P ow wf n (bif b then x else y) Q s h:=by(intro k;(first|rw[D2]|rw[CH]);exact k)):AX P ow wf n (.cond c x y) Q s h:=DQ b (e W) (λhb=>by have:=e2 k;rw[hb,D2]at this;exact this) (λhb=>by have:=e2 k;rw[hb,CH]at this;exact this)
theorem uP{α:Type}{A:Nat × α->Prop}{ops:List Oper}{kk:Nat}{R:Prop}{l:List (Nat × α)}{is:List Nat}(W:f)(k:q)(h1:l.map (·.1)=is:=by rfl)(h2:is.all (λi=>pre ops i kk)=true:=by decide+kernel)(e:f->q->R:=by(first|(intro W k;(try simp only[Ty.w,simprocAttr,Bm,CO,List.nil_append,BT,W]);exact k)|(refine λW (_:Nonempty Unit)=>?_;simp only[Ty.w,simprocAttr,Bm,CO,List.nil_append,BT,W]))):(∀ x∈l,pre ops x.1 kk=true\/A x)/\R:=Xb is h1 h2 (e W k)
theorem uB{α:Type}{A:Nat × α->Prop}{ops:List Oper}{kk:Nat}{R:Prop}{l:List (Nat × α)}(W:f)(k:q)(h1:f-> ∀ x∈l,pre ops x.1 kk=true\/A x:=by(intro W;simp only[List.forall_mem_cons,Ty.w,simprocAttr,W]<;>(repeat' apply And.intro)<;>first|exact .inl (by decide+kernel)|exact True.intro))(e:f->q->R:=by(first|(intro W k;(try simp only[Ty.w,simprocAttr,Bm,CO,List.nil_append,BT,W]);exact k)|(refine λW (_:Nonempty Unit)=>?_;simp only[Ty.w,simprocAttr,Bm,CO,List.nil_append,BT,W]))):(∀ x∈l,pre ops x.1 kk=true\/A x)/\R:=Qx (h1 W) (e W k)
theorem uU{fn:FuncId}{dst:Option Tmp}{args:List Operand}{ts:Array TypeId}{ty:TypeId}{pos:String}{af:Array Edge}{gd:Option (Nat × Bool)}{ag:List PV}{v:PV}{K:A8->A0->Prop}{ops rest:List Oper}(W:f)(hc:AA P fn ag h λr h'=>r=v/\h'=h)(k:q)(ha:f->args.map (A6 s)=ag:=by(intro W;(try simp only[Ty.w,simprocAttr,W]);try rfl))(e:f->q->D4 P ow n ops rest K (AW s dst v) h:=by(first|(intro W k;simp only[Ty.w,simprocAttr,Bm,CO,List.nil_append,BT,W];exact k)|(refine λW (_:Nonempty Unit)=>?_;simp only[Ty.w,simprocAttr,Bm,CO,List.nil_append,BT,W]))):
  Bu P ow {dst:=dst,op:= .call {callee:= .value (.func fn),args:=args.toArray,argTypes:=ts},type:=ty,pos:=pos,after:=af,guard:=gd} (DH P ow n ops rest K) s h:=FN hc (ha W) (e W k)
theorem uV{fn:FuncId}{d:Nat}{args:List Operand}{ts:Array TypeId}{ty:TypeId}{pos:String}{af:Array Edge}{gd:Option (Nat × Bool)}{ag:List PV}{v:PV}{ops rest:List Oper}{kk k':Nat}{past:Ev}{hist:List (Nat × A0)}{K:A8->A0->Prop}(W:f)(hc:AA P fn ag h λr h'=>r=v/\h'=h)(k:q)(ha:f->args.map (A6 s)=ag:=by(intro W;(try simp only[Ty.w,simprocAttr,W]);try rfl))
  (e:f->q->Dl P ow wf n ops kk rest ((k',{dst:=some d,op:= .call {callee:= .value (.func fn),args:=args.toArray,argTypes:=ts},type:=ty,pos:=pos,after:=af,guard:=gd},s,v)::past) hist K (C2 s d v) h:=by(first|(intro W k;simp only[Ty.w,simprocAttr,Bm,CO,List.nil_append,BT,W];exact k)|(refine λW (_:Nonempty Unit)=>?_;simp only[Ty.w,simprocAttr,Bm,CO,List.nil_append,BT,W]))):
  ∃ v,Ad P ow {dst:=some d,op:= .call {callee:= .value (.func fn),args:=args.toArray,argTypes:=ts},type:=ty,pos:=pos,after:=af,guard:=gd} (A6 s) h v h/\
   Cn P ow wf n ops kk rest (CX P ow ((k',{dst:=some d,op:= .call {callee:= .value (.func fn),args:=args.toArray,argTypes:=ts},type:=ty,pos:=pos,after:=af,guard:=gd},s,v)::past)) hist K (C2 s d v) h:=O4 hc (ha W) (e W k)
theorem uA{fn:FuncId}{d:Nat}{args:List Operand}{ts:Array TypeId}{ty:TypeId}{pos:String}{af:Array Edge}{gd:Option (Nat × Bool)}{ag:List PV}{v:PV}{ops rest:List Oper}{kk k':Nat}{past:Ev}{hist:List (Nat × A0)}{K:A8->A0->Prop}{A:PV->Prop}(W:f)(hc:AA P fn ag h λr h'=>r=v/\h'=h)(k:q)(ha:f->args.map (A6 s)=ag:=by(intro W;(try simp only[Ty.w,simprocAttr,W]);try rfl))(hA:f->A v:=by(intro W;simp only[Ty.w,simprocAttr,W];try trivial))
  (e:f->q->Dl P ow wf n ops kk rest ((k',{dst:=some d,op:= .call {callee:= .value (.func fn),args:=args.toArray,argTypes:=ts},type:=ty,pos:=pos,after:=af,guard:=gd},s,v)::past) hist K (C2 s d v) h:=by(first|(intro W k;simp only[Ty.w,simprocAttr,Bm,CO,List.nil_append,BT,W];exact k)|(refine λW (_:Nonempty Unit)=>?_;simp only[Ty.w,simprocAttr,Bm,CO,List.nil_append,BT,W]))):
  ∃ v,Ad P ow {dst:=some d,op:= .call {callee:= .value (.func fn),args:=args.toArray,argTypes:=ts},type:=ty,pos:=pos,after:=af,guard:=gd} (A6 s) h v h/\A v/\
   Cn P ow wf n ops kk rest (CX P ow ((k',{dst:=some d,op:= .call {callee:= .value (.func fn),args:=args.toArray,argTypes:=ts},type:=ty,pos:=pos,after:=af,guard:=gd},s,v)::past)) hist K (C2 s d v) h:=IT hc (ha W) (hA W) (e W k)
theorem uZ{fn:FuncId}{d:Nat}{args:List Operand}{ts:Array TypeId}{ty:TypeId}{pos:String}{af:Array Edge}{gd:Option (Nat × Bool)}{ag:List PV}{v:PV}{h1:A0}{ops rest:List Oper}{kk:Nat}{past:Ev}{hist:List (Nat × A0)}{K:A8->A0->Prop}{A:A0->Prop}(W:f)(hc:AA P fn ag h λr h'=>r=v/\h'=h1)(k:q)(ha:f->args.map (A6 s)=ag:=by(intro W;(try simp only[Ty.w,simprocAttr,W]);try rfl))(hA:f->A h1:=by(intro W;(try simp(maxSteps:=4000000) only[Ty.w,simprocAttr,CX,List.map_cons,List.map_nil,List.forall_mem_cons,W])<;>((repeat' apply And.intro)<;>first|trivial|exact .inl (by decide+kernel)|exact .inr A2|exact .inr (by simp only[Ty.w,simprocAttr,W])|exact(λ_ hx=>by cases hx))))
  (e:f->q->Dl P ow wf n ops kk rest past hist K (C2 s d v) h1:=by(first|(intro W k;simp only[Ty.w,simprocAttr,Bm,CO,List.nil_append,BT,W];exact k)|(refine λW (_:Nonempty Unit)=>?_;simp only[Ty.w,simprocAttr,Bm,CO,List.nil_append,BT,W]))):
  ∃ v h',Ad P ow {dst:=some d,op:= .call {callee:= .value (.func fn),args:=args.toArray,argTypes:=ts},type:=ty,pos:=pos,after:=af,guard:=gd} (A6 s) h v h'/\A h'/\
   Cn P ow wf n ops kk rest (CX P ow past) hist K (C2 s d v) h':=JJ hc (ha W) (hA W) (e W k)
theorem uJ{fn:FuncId}{d:Nat}{args:List Operand}{ts:Array TypeId}{ty:TypeId}{pos:String}{af:Array Edge}{gd:Option (Nat × Bool)}{ag:List PV}{v:PV}{ops rest:List Oper}{kk k':Nat}{past:Ev}{hist:List (Nat × A0)}{K:A8->A0->Prop}{A:PV->Prop}(W:f)(hc: ∀ h,AA P fn ag h λr h'=>r=v/\h'=h)(k:q)(ha:f->args.map (A6 s)=ag:=by(intro W;(try simp only[Ty.w,simprocAttr,W]);try rfl))(hA:f->args.map (A6 s)=ag->A v:=by(intro W hh;(try simp(maxSteps:=4000000) only[List.map_cons,List.map_nil,List.forall_mem_cons,W])<;>((repeat' apply And.intro)<;>first|trivial|exact .inl (by decide+kernel)|exact .inr A2|exact .inr (C9 (hc _) hh)|exact(λ_ hx=>by cases hx))))
  (e:f->q->Dl P ow wf n ops kk rest ((k',{dst:=some d,op:= .call {callee:= .value (.func fn),args:=args.toArray,argTypes:=ts},type:=ty,pos:=pos,after:=af,guard:=gd},s,v)::past) hist K (C2 s d v) h:=by(first|(intro W k;simp only[Ty.w,simprocAttr,Bm,CO,List.nil_append,BT,W];exact k)|(refine λW (_:Nonempty Unit)=>?_;simp only[Ty.w,simprocAttr,Bm,CO,List.nil_append,BT,W]))):
  ∃ v,Ad P ow {dst:=some d,op:= .call {callee:= .value (.func fn),args:=args.toArray,argTypes:=ts},type:=ty,pos:=pos,after:=af,guard:=gd} (A6 s) h v h/\A v/\
   Cn P ow wf n ops kk rest (CX P ow ((k',{dst:=some d,op:= .call {callee:= .value (.func fn),args:=args.toArray,argTypes:=ts},type:=ty,pos:=pos,after:=af,guard:=gd},s,v)::past)) hist K (C2 s d v) h:=IT (hc h) (ha W) (hA W (ha W)) (e W k)
theorem Mn{fn:FuncId}{d:Nat}{args:List Operand}{ts:Array TypeId}{ty:TypeId}{pos:String}{af:Array Edge}{gd:Option (Nat × Bool)}{ag:List PV}{v:PV}{ops rest:List Oper}{kk k':Nat}{past:Ev}{hist:List (Nat × A0)}{K:A8->A0->Prop}{A:PV->Prop}(W:f)(hc:AA P fn ag h λr h'=>r=v/\h'=h)(k:q)(ha:f->args.map (A6 s)=ag:=by(intro W;(try simp only[Ty.w,simprocAttr,W]);try rfl))(hA:f->A v:=by(intro W;(try simp(maxSteps:=4000000) only[List.map_cons,List.map_nil,List.forall_mem_cons,W])<;>((repeat' apply And.intro)<;>first|trivial|exact .inl (by decide+kernel)|exact .inr A2|exact(λ_ hx=>by cases hx))))
  (e:f->q->Dl P ow wf n ops kk rest ((k',{dst:=some d,op:= .call {callee:= .value (.func fn),args:=args.toArray,argTypes:=ts},type:=ty,pos:=pos,after:=af,guard:=gd},s,v)::past) hist K (C2 s d v) h:=by(first|(intro W k;simp only[Ty.w,simprocAttr,Bm,CO,List.nil_append,BT,W];exact k)|(refine λW (_:Nonempty Unit)=>?_;simp only[Ty.w,simprocAttr,Bm,CO,List.nil_append,BT,W]))):
  ∃ v,Ad P ow {dst:=some d,op:= .call {callee:= .value (.func fn),args:=args.toArray,argTypes:=ts},type:=ty,pos:=pos,after:=af,guard:=gd} (A6 s) h v h/\A v/\
   Cn P ow wf n ops kk rest (CX P ow ((k',{dst:=some d,op:= .call {callee:= .value (.func fn),args:=args.toArray,argTypes:=ts},type:=ty,pos:=pos,after:=af,guard:=gd},s,v)::past)) hist K (C2 s d v) h:=IT hc (ha W) (hA W) (e W k)
structure Tk(c:Code)(Q:Au):Type where
@[irreducible] def Kc (P:Program)(ow:Nat->Bool)(wf:FuncId->Bool)(n:Nat)(c:Code)(Q:Au)(_:Tk c Q)(s:A8)(h:A0):Prop:=AX P ow wf n c Q s h
structure Tq(Q:Au):Type where
@[irreducible] def Kn (Q:Au)(_:Tq Q)(s:A8)(h:A0):Prop:=Q .normal s h
structure Hd(p:Prop):Prop where
 out:p
structure It(n:Nat):Prop where
theorem sK{a b:Code}(k:AX P ow wf n a (Au.seq (Kc P ow wf n b Q ⟨⟩) Q) s h):AX P ow wf n (.seq a b) Q s h:=by
 simp only[AX];unfold Kc at k;exact k
theorem cK{b:Code}{t:Tk b Q}(k:AX P ow wf n b Q s h):Kc P ow wf n b Q t s h:=by
 unfold Kc;exact k
theorem nK{t:Tq Q}(k:q)(e:q->Q .normal s h:=by(first|(intro k;(try simp only[B2,simprocAttr]);exact k)|(refine λ(_:Nonempty Unit)=>?_;simp only[B2,simprocAttr]))):Kn Q t s h:=by
 unfold Kn;exact e k
theorem uq{id:Nat}{ops:List Oper}(W:f)(k:q)(e:f->q->D4 P ow n ops ops (Kn Q ⟨⟩) s h:=by(first|(intro W k;simp only[Ty.w,simprocAttr,Bm,CO,List.nil_append,BT,W];exact k)|(refine λW (_:Nonempty Unit)=>?_;simp only[Ty.w,simprocAttr,Bm,CO,List.nil_append,BT,W]))):AX P ow wf n (.region id ops.toArray false) Q s h:=by
 simp only[AX,Ap,AD];have y:=e W k;unfold Kn at y;exact⟨_,_,.refl,IS _ _ _ y⟩
theorem ue{id:Nat}{ops:List Oper}(W:f)(k:q)(hd:HC ow wf ops=true:=by decide+kernel)(e:f->q->Dl P ow wf n ops 0 ops [] [] (Kn Q ⟨⟩) s h:=by(first|(intro W k;simp only[Ty.w,simprocAttr,Bm,CO,List.nil_append,BT,W];exact k)|(refine λW (_:Nonempty Unit)=>?_;simp only[Ty.w,simprocAttr,Bm,CO,List.nil_append,BT,W]))):AX P ow wf n (.region id ops.toArray true) Q s h:=by
 simp only[AX,AC];have y:=e W k;unfold Kn at y;exact⟨_,_,.refl,.inl ⟨hd,HF _ _ _ _ _ _ y⟩⟩
theorem yH{id i:Nat}{ops:Array Oper}{d:Bool}{x y:Code}(_:It i)(hh:Hd (AX P ow wf n (.seq (.seq (.region id ops d) x) y) Q s h))(e:id=i:=by rfl):AX P ow wf n (.seq (.seq (.region id ops d) x) y) Q s h:=hh.out
theorem yR{id i:Nat}{ops:Array Oper}{d:Bool}{y:Code}(_:It i)(hh:Hd (AX P ow wf n (.seq (.region id ops d) y) Q s h))(e:id=i:=by rfl):AX P ow wf n (.seq (.region id ops d) y) Q s h:=hh.out
theorem yB{id i:Nat}{ops:Array Oper}{d:Bool}(_:It i)(hh:Hd (AX P ow wf n (.region id ops d) Q s h))(e:id=i:=by rfl):AX P ow wf n (.region id ops d) Q s h:=hh.out
theorem dL{g:Prop}(e:g:=by(intro x hx;repeat'(first|(exact absurd hx (List.not_mem_nil))|(rcases List.mem_cons.1 hx with rfl|hx)|(refine .inr ?_;dsimp only;omega)|(refine .inr ?_;exact List.not_mem_nil)|(refine .inr λhm=>?_;have:=List.mem_singleton.1 hm;omega)|(refine .inl ?_;dsimp only;decide+kernel)))):g:=e
theorem sq{g:Prop}(W:f)(e:f->g:=by(intro W;simp only[Ty.w,simprocAttr,W])):g:=e W
theorem sr{g:Prop}(W:f)(e:f->g:=by(intro W;(try simp only[Ty.w,simprocAttr,W]);try rfl)):g:=e W
theorem wt{g:Prop}(W:f)(k:q)(e:f->q->g:=by(intro W k;(repeat'(first|refine cK ?_|refine nK ?_|refine sK ?_|refine Bl ?_|refine uR W ?_|refine uq W ?_|refine uT W ?_|refine uK ?_|refine uX ?_|refine Aw W ?_|(refine uN hK ?_;clear hK)|(clear hK;refine uN hK ?_;clear hK)|(clear hK;clear hK;refine uN hK ?_;clear hK)|(clear hK;clear hK;clear hK;refine uN hK ?_;clear hK)|apply zI));exact k)):g:=e W k
theorem wm{g:Prop}(W:f)(k:q)(e:f->q->g:=by first|(intro W k;(repeat'(first|refine cK ?_|refine nK ?_|refine sK ?_|refine Bl ?_|refine uR W ?_|refine uq W ?_|refine uT W ?_|refine uK ?_|refine uX ?_|refine Aw W ?_|(refine uN hK ?_;clear hK)|(clear hK;refine uN hK ?_;clear hK)|(clear hK;clear hK;refine uN hK ?_;clear hK)|(clear hK;clear hK;clear hK;refine uN hK ?_;clear hK)|apply zI));exact k)|(refine λW (_:Nonempty Unit)=>?_;repeat'(first|refine cK ?_|refine nK ?_|refine sK ?_|refine Bl ?_|refine uR W ?_|refine uq W ?_|refine uT W ?_|refine uK ?_|refine uX ?_|refine Aw W ?_|(refine uN hK ?_;clear hK)|(clear hK;refine uN hK ?_;clear hK)|(clear hK;clear hK;refine uN hK ?_;clear hK)|(clear hK;clear hK;clear hK;refine uN hK ?_;clear hK)|apply zI))):g:=e W k
theorem wz{g:Prop}(W:f)(e:f->g:=by(intro W;repeat'(first|refine cK ?_|refine nK ?_|refine sK ?_|refine Bl ?_|refine uR W ?_|refine uq W ?_|refine uT W ?_|refine uK ?_|refine uX ?_|refine Aw W ?_|(refine uN hK ?_;clear hK)|(clear hK;refine uN hK ?_;clear hK)|(clear hK;clear hK;refine uN hK ?_;clear hK)|(clear hK;clear hK;clear hK;refine uN hK ?_;clear hK)|apply zI))):g:=e W
theorem wy{g:Prop}(W:f)(k:q)(e:f->q->g:=by(intro W k;(repeat'(first|refine cK ?_|refine nK ?_|refine sK ?_|refine Bl ?_|refine uR W ?_|refine uD W ?_|refine uq W ?_|refine ue W ?_|refine uT W ?_|refine uK ?_|refine uX ?_|refine Aw W ?_|(refine uN hK ?_;clear hK)|(clear hK;refine uN hK ?_;clear hK)|(clear hK;clear hK;refine uN hK ?_;clear hK)|(clear hK;clear hK;clear hK;refine uN hK ?_;clear hK)|refine uP W ?_|refine uB W ?_|apply zI));exact k)):g:=e W k
theorem wo{g:Prop}(W:f)(k:q)(e:f->q->g:=by first|(intro W k;(repeat'(first|refine cK ?_|refine nK ?_|refine sK ?_|refine Bl ?_|refine uR W ?_|refine uD W ?_|refine uq W ?_|refine ue W ?_|refine uT W ?_|refine uK ?_|refine uX ?_|refine Aw W ?_|(refine uN hK ?_;clear hK)|(clear hK;refine uN hK ?_;clear hK)|(clear hK;clear hK;refine uN hK ?_;clear hK)|(clear hK;clear hK;clear hK;refine uN hK ?_;clear hK)|refine uP W ?_|refine uB W ?_|apply zI));exact k)|(refine λW (_:Nonempty Unit)=>?_;repeat'(first|refine cK ?_|refine nK ?_|refine sK ?_|refine Bl ?_|refine uR W ?_|refine uD W ?_|refine uq W ?_|refine ue W ?_|refine uT W ?_|refine uK ?_|refine uX ?_|refine Aw W ?_|(refine uN hK ?_;clear hK)|(clear hK;refine uN hK ?_;clear hK)|(clear hK;clear hK;refine uN hK ?_;clear hK)|(clear hK;clear hK;clear hK;refine uN hK ?_;clear hK)|refine uP W ?_|refine uB W ?_|apply zI))):g:=e W k
theorem xH{g:Prop}(i:Nat)(W:f)(k:q)(e:It i->f->q->g:=by(intro I W k;(repeat'(first|refine cK ?_|(with_reducible refine yH I ?_)|refine cK ?_|refine nK ?_|refine sK ?_|refine Bl ?_|refine uR W ?_|refine uq W ?_|refine uT W ?_|refine uK ?_|refine uX ?_|refine Aw W ?_|(refine uN hK ?_;clear hK)|(clear hK;refine uN hK ?_;clear hK)|(clear hK;clear hK;refine uN hK ?_;clear hK)|(clear hK;clear hK;clear hK;refine uN hK ?_;clear hK)|apply zI));exact k)):g:=e ⟨⟩ W k
theorem xG{g:Prop}(i:Nat)(W:f)(k:q)(e:It i->f->q->g:=by(intro I W k;(repeat'(first|refine cK ?_|(with_reducible refine yR I ?_)|refine cK ?_|refine nK ?_|refine sK ?_|refine Bl ?_|refine uR W ?_|refine uq W ?_|refine uT W ?_|refine uK ?_|refine uX ?_|refine Aw W ?_|(refine uN hK ?_;clear hK)|(clear hK;refine uN hK ?_;clear hK)|(clear hK;clear hK;refine uN hK ?_;clear hK)|(clear hK;clear hK;clear hK;refine uN hK ?_;clear hK)|apply zI));exact k)):g:=e ⟨⟩ W k
theorem xB{g:Prop}(i:Nat)(W:f)(k:q)(e:It i->f->q->g:=by(intro I W k;(repeat'(first|refine cK ?_|(with_reducible refine yB I ?_)|refine cK ?_|refine nK ?_|refine sK ?_|refine Bl ?_|refine uR W ?_|refine uq W ?_|refine uT W ?_|refine uK ?_|refine uX ?_|refine Aw W ?_|(refine uN hK ?_;clear hK)|(clear hK;refine uN hK ?_;clear hK)|(clear hK;clear hK;refine uN hK ?_;clear hK)|(clear hK;clear hK;clear hK;refine uN hK ?_;clear hK)|apply zI));exact k)):g:=e ⟨⟩ W k
theorem xM{g:Prop}(i:Nat)(W:f)(k:q)(e:It i->f->q->g:=by(intro I W k;(repeat'(first|refine cK ?_|(with_reducible refine yR I ?_)|refine cK ?_|refine nK ?_|refine sK ?_|refine Bl ?_|refine uR W ?_|refine uD W ?_|refine uq W ?_|refine ue W ?_|refine uT W ?_|refine uK ?_|refine uX ?_|refine Aw W ?_|(refine uN hK ?_;clear hK)|(clear hK;refine uN hK ?_;clear hK)|(clear hK;clear hK;refine uN hK ?_;clear hK)|(clear hK;clear hK;clear hK;refine uN hK ?_;clear hK)|refine uP W ?_|refine uB W ?_|apply zI));exact k)):g:=e ⟨⟩ W k
theorem uG{fid:FuncId}{fn:Func}{c:Code}{args:List PV}{m:Nat}{rs:Array ResultVar}{K:PV->A0->Prop}(hf:Tryz.prog.funcs[fid]? =some fn)(h1:fn.ntmps=m)(h2:fn.results=rs)(hh:Af prog fid=true)(hw:AX prog ow wf m c (GH prog rs.toList K) (J9 args) h)(hb:fn.body=some c:=by rfl)(hn:args.length<=m:=by simp):AA prog fid args h K:=by
 subst h1 h2;exact K6 Ty.K7 hf hb hh hn hw
theorem AN{fid:FuncId}{fn:Func}{c:Code}{args:List PV}{m:Nat}{rs:Array ResultVar}{K:PV->A0->Prop}(hf:Tryz.prog.funcs[fid]? =some fn)(h1:fn.ntmps=m)(h2:fn.results=rs)(hh:Af prog fid=true)(hw:AX prog (λ_=>false) (λ_=>false) m c (GH prog rs.toList K) (J9 args) h)(hb:fn.body=some c:=by rfl)(hn:args.length<=m:=by simp):AA prog fid args h K:=uG hf h1 h2 hh hw hb hn
end
set_option maxHeartbeats 2000000
def F9:List ByteArray:=[⟨#[97,110,100]⟩,⟨#[111,114]⟩,⟨#[110,111,116]⟩,⟨#[105,109,112,108,121]⟩,⟨#[102,111,114,97,108,108]⟩,⟨#[101,120,105,115,116,115]⟩,⟨#[119,104,101,110]⟩,⟨#[97,115,115,105,103,110]⟩,⟨#[105,110,99,114,101,97,115,101]⟩,⟨#[100,101,99,114,101,97,115,101]⟩,⟨#[111,98,106,101,99,116]⟩]
theorem OO:F9.length=11:=rfl
def LB(l:List ByteArray)(s:ByteArray):Int:=match l.findIdx? (λw=>A3 s w)with
 |some i=>i
 |none=> -1
theorem Gh{l:List ByteArray}{i:Nat}{w:ByteArray}(h:l[i]? =some w):(AP l)[i]? =some [A1 w]:=by simp[AP,h]
theorem FA(l:List ByteArray):(AP l).length=l.length:=by simp[AP]
theorem Yi{h:A0}{l:List ByteArray}{s:ByteArray}(hl:l.length<=9223372036854775807):AA prog 117 [.imm 1 (AP l),A1 s] h λr h'=>r= .sc (.int .i64 (LB l s))/\h'=h:=by
 have hlen:=FA l;refine AN func117 ntmps117 results117 Ty.YQ ?_;refine wt hlen ?_;refine BV (λm S h'=>h'=h/\S 0= .imm 1 (AP l)/\S 1=A1 s/\S 7= .sc (.int .i64 l.length)/\ ∃ k:Nat,S 8= .sc (.int .i64 k)/\k<=l.length/\m=l.length-k/\ ∀ (i:Nat)(w:ByteArray),i<k->l[i]? =some w->A3 s w=false) l.length ?_ ?_
 ·simp only[Ty.w,simprocAttr];exact⟨0,rfl,by omega,rfl,by omega⟩
 ·rintro m S h' ⟨rfl,g0,g1,g7,k,g8,hk,rfl,hall⟩;by_cases hlt:k<l.length
  ·have hd:decide ((k:Int)<(l.length:Int))=true:=(by simp;omega);have w7:IntKind.i64.wrap ((k:Int)+1)=k+1:=(by rw[B9 (by omega) (by omega)]);obtain⟨w,hx⟩: ∃ w,l[k]? =some w:=⟨l[k],List.getElem?_eq_getElem hlt⟩;have hr:=Gh hx;cases he:A3 s w with
   |true=>
    have he':=he;unfold A3 at he';replace zz:=AY g0 g1 g7 g8 hd hr he';refine wt zz ?_;have:l.findIdx? (λw=>A3 s w)=some k:=by
     rw[List.findIdx?_eq_some_iff_getElem];refine⟨hlt,?_,λj hj=>?_⟩
     ·rw [List.getElem?_eq_getElem hlt]at hx;simp only[Ag]at hx;rw[hx];exact he
     ·rw [hall j l[j] hj (List.getElem?_eq_getElem (by omega))];simp
    simp only[LB,this]
   |false=>
    have he':=he;unfold A3 at he';replace zz:=B6 g0 g1 g7 g8 hd hr he' w7;refine wt zz ?_;refine⟨l.length-(k+1),by omega,k+1,by simp,by omega,rfl,λi w2 hi hw=>?_⟩;by_cases hik:i=k
    ·subst hik;rw[hx]at hw;simp at hw;rw[← hw];exact he
    ·exact hall i w2 (by omega) hw
  ·have hd:decide ((k:Int)<(l.length:Int))=false:=(by simp;omega);replace zz:=AV g0 g1 g7 g8 hd;refine wt zz ?_;have:l.findIdx? (λw=>A3 s w)=none:=by
    rw[List.findIdx?_eq_none_iff];intro w hw;obtain⟨i,hi⟩:=List.getElem?_of_mem hw;have:i<l.length:=(List.getElem?_eq_some_iff.1 hi).1;exact hall i w (by omega) hi
   simp only[LB,this]
theorem Yj(l:List ByteArray)(s:ByteArray):decide (LB l s>=0)=l.any (λw=>A3 s w):=by
 unfold LB;cases h:l.findIdx? (λw=>A3 s w)with
 |none=>
  rw[List.findIdx?_eq_none_iff]at h;have:l.any (λw=>A3 s w)=false:=by simpa using h
  rw[this];try rfl
 |some i=>
  rw[List.findIdx?_eq_some_iff_getElem]at h;obtain⟨hi,h1,_⟩:=h;have:l.any (λw=>A3 s w)=true:=List.any_eq_true.2 ⟨l[i],List.getElem_mem hi,h1⟩;rw[this];simp
theorem Yk{h:A0}{l:List ByteArray}{s:ByteArray}(hl:l.length<=9223372036854775807):AA prog 60 [.imm 1 (AP l),A1 s] h λr h'=>r= .sc (.bool (l.any λw=>A3 s w))/\h'=h:=by
 refine AN func60 ntmps60 results60 Ty.YI ?_;refine wt A2 ?_;refine uU A2 (Yi (l:=l) (s:=s) hl) ?_;refine wt A2 ?_;rw[← Yj]
theorem Yl{h:A0}:AA prog 135 [] h λr h'=>r= .imm 1 (AP F9)/\h'=h:=by
 refine AN func135 ntmps135 results135 Ty.YU ?_;refine wt A2 ?_;rfl
theorem Ri{h:A0}{s:ByteArray}:AA prog 129 [A1 s] h λr h'=>r= .sc (.bool (F9.any λw=>A3 s w))/\h'=h:=by
 refine AN func129 ntmps129 results129 Ty.YR ?_;refine wt A2 ?_;refine BV (λm S h'=>h'=h/\S 0=A1 s/\S 3= .imm 1 (AP F9)/\ ∃ k:Nat,S 4= .sc (.int .i64 k)/\k<=11/\m=11-k/\ ∀ (i:Nat)(w:ByteArray),i<k->F9[i]? =some w->A3 s w=false) 11 ?_ ?_
 ·simp only[Ty.w,simprocAttr];refine⟨rfl,0,rfl,by omega,rfl,by omega⟩
 ·rintro m S h' ⟨rfl,g0,g3,k,g4,hk,rfl,hall⟩;have hlen:(AP F9).length=11:=rfl;by_cases hlt:k<11
  ·have hd:decide ((k:Int)<11)=true:=(by simp;omega);have w7:IntKind.i64.wrap ((k:Int)+1)=k+1:=(by rw[B9 (by omega) (by omega)]);obtain⟨w,hx⟩: ∃ w,F9[k]? =some w:=⟨F9[k],List.getElem?_eq_getElem (by rw[OO];exact hlt)⟩;have hr:=Gh hx;cases he:A3 s w with
   |true=>
    have he':(w.data.toList==s.data.toList)=true:=(by rw[BEq.comm];exact he);replace zz:=AY g0 g3 g4 hlen hd hr he';refine wt zz ?_;rw[List.any_eq_true.2 ⟨w,List.mem_of_getElem? hx,he⟩]
   |false=>
    have he':(w.data.toList==s.data.toList)=false:=(by rw[BEq.comm];exact he);replace zz:=B6 g0 g3 g4 hlen hd hr he' w7;refine wt zz ?_;refine⟨11-(k+1),by omega,k+1,by simp,by omega,rfl,λi w2 hi hw=>?_⟩;by_cases hik:i=k
    ·subst hik;rw[hx]at hw;simp at hw;rw[← hw];exact he
    ·exact hall i w2 (by omega) hw
  ·have hd:decide ((k:Int)<11)=false:=(by simp;omega);replace zz:=AV g0 g3 g4 hlen hd;refine wt zz ?_;have:F9.any (λw=>A3 s w)=false:=by
    rw[List.any_eq_false];intro w hw;obtain⟨i,hi⟩:=List.getElem?_of_mem hw;have:i<F9.length:=(List.getElem?_eq_some_iff.1 hi).1;rw[OO]at this;rw[hall i w (by omega) hi];simp
   rw[this]
def CM(c:UInt8):Bool:=decide (97<=c.toNat)&&decide (c.toNat<=122)
def D6(c:UInt8):Bool:=CM c||(decide (48<=c.toNat)&&decide (c.toNat<=57))||decide (c.toNat=45)||decide (c.toNat=95)
def DS(i:Nat)(c:UInt8):Bool:=CM c||(decide (i≠0)&&D6 c)
def IW:List UInt8->Bool
 |[]=>true
 |c::l=>CM c&&l.all D6
def Ak(s:ByteArray):Bool:=IW s.data.toList&&decide (0<s.size)&&decide (s.size<=32)&&!(F9.any λw=>A3 s w)
def D7(s:ByteArray):Bool:=decide (2<=s.size)&&decide (s.size<=32)&&(match s.data.toList[0]? with|some c=>decide (c.toNat=63)|none=>false)&&Ak (s.extract 1 s.size)
theorem HI(s:ByteArray)(i:Nat):s[i]? =s.data.toList[i]?:=by
 rw[getElem?_def];by_cases hi:i<s.size
 ·rw [dif_pos hi,List.getElem?_eq_getElem (by simpa using hi)];rfl
 ·rw [dif_neg hi,List.getElem?_eq_none (by simp;omega)]
theorem OP{c:UInt8}(h:CM c=true):D6 c=true:=by simp[D6,h]
theorem Rj{l:List UInt8}(h: ∀ (j:Nat)(c:UInt8),l[j]? =some c->DS j c=true):IW l=true:=by
 cases l with
 |nil=>rfl
 |cons c l=>
  simp only[IW,AT,List.all_eq_true];refine⟨by simpa[DS]using h 0 c rfl,λx hx=>?_⟩;obtain⟨i,hi⟩:=List.getElem?_of_mem hx;have:=h (i+1) x (by simpa using hi);simp only[DS,Cc,AT]at this;exact this.elim OP (·.2)
theorem Mo{l:List UInt8}{j:Nat}{c:UInt8}(hj:l[j]? =some c)(h:DS j c=false):IW l=false:=by
 cases l with
 |nil=>simp at hj
 |cons d l=>
  cases j with
  |zero=>
   simp at hj;subst hj;simp only[DS]at h;simp at h;simp[IW,h]
  |succ j=>
   simp at hj;have hm:D6 c=false:=(by simp[DS]at h;exact h.2);have:l.all D6=false:=(by rw[List.all_eq_false];exact⟨c,List.mem_of_getElem? hj,by simp[hm]⟩);simp[IW,this]
set_option maxHeartbeats 800000
theorem Ym(c:UInt8):(CM c=true/\decide ((c.toNat:Int)>=97)=true/\decide ((c.toNat:Int)<=122)=true)\/
  (CM c=false/\decide ((c.toNat:Int)>=97)=false)\/(CM c=false/\D6 c=false/\decide ((c.toNat:Int)>=97)=true/\decide ((c.toNat:Int)<=122)=false/\decide ((c.toNat:Int)<48)=false/\decide ((c.toNat:Int)>57)=true/\((c.toNat:Int) !=45)=true/\((c.toNat:Int) !=95)=true):=by
 by_cases h1:97<=c.toNat
 ·by_cases h2:c.toNat<=122
  ·exact .inl ⟨by simp[CM,h1,h2],by simp;omega,by simp;omega⟩
  ·refine .inr (.inr ⟨by simp[CM,h1,h2],by simp[D6,CM];omega,by simp;omega,by simp;omega,by simp;omega,by simp;omega,by simp;omega,by simp;omega⟩)
 ·exact .inr (.inl ⟨by simp[CM,h1],by simp;omega⟩)
theorem Rk{c:UInt8}(h:decide ((c.toNat:Int)>=97)=false):
  (D6 c=true/\decide ((c.toNat:Int)<48)=true/\((c.toNat:Int) !=45)=false)\/
  (D6 c=false/\decide ((c.toNat:Int)<48)=true/\((c.toNat:Int) !=45)=true/\((c.toNat:Int) !=95)=true)\/
  (D6 c=true/\decide ((c.toNat:Int)<48)=false/\decide ((c.toNat:Int)>57)=false)\/
  (D6 c=true/\decide ((c.toNat:Int)<48)=false/\decide ((c.toNat:Int)>57)=true/\((c.toNat:Int) !=45)=true/\((c.toNat:Int) !=95)=false)\/
  (D6 c=false/\decide ((c.toNat:Int)<48)=false/\decide ((c.toNat:Int)>57)=true/\((c.toNat:Int) !=45)=true/\((c.toNat:Int) !=95)=true):=by
 simp at h;by_cases h1:c.toNat<48
 ·by_cases h2:c.toNat=45
  ·exact .inl ⟨by simp[D6,h2],by simp;omega,by simp;omega⟩
  ·exact .inr (.inl ⟨by simp[D6,CM];omega,by simp;omega,by simp;omega,by simp;omega⟩)
 ·by_cases h2:c.toNat<=57
  ·exact .inr (.inr (.inl ⟨by simp[D6,CM];omega,by simp;omega,by simp;omega⟩))
  ·by_cases h3:c.toNat=95
   ·exact .inr (.inr (.inr (.inl ⟨by simp[D6,h3],by simp;omega,by simp;omega,by simp;omega,by simp;omega⟩)))
   ·exact .inr (.inr (.inr (.inr ⟨by simp[D6,CM];omega,by simp;omega,by simp;omega,by simp;omega,by simp;omega⟩)))
theorem Yn(c:UInt8):(D6 c=true/\decide ((c.toNat:Int)<97)=false/\decide ((c.toNat:Int)>122)=false)\/
  (D6 c=false/\decide ((c.toNat:Int)<97)=false/\decide ((c.toNat:Int)>122)=true/\decide ((c.toNat:Int)<48)=false/\decide ((c.toNat:Int)>57)=true/\((c.toNat:Int) !=45)=true/\((c.toNat:Int) !=95)=true)\/
  (decide ((c.toNat:Int)<97)=true/\decide ((c.toNat:Int)>=97)=false):=by
 by_cases h1:97<=c.toNat
 ·by_cases h2:c.toNat<=122
  ·exact .inl ⟨by simp[D6,CM,h1,h2],by simp;omega,by simp;omega⟩
  ·exact .inr (.inl ⟨by simp[D6,CM];omega,by simp;omega,by simp;omega,by simp;omega,by simp;omega,by simp;omega,by simp;omega⟩)
 ·exact .inr (.inr ⟨by simp;omega,by simp;omega⟩)
theorem Fb{h:A0}{s:ByteArray}(hs:s.size<=9223372036854775807):AA prog 94 [A1 s] h λr h'=>r= .sc (.bool (Ak s))/\h'=h:=by
 have hsl:s.data.toList.length=s.size:=by rw[DE];try rfl
 refine AN func94 ntmps94 results94 Ty.YM ?_;refine wt A2 ?_;refine BV (λm S h'=>h'=h/\S 0=A1 s/\S 7= .sc (.int .i64 s.size)/\ ∃ k:Nat,S 8= .sc (.int .i64 k)/\k<=s.size/\m=s.size-k/\ ∀ (i:Nat)(c:UInt8),i<k->s.data.toList[i]? =some c->DS i c=true) s.size ?_ ?_
 ·simp only[Ty.w,simprocAttr];exact⟨0,rfl,by omega,rfl,by omega⟩
 ·rintro m S h' ⟨rfl,g0,g7,k,g8,hk,rfl,hall⟩;by_cases hlt:k<s.size
  ·have hd:decide ((k:Int)<(s.size:Int))=true:=(by simp;omega);have w7:IntKind.i64.wrap ((k:Int)+1)=k+1:=(by rw[B9 (by omega) (by omega)]);obtain⟨c,hx⟩: ∃ c,s.data.toList[k]? =some c:=⟨_,List.getElem?_eq_getElem (by omega)⟩;have hr:s[k]? =some c:=(by rw[HI];exact hx);have bad:DS k c=false->Ak s=false:=λe=>(by simp[Ak,Mo hx e]);have good:DS k c=true-> ∃ m',m'<s.size-k/\ ∃ k':Nat,(k:Int)+1=k'/\k'<=s.size/\m'=s.size-k'/\ ∀ (i:Nat)(c:UInt8),i<k'->s.data.toList[i]? =some c->DS i c=true:=λe=>by
    refine⟨s.size-(k+1),by omega,k+1,by simp,by omega,rfl,λi c2 hi hw=>?_⟩;by_cases hik:i=k
    ·subst hik;rw[hx]at hw;simp at hw;rw[← hw];exact e
    ·exact hall i c2 (by omega) hw
   clear hall;have fin1: ∀ {e:Bool},DS k c=false->e=false->PV.sc (.bool e)= .sc (.bool (Ak s)):=λh1 h2=>(by rw[h2,bad h1]);rcases Ym c with⟨l1,c1,c2⟩|⟨l1,c1⟩|⟨l1,m1,c1,c2,c3,c4,c5,c6⟩
   ·replace zz:=B6 g0 g7 g8 hd hr w7 c1 c2;refine wt zz ?_;have:=good (by simp[DS,l1]);simpa using this
   ·cases k0:((k:Int)==0)with
    |true=>
     have hk0:k=0:=(by simpa using k0);have hbad:=bad (by simp[DS,l1,hk0]);replace zz:=B6 g0 g7 g8 hd hr w7 c1 k0;refine wt zz ?_;rw[hbad]
    |false=>
     have hk0:k≠0:=(by simpa using k0);rcases Rk c1 with⟨m1,c3,c5⟩|⟨m1,c3,c5,c6⟩|⟨m1,c3,c4⟩|⟨m1,c3,c4,c5,c6⟩|⟨m1,c3,c4,c5,c6⟩
     ·replace zz:=Aq g0 g7 g8 hd hr w7 c1 k0 c3 c5;refine wt zz ?_;have:=good (by simp[DS,m1,hk0]);simpa using this
     ·have hbad:=bad (by simp[DS,l1,m1]);replace zz:=Cv g0 g7 g8 hd hr w7 c1 k0 c3 c5 c6;refine wt zz ?_;rw[hbad]
     ·replace zz:=Aq g0 g7 g8 hd hr w7 c1 k0 c3 c4;refine wt zz ?_;have:=good (by simp[DS,m1,hk0]);simpa using this
     ·replace zz:=AJ g0 g7 g8 hd hr w7 c1 k0 c3 c4 c5 c6;refine wt zz ?_;have:=good (by simp[DS,m1,hk0]);simpa using this
     ·have hbad:=bad (by simp[DS,l1,m1]);replace zz:=AJ g0 g7 g8 hd hr w7 c1 k0 c3 c4 c5 c6;refine wt zz ?_;rw[hbad]
   ·have hbad:=bad (by simp[DS,l1,m1]);cases k0:((k:Int)==0)with
    |true=>
     replace zz:=BR g0 g7 g8 hd hr w7 c1 c2 k0;refine wt zz ?_;rw[hbad]
    |false=>
     replace zz:=AJ g0 g7 g8 hd hr w7 c1 c2 k0 c3 c4 (uu c5 c6);refine wt zz ?_;rw[hbad]
  ·have hd:decide ((k:Int)<(s.size:Int))=false:=(by simp;omega);have hok:IW s.data.toList=true:=Rj λj c hj=>hall j c (by have:=(List.getElem?_eq_some_iff.1 hj).1;omega) hj;clear hall;have hn:Ak s=(!(s.data.toList==(#[]:Array UInt8).toList)&&decide ((s.size:Int)<=32)&&!(F9.any λw=>A3 s w)):=by
    have e1:decide (0<s.size)=!(s.data.toList==(#[]:Array UInt8).toList):=by
     rw[← hsl];cases s.data.toList<;>simp
    have e2:decide ((s.size:Int)<=32)=decide (s.size<=32):=by
     exact Ls.2 (by omega)
    simp only[Ak,hok,Ah,e1,e2]
   cases b1:(s.data.toList==(#[]:Array UInt8).toList)with
   |true=>
    replace zz:=AV g0 g7 g8 hd b1;refine wt zz ?_;rw[hn,b1];try rfl
   |false=>
    cases b2:decide ((s.size:Int)<=32)with
    |false=>
     replace zz:=AK g0 g7 g8 hd b1 b2;refine wt zz ?_;rw[hn,b1,b2];try rfl
    |true=>
     replace zz:=AK g0 g7 g8 hd b1 b2;refine wt zz ?_;have hwl:F9.length<=9223372036854775807:=(by rw[OO];omega);refine uU A2 (Yl) ?_;refine uU (Aj b1 b2 g0) (Yk (l:=F9) (s:=s) hwl) ?_;refine wt (Aj g0 b1 b2) ?_;rw[hn,b1,b2];try rfl
theorem K8{h:A0}{s:ByteArray}(hs:s.size<=9223372036854775807):AA prog 95 [A1 s] h λr h'=>r= .sc (.bool (D7 s))/\h'=h:=by
 cases b1:decide ((s.size:Int)>1)with
 |false=>
  have:D7 s=false:=by simp at b1;simp[D7];omega
  refine AN func95 ntmps95 results95 Ty.Mi ?_;refine wt b1 ?_;rw[this]
 |true=>
  cases b2:decide ((s.size:Int)<=32)with
  |false=>
   have:D7 s=false:=(by simp at b2;simp[D7];omega);refine AN func95 ntmps95 results95 Ty.Mi ?_;refine wt (uu b1 b2) ?_;rw[this]
  |true=>
   simp at b1 b2;have hsl:s.data.toList.length=s.size:=(by rw[DE];try rfl);obtain⟨c,hx⟩: ∃ c,s.data.toList[0]? =some c:=⟨_,List.getElem?_eq_getElem (by omega)⟩;have hr:s[0]? =some c:=(by rw[HI];exact hx);have d1:decide ((s.size:Int)>1)=true:=(by simp;omega);have d2:decide ((s.size:Int)<=32)=true:=(by simp;omega);have q1:(1:Int)<=(s.size:Int):=(by omega);have hv:D7 s=(decide (c.toNat=63)&&Ak (s.extract 1 s.size)):=by
    have e1:decide (2<=s.size)=true:=(by simp;omega);have e2:decide (s.size<=32)=true:=(by simp;omega);simp only[D7,e1,e2,hx,Ah]
   cases b3:((c.toNat:Int)==63)with
   |false=>
    have:¬ c.toNat=63:=(by simp at b3;omega);refine AN func95 ntmps95 results95 Ty.Mi ?_;replace zz:=AS d1 d2 hr b3;refine wt zz ?_;rw[hv];simp[this]
   |true=>
    have:c.toNat=63:=(by simp at b3;omega);refine AN func95 ntmps95 results95 Ty.Mi ?_;have hsz:(s.extract 1 s.size).size<=9223372036854775807:=(by simp;omega);replace zz:=AK d1 d2 hr b3 q1 @Jr;refine wt zz ?_;replace zz:=AK d1 d2 hr b3 q1 @Jr;refine uU zz (Fb (s:=s.extract 1 s.size) hsz) ?_;refine wt (Aj d1 d2 b3) ?_;rw[hv,this];try rfl
theorem Fc{h:A0}{s:ByteArray}(hs:s.size<=9223372036854775807):AA prog 78 [A1 s] h λr h'=>r= .sc (.bool (Ak s))/\h'=h:=by
 have hsl:s.data.toList.length=s.size:=by rw[DE];try rfl
 cases b1:decide ((s.size:Int)<1)with
 |true=>
  have:Ak s=false:=by simp at b1;simp[Ak];intros;omega
  refine AN func78 ntmps78 results78 Ty.L9 ?_;refine wt b1 ?_;rw[this]
 |false=>
  cases b2:decide ((s.size:Int)>32)with
  |true=>
   have:Ak s=false:=by
    simp at b2;have:¬ s.size<=32:=(by omega);simp[Ak,this]
   refine AN func78 ntmps78 results78 Ty.L9 ?_;refine wt (uu b1 b2) ?_;rw[this]
  |false=>
   have b1':=b1;have b2':=b2;simp at b1' b2';obtain⟨c,hx⟩: ∃ c,s.data.toList[0]? =some c:=⟨_,List.getElem?_eq_getElem (by omega)⟩;have hr:s[0]? =some c:=(by rw[HI];exact hx);cases b3:decide ((c.toNat:Int)<97)with
   |true=>
    have:CM c=false:=(by simp at b3;simp[CM];omega);have:Ak s=false:=(by simp[Ak,Mo hx (by simp[DS,this])]);refine AN func78 ntmps78 results78 Ty.L9 ?_;replace zz:=AS b1 b2 b3 hr;refine wt zz ?_;rw[this]
   |false=>
    cases b4:decide ((c.toNat:Int)>122)with
    |true=>
     have:CM c=false:=(by simp at b4;simp[CM];omega);have:Ak s=false:=(by simp[Ak,Mo hx (by simp[DS,this])]);refine AN func78 ntmps78 results78 Ty.L9 ?_;replace zz:=AV b1 b2 b3 b4 hr;refine wt zz ?_;rw[this]
    |false=>
     have hlet:CM c=true:=(by simp at b3 b4;simp[CM];omega);refine AN func78 ntmps78 results78 Ty.L9 ?_;replace zz:=AV b1 b2 b3 b4 hr;refine wt zz ?_;cases b5:(F9.any λw=>A3 s w)with
     |true=>
      have:Ak s=false:=(by simp[Ak,b5]);replace zz:=AV b1 b2 b3 b4 hr;refine uU zz (Ri (s:=s)) ?_;refine wt b5 ?_;rw[this]
     |false=>
      replace zz:=AV b1 b2 b3 b4 hr;refine uU zz (Ri (s:=s)) ?_;refine wt b5 ?_;refine BV (λm S h'=>h'=h/\S 0=A1 s/\ ∃ k:Nat,S 3= .sc (.int .i64 k)/\k<=s.size/\m=s.size-k/\ ∀ (i:Nat)(c:UInt8),i<k->s.data.toList[i]? =some c->D6 c=true) s.size ?_ ?_
      ·simp only[Ty.w,simprocAttr];exact⟨0,rfl,by omega,rfl,by omega⟩
      ·rintro m S h' ⟨rfl,g0,k,g3,hk,rfl,hall⟩;by_cases hlt:k<s.size
       ·have hd:decide ((k:Int)<(s.size:Int))=true:=(by simp;omega);have w7:IntKind.i64.wrap ((k:Int)+1)=k+1:=(by rw[B9 (by omega) (by omega)]);obtain⟨d,hx2⟩: ∃ d,s.data.toList[k]? =some d:=⟨_,List.getElem?_eq_getElem (by omega)⟩;have hr2:s[k]? =some d:=(by rw[HI];exact hx2);have bad:D6 d=false->Ak s=false:=λe=>by
         by_cases hk0:k=0
         ·subst hk0;rw[hx]at hx2;simp at hx2;subst hx2;rw[OP hlet]at e;simp at e
         ·simp [Ak,Mo hx2 (by simp[DS,e];cases hl:CM d<;>simp;rw[OP hl]at e;simp at e)]
        have good:D6 d=true-> ∃ m',m'<s.size-k/\ ∃ k':Nat,(k:Int)+1=k'/\k'<=s.size/\m'=s.size-k'/\ ∀ (i:Nat)(c:UInt8),i<k'->s.data.toList[i]? =some c->D6 c=true:=λe=>by
         refine⟨s.size-(k+1),by omega,k+1,by simp,by omega,rfl,λi c2 hi hw=>?_⟩;by_cases hik:i=k
         ·subst hik;rw[hx2]at hw;simp at hw;rw[← hw];exact e
         ·exact hall i c2 (by omega) hw
        clear hall;rcases Yn d with⟨m1,c1,c2⟩|⟨m1,c1,c2,c3,c4,c5,c6⟩|⟨c1,c2⟩
        ·replace zz:=AY g0 g3 hd hr2 w7 c1 c2;refine wt zz ?_;have:=good m1;simpa using this
        ·have hbad:=bad m1;replace zz:=Cv g0 g3 hd hr2 w7 c1 c2 c3 c4 c5 c6;refine wt zz ?_;rw[hbad]
        ·rcases Rk c2 with⟨m1,c3,c5⟩|⟨m1,c3,c5,c6⟩|⟨m1,c3,c4⟩|⟨m1,c3,c4,c5,c6⟩|⟨m1,c3,c4,c5,c6⟩
         ·replace zz:=B6 g0 g3 hd hr2 w7 c1 c3 c5;refine wt zz ?_;have:=good m1;simpa using this
         ·have hbad:=bad m1;replace zz:=BR g0 g3 hd hr2 w7 c1 c3 c5 c6;refine wt zz ?_;rw[hbad]
         ·replace zz:=B6 g0 g3 hd hr2 w7 c1 c3 c4;refine wt zz ?_;have:=good m1;simpa using this
         ·replace zz:=Aq g0 g3 hd hr2 w7 c1 c3 c4 c5 c6;refine wt zz ?_;have:=good m1;simpa using this
         ·have hbad:=bad m1;replace zz:=Aq g0 g3 hd hr2 w7 c1 c3 c4 c5 c6;refine wt zz ?_;rw[hbad]
       ·have hd:decide ((k:Int)<(s.size:Int))=false:=(by simp;omega);have hok:IW s.data.toList=true:=by
         refine Rj λj d hj=>?_;by_cases hj0:j=0
         ·subst hj0;rw[hx]at hj;simp at hj;subst hj;simp[DS,hlet]
         ·simp [DS,hj0,hall j d (by have:=(List.getElem?_eq_some_iff.1 hj).1;omega) hj]
        have hn:Ak s=true:=by
         have e1:decide (0<s.size)=true:=(by simp;omega);have e2:decide (s.size<=32)=true:=(by simp;omega);simp only[Ak,hok,b5,e1,e2];rfl
        clear hall;refine wt (Aj g0 g3 hd) ?_;rw[hn]
theorem Rl{h:A0}{s:ByteArray}(hs:s.size<=9223372036854775807):AA prog 77 [A1 s] h λr h'=>r= .sc (.bool (D7 s))/\h'=h:=by
 cases b1:decide ((s.size:Int)>=2)with
 |false=>
  have:D7 s=false:=by simp at b1;simp[D7];omega
  refine AN func77 ntmps77 results77 Ty.Mf ?_;refine wt b1 ?_;rw[this]
 |true=>
  cases b2:decide ((s.size:Int)<=32)with
  |false=>
   have:D7 s=false:=(by simp at b2;simp[D7];omega);refine AN func77 ntmps77 results77 Ty.Mf ?_;refine wt (uu b1 b2) ?_;rw[this]
  |true=>
   simp at b1 b2;have hsl:s.data.toList.length=s.size:=(by rw[DE];try rfl);obtain⟨c,hx⟩: ∃ c,s.data.toList[0]? =some c:=⟨_,List.getElem?_eq_getElem (by omega)⟩;have hr:s[0]? =some c:=(by rw[HI];exact hx);have d1:decide ((s.size:Int)>=2)=true:=(by simp;omega);have d2:decide ((s.size:Int)<=32)=true:=(by simp;omega);have q1:(1:Int)<=(s.size:Int):=(by omega);have hv:D7 s=(decide (c.toNat=63)&&Ak (s.extract 1 s.size)):=by
    have e1:decide (2<=s.size)=true:=(by simp;omega);have e2:decide (s.size<=32)=true:=(by simp;omega);simp only[D7,e1,e2,hx,Ah]
   cases b3:((c.toNat:Int)==63)with
   |false=>
    have:¬ c.toNat=63:=(by simp at b3;omega);refine AN func77 ntmps77 results77 Ty.Mf ?_;replace zz:=AS d1 d2 hr b3;refine wt zz ?_;rw[hv];simp[this]
   |true=>
    have:c.toNat=63:=(by simp at b3;omega);refine AN func77 ntmps77 results77 Ty.Mf ?_;have hsz:(s.extract 1 s.size).size<=9223372036854775807:=(by simp;omega);replace zz:=AK d1 d2 hr b3 q1 @Jr;refine wt zz ?_;replace zz:=AK d1 d2 hr b3 q1 @Jr;refine uU zz (Fc (s:=s.extract 1 s.size) hsz) ?_;refine wt (Aj d1 d2 b3) ?_;rw[hv,this];try rfl
end Go.Proofs.YtblgchkahpgdjaaGreat
namespace Go.AM
inductive Sx where
 |mk(kind value line col:Int)(text:ByteArray)(kids:List Sx)
mutual
def Sx.cells:Sx->List PV
 | .mk kind value line col text kids=>[.sc (.int .i64 kind),.sc (.int .i64 value),.sc (.int .i64 line),.sc (.int .i64 col),A1 text,.imm 6 (Sx.rows kids)]
def Sx.rows:List Sx->List (List PV)
 |[]=>[]
 |k::ks=>k.cells::Sx.rows ks
end
theorem Sx.rows_map: ∀ l:List Sx,Sx.rows l=l.map Sx.cells
 |[]=>rfl
 |k::ks=>by simp[Sx.rows,Sx.rows_map ks]
theorem Sx.rows_len(l:List Sx):(Sx.rows l).length=l.length:=by simp[Sx.rows_map]
theorem Sx.rows_get{l:List Sx}{i:Nat}{k:Sx}(h:l[i]? =some k):(Sx.rows l)[i]? =some k.cells:=by simp[Sx.rows_map,h]
theorem Sx.ind{C:Sx->Prop}(hC: ∀ kind value line col text kids,(∀ k∈kids,C k)->C (.mk kind value line col text kids)): ∀ e,C e
 | .mk kind value line col text kids=>hC kind value line col text kids λk hk=>Sx.ind hC k
termination_by e=>SizeOf.sizeOf e
decreasing_by
 have:=List.sizeOf_lt_of_mem hk;simp only[Sx.mk.sizeOf_spec];omega
mutual
def Sx.ok:Sx->Prop
 | .mk kind value line col text kids=>(-9223372036854775808<=kind/\kind<=9223372036854775807)/\(-9223372036854775808<=value/\value<=9223372036854775807)/\text.size<=AE/\kids.length<=AE/\Sx.oks kids
def Sx.oks:List Sx->Prop
 |[]=>True
 |k::ks=>k.ok/\Sx.oks ks
end
theorem Sx.oks_iff:{l:List Sx}->(Sx.oks l↔ ∀ k∈l,k.ok)
 |[]=>by simp[Sx.oks]
 |k::ks=>by simp[Sx.oks,Sx.oks_iff (l:=ks)]
end Go.AM
namespace Go.Proofs.YtblgchkahpgdjaaGreat
open Go.AM Go.Proofs.Tryz
def CQ(c:UInt8):Bool:=decide (48<=c.toNat)&&decide (c.toNat<=57)
def JN:List UInt8:=[45,95,63,58,60,62,61,43,42]
def wB(c:UInt8):Bool:=CM c||CQ c||JN.contains c
def HJ(c:UInt8):Bool:=decide (65<=c.toNat)&&decide (c.toNat<=90)
def Dn(c:UInt8):Option UInt8:=if HJ c then some (c+32)else if wB c then some c else none
def E6:List UInt8->Option (List UInt8)
 |[]=>some []
 |c::l=>match Dn c with
  |some d=>(E6 l).map (d::·)
  |none=>none
def EL(s:ByteArray):ByteArray × Bool:=if 0<s.size/\s.size<=32 then(match E6 s.data.toList with|some l=>(⟨l.toArray⟩,true)|none=>(⟨#[]⟩,false))else(⟨#[]⟩,false)
def Cp(s:ByteArray):ByteArray:=match s.data.toList with
 |45::l=>⟨l.toArray⟩
 |_=>s
def Gi(s:ByteArray):Bool:=(Cp s).data.toList.all CQ&&decide (0<(Cp s).size)
def Mp(s:ByteArray):Bool:=(EL s).2&&A3 (EL s).1 s&&!(Gi (EL s).1)
mutual
def Ci:Sx->Nat->Nat->Bool × Nat
 | .mk kind value _ _ text kids,d,n=>
  if n+1>4096 then(false,n+1)
  else if kind=1 then(Mp text&&decide (value=0)&&kids.isEmpty,n+1)
  else if kind=2 then(A3 text ⟨#[]⟩&&kids.isEmpty&&decide (-1099511627776<=value)&&decide (value<=1099511627776),n+1)
  else if kind=3 then(if A3 text ⟨#[]⟩=true/\value=0/\d≠32 then FB kids (d+1) (n+1)else(false,n+1))
  else(false,n+1)
def FB:List Sx->Nat->Nat->Bool × Nat
 |[],_,n=>(true,n)
 |k::ks,d,n=>match Ci k d n with
  |(true,n')=>FB ks d n'
  |(false,n')=>(false,n')
end
end Go.Proofs.YtblgchkahpgdjaaGreat
namespace Go.AM
def Mq:Value->Value->Bool
 | .int k a,.int k' b=>decide (k=k')&&decide (a=b)
 | .bool a,.bool b=>a==b
 | .string a,.string b=>decide (a.data.toList=b.data.toList)
 | .nilIface,.nilIface=>true
 | .pointer none,.pointer none=>true
 | .map none,.map none=>true
 | .slice none n m,.slice none n' m'=>decide (n=n')&&decide (m=m')
 | .func (.func f) a b,.func (.func f') a' b'=>decide (f=f')&&decide (a.size=0)&&decide (b.size=0)&&decide (a'.size=0)&&decide (b'.size=0)
 | .iface t v,.iface u x=>decide (t=u)&&Mq v x
 |_,_=>false
theorem Yo(a b:Value)(h:Mq a b=true):a=b:=by
 fun_induction Mq a b
 case case3 a b=>
  obtain⟨⟨a⟩⟩:=a;obtain⟨⟨b⟩⟩:=b;simp at h;rw[h]
 case case8=>
  simp at h;obtain⟨⟨⟨⟨rfl,rfl⟩,rfl⟩,rfl⟩,rfl⟩:=h;rfl
 all_goals simp_all
mutual
def Ew:PV->PV->Bool
 | .sc v,.sc u=>Mq v u
 | .ptr a b c,.ptr a' b' c'=>decide (a=a')&&decide (b=b')&&decide (c=c')
 | .own a b c,.own a' b' c'=>decide (a=a')&&decide (b=b')&&decide (c=c')
 | .mp a,.mp b=>decide (a=b)
 | .emp,.emp=>true
 | .cptr l,.cptr l'=>HK l l'
 | .agg l,.agg l'=>HK l l'
 | .tup l,.tup l'=>HK l l'
 | .fn f a b,.fn f' a' b'=>decide (f=f')&&HK a a'&&HK b b'
 | .ab k a b c d,.ab k' a' b' c' d'=>decide (k=k')&&decide (a=a')&&decide (b=b')&&decide (c=c')&&decide (d=d')
 | .imm z r,.imm z' r'=>decide (z=z')&&LC r r'
 |_,_=>false
def HK:List PV->List PV->Bool
 |[],[]=>true
 |a::l,b::l'=>Ew a b&&HK l l'
 |_,_=>false
def LC:List (List PV)->List (List PV)->Bool
 |[],[]=>true
 |a::l,b::l'=>HK a b&&LC l l'
 |_,_=>false
end
mutual
theorem OQ: ∀ (a b:PV),Ew a b=true->a=b
 | .sc v,b,h=>by cases b<;>simp[Ew]at h;rw[Yo _ _ h]
 | .ptr a b c,x,h=>by cases x<;>simp[Ew]at h;obtain⟨⟨rfl,rfl⟩,rfl⟩:=h;rfl
 | .own a b c,x,h=>by cases x<;>simp[Ew]at h;obtain⟨⟨rfl,rfl⟩,rfl⟩:=h;rfl
 | .mp a,x,h=>by cases x<;>simp[Ew]at h;rw[h]
 | .emp,x,h=>by cases x<;>simp[Ew]at h;rfl
 | .cptr l,x,h=>by cases x<;>simp[Ew]at h;rw[JO _ _ h]
 | .agg l,x,h=>by cases x<;>simp[Ew]at h;rw[JO _ _ h]
 | .tup l,x,h=>by cases x<;>simp[Ew]at h;rw[JO _ _ h]
 | .imm z r,x,h=>by cases x<;>simp[Ew]at h;rw[h.1,Rm _ _ h.2]
 | .fn f a b,x,h=>by cases x<;>simp[Ew]at h;rw[h.1.1,JO _ _ h.1.2,JO _ _ h.2]
 | .ab k a b c d,x,h=>by cases x<;>simp[Ew]at h;obtain⟨⟨⟨⟨rfl,rfl⟩,rfl⟩,rfl⟩,rfl⟩:=h;rfl
theorem JO: ∀ (a b:List PV),HK a b=true->a=b
 |[],b,h=>by cases b<;>simp[HK]at h;rfl
 |x::l,b,h=>by cases b<;>simp[HK]at h;rw[OQ _ _ h.1,JO _ _ h.2]
theorem Rm: ∀ (a b:List (List PV)),LC a b=true->a=b
 |[],b,h=>by cases b<;>simp[LC]at h;rfl
 |x::l,b,h=>by cases b<;>simp[LC]at h;rw[JO _ _ h.1,Rm _ _ h.2]
end
abbrev LD:=FuncId->List PV->A0->Option (PV × Bool × A0)
section
variable (P:Program)(wf:FuncId->Bool)(own:FuncId->Nat->Bool)(BU:FuncId->List PV->Option PV)
def OR(call:LD)(ow:Nat->Bool)(o:Oper)(ρ:Operand->PV)(h:A0):Option (PV × Bool × A0):=
 match callee ρ o.op with
 |some (f,args)=>call f args h
 |none=>match AQ P (o.dst.any ow) o.op ρ h with
  |some (v,h')=>some (v,!(Ax ow wf o),h')
  |none=>none
def Rn(call:LD)(ow:Nat->Bool)(o:Oper)(ρ:Operand->PV)(h:A0)(v:PV):Bool:=
 match OR P wf call ow o ρ h with
 |some (v',q,_)=>q&&Ew v' v
 |none=>false
def xl(call:LD)(ow:Nat->Bool)(n:Nat)(ops:List Oper):List Oper->A8->Bool->A0->Option (A8 × Bool × A0)
 |[],s,q,h=>some (s,q,h)
 | o :: rest, s, q, h => if o.dst.all (λd => decide (d < n)) = true then
   match Bt ops s o with
   |none=>none
   |some false=>xl call ow n ops rest (AW s o.dst (.sc undef)) q h
   |some true=>match OR P wf call ow o (A6 s) h with
    |some (v,q',h')=>xl call ow n ops rest (AW s o.dst v) (q&&q') h'
    |none=>none
  else none
def xd(call:LD)(ow:Nat->Bool)(n:Nat)(ops:List Oper):Nat->List Oper->List (Nat × Oper × A8 × PV)->List (Nat × A0)->A8->Bool->A0->Option (A8 × Bool × A0)
 |_,[],_,_,s,q,h=>some (s,q,h)
 | k, o :: rest, past, hist, s, q, h => if o.dst.all (λd => decide (d < n)) = true then
   match Bt ops s o with
   |none=>none
   |some false=>xd call ow n ops (k+1) rest past hist (AW s o.dst (.sc undef)) q h
   |some true=>match OR P wf call ow o (A6 s) h with
    |none=>none
    |some (v,q',h')=>
     if Ax ow wf o=true then
      (if past.all (λx=>pre ops x.1 k||Rn P wf call ow x.2.1 (A6 x.2.2.1) h' x.2.2.2)=true then xd call ow n ops (k+1) rest past ((k,h)::hist) (AW s o.dst v) (q&&q') h' else none)
     else if q'=true then
      (if hist.all (λx=>pre ops x.1 k||Rn P wf call ow o (A6 s) x.2 v)=true then xd call ow n ops (k+1) rest ((k,o,s,v)::past) hist (AW s o.dst v) q h else none)
     else none
  else none
def xc(call:LD)(ow:Nat->Bool)(n:Nat):Nat->Code->A8->Bool->A0->Option (Exit × A8 × Bool × A0)
 |0,_,_,_,_=>none
 |k+1,c,s,q,h=>match c with
  | .skip=>some (.normal,s,q,h)
  | .region _ ops true=>if HC ow wf ops.toList=true then(xd P wf call ow n ops.toList 0 ops.toList [] [] s q h).map (Exit.normal,·)else none
  | .region _ ops false=>(xl P wf call ow n ops.toList ops.toList s q h).map (Exit.normal,·)
  | .seq a b=>match xc call ow n k a s q h with
   |some (.normal,s',q',h')=>xc call ow n k b s' q' h'
   |r=>r
  | .cond c x y=>match A6 s c with
   | .sc (.bool true)=>xc call ow n k x s q h
   | .sc (.bool false)=>xc call ow n k y s q h
   |_=>none
  | .block id c=>match xc call ow n k c s q h with
   |some (.exit id',s',q',h')=>some (if id'=id then .normal else .exit id',s',q',h')
   |r=>r
  | .loop c=>match xc call ow n k c s q h with
   |some (.normal,s',q',h')=>xc call ow n k (.loop c) s' q' h'
   |r=>r
  | .exit id=>some (.exit id,s,q,h)
  | .ret=>some (.ret,s,q,h)
  |_=>none
end
section
variable {P:Program}{wf:FuncId->Bool}{own:FuncId->Nat->Bool}
def Yp(P:Program)(BU:FuncId->List PV->Option PV):Prop:= ∀ f args r h,BU f args=some r->AA P f args h (λr' h'=>r'=r/\h'=h)
theorem Yq{ow:Nat->Bool}{o:Oper}{ρ:Operand->PV}{h h':A0}{v:PV}(hw:Ax ow wf o=false)(hc:callee ρ o.op=none)(he:AQ P (o.dst.any ow) o.op ρ h=some (v,h')):h'=h:=by
 obtain⟨dst,op,t,pos,after,guard⟩:=o;simp only at hc he hw;unfold AQ at he;split at he<;>simp only[Ax]at hw<;>(try(simp at hw;done));all_goals(repeat'(split at he))
 all_goals first
  |(simp[IJ,Ck]at he;done)
  |(simp[IJ,Ck]at he;grind)
  |skip
theorem Ad.owp{ow:Nat->Bool}{o:Oper}{s:A8}{h h':A0}{v:PV}{K:A8->A0->Prop}(hd:Ad P ow o (A6 s) h v h')(hK:K (AW s o.dst v) h'):Bu P ow o K s h:=by
 unfold Ad at hd;unfold AM.Bu;split at hd
 ·rename_i f args hc;exact hd.mono (λr h'' hr=>by rw[hr.1,hr.2];exact hK)
 ·rename_i hc;rw[hd];exact hK
theorem Ro{f:FuncId}{fn:Func}(hf:P.funcs[f]? =some fn)(hname:(fn.name== "runtime.NumGoroutine")=false)(hb:fn.body.isNone=true)(hn:Extern.findNext fn=none)(he:Extern.find fn=some Extern.BytealgIndexByte.indexByte)(s:ByteArray)(c:Int)(h:A0):
  AA P f [.sc (.string s),.sc (.int .u8 c)] h (λr h'=>r= .sc (.int .i64 (firstIdx s c.toNat.toUInt8))/\h'=h):=by
 intro β w vals sm hr
 match vals,hr.len,hr with
 |[x,y],_,hr=>
  simp only[AR,A9]at hr;obtain⟨rfl,rfl,_⟩:=hr;exact .inr ⟨_,w,by rw[run_callFunc_extern hf hname hb hn he];simp only[run_indexByte_string];rfl,_,h,β,_,rfl,⟨rfl,rfl⟩,sm,by simp only[AO,A9],BB.refl⟩
end
end Go.AM
namespace Go.Proofs.YtblgchkahpgdjaaGreat
open Go.AM Go.Proofs.Tryz
set_option maxHeartbeats 2000000
set_option maxRecDepth 100000
def BU(f:FuncId)(args:List PV):Option PV:=if f=190 then(match args with|[.sc (.string s),.sc (.int .u8 c)]=>some (.sc (.int .i64 (firstIdx s c.toNat.toUInt8)))|_=>none)else none
theorem IX:(Tryz.f190.name== "runtime.NumGoroutine")=false/\Tryz.f190.body.isNone=true/\Extern.findNext Tryz.f190=none/\Extern.find Tryz.f190=some Extern.BytealgIndexByte.indexByte:=
 ⟨by kernel_rfl,by kernel_rfl,by kernel_rfl,by kernel_rfl⟩
theorem Yr:Yp prog BU:=by
 intro f args r h hr;unfold BU at hr;split at hr
 ·rename_i hf;subst hf;split at hr
  ·simp only[Ag]at hr;subst hr;exact Ro func190 IX.1 IX.2.1 IX.2.2.1 IX.2.2.2 _ _ _
  ·simp at hr
 ·simp at hr
end Go.Proofs.YtblgchkahpgdjaaGreat
namespace Go.Proofs.YtblgchkahpgdjaaGreat
open Go.AM Go.Proofs.Tryz
set_option maxHeartbeats 2000000
set_option maxRecDepth 20000
theorem AA.quiet2{P:Program}{f:FuncId}{args:List PV}{h:A0}{v u:Value}(hb:Af P f=true)(hc:AA P f args h λr h'=>r= .tup [.sc v,.sc u]/\AL h h'):AA P f args h λr h'=>r= .tup [.sc v,.sc u]/\h'=h:=by
 refine GN hb λhw=>AA.drop (hc.mono ?_);rintro r h' ⟨rfl,g⟩;refine⟨.tup [.sc v,.sc u],h,⟨rfl,rfl⟩,by simp only[AZ,B4];exact⟨_,rfl,rfl,rfl,trivial⟩,AF _,λid o ho=>?_⟩;have hid:=hw id (by rw[ho];try rfl);exact⟨by rw[g.old id hid];exact ho,hid,.inl ho⟩
theorem Gj{h:A0}{c:UInt8}:AA prog 163 [.sc (.int .u8 c.toNat)] h λr h'=>r= .sc (.bool (CQ c))/\h'=h:=by
 cases b1:decide ((c.toNat:Int)>=48)with
 |false=>
  have:CQ c=false:=by simp at b1;simp[CQ];omega
  refine AN func163 ntmps163 results163 Ty.RZ ?_;refine wt b1 ?_;rw[this]
 |true=>
  have:CQ c=decide ((c.toNat:Int)<=57):=by
   simp at b1;have e1:decide (48<=c.toNat)=true:=(by simp;omega);simp only[CQ,e1,Ah];exact Ls.2 (by omega)
  refine AN func163 ntmps163 results163 Ty.RZ ?_;refine wt b1 ?_;rw[this]
theorem K9(s:ByteArray)(c:UInt8):decide (firstIdx s c>=0)=s.data.toList.contains c:=by
 unfold firstIdx;have hsl:s.data.toList.length=s.size:=by rw[DE];try rfl
 have hget: ∀ i,i<s.size->s[i]! =s.data.toList[i]!:=by
  intro i hi;have h1:s[i]? =s.data.toList[i]?:=HI s i;rw[getElem!_def,getElem!_def,h1]
 cases hf:(List.range s.size).find? λi=>s[i]! ==c with
 |none=>
  rw[List.find?_eq_none]at hf;have:s.data.toList.contains c=false:=by
   rw[Bool.eq_false_iff];intro hc;rw[List.contains_iff_mem]at hc;obtain⟨i,hi,he⟩:=List.getElem_of_mem hc;have h2:=hf i (by simp;omega);rw[hget i (by omega),getElem!_pos s.data.toList i hi,he]at h2;simp at h2
  rw[this];try rfl
 |some i=>
  have h1:=List.find?_some hf;have h2:=List.mem_of_find?_eq_some hf;simp at h2;have:s.data.toList.contains c=true:=by
   rw[List.contains_iff_mem];rw[hget i h2]at h1;rw[getElem!_pos s.data.toList i (by omega)]at h1;have:=DZ.1 h1;rw[← this];exact List.getElem_mem _
  rw[this];simp
theorem KA{h:A0}{s:ByteArray}{c:UInt8}:AA prog 164 [A1 s,.sc (.int .u8 c.toNat)] h λr h'=>r= .sc (.int .i64 (firstIdx s c))/\h'=h:=by
 have hx:AA prog 190 [A1 s,.sc (.int .u8 c.toNat)] h λr h'=>r= .sc (.int .i64 (firstIdx s c))/\h'=h:=by
  have:=Ro (P:=prog) func190 IX.1 IX.2.1 IX.2.2.1 IX.2.2.2 s c.toNat h;simpa using this
 have hy:AA prog 176 [A1 s,.sc (.int .u8 c.toNat)] h λr h'=>r= .sc (.int .i64 (firstIdx s c))/\h'=h:=by
  refine AN func176 ntmps176 results176 Ty.Yc ?_;refine wt A2 ?_;refine uU A2 (hx) ?_;exact wz A2
 refine AN func164 ntmps164 results164 Ty.YZ ?_;refine wt A2 ?_;refine uU A2 (hy) ?_;exact wz A2
theorem Mr{a b:ByteArray}(h:a.data.toList=b.data.toList):a=b:=by
 obtain⟨⟨a⟩⟩:=a;obtain⟨⟨b⟩⟩:=b;simp at h;rw[h]
theorem Rp{h:A0}{s:ByteArray}:AA prog 191 [A1 s,A1 ⟨#[45]⟩] h λr h'=>r= .sc (.bool (match s.data.toList with|45::_=>true|_=>false))/\h'=h:=by
 have hsl:s.data.toList.length=s.size:=by rw[DE];try rfl
 have h1:(ByteArray.mk #[45]).size=1:=rfl;cases b1:decide ((s.size:Int)>=1)with
 |false=>
  have:(match s.data.toList with|45::_=>true|_=>false)=false:=by
   simp at b1;have:s.data.toList=[]:=List.eq_nil_of_length_eq_zero (by omega);rw[this]
  refine AN func191 ntmps191 results191 Ty.Rf ?_;repeat'(first|refine AI λK hK=>?_|((first|refine Bp ?_|refine Ea ?_);simp only[Ty.w,simprocAttr,h1,Pt,b1])|(refine hK _ _ ?_;clear hK;(try simp only[B2,simprocAttr])))
  rw[this]
 |true=>
  have b1':=b1;simp at b1';have q1:(1:Int)<=(s.size:Int):=by omega
  have:(match s.data.toList with|45::_=>true|_=>false)=((s.extract 0 1).data.toList==(#[45]:Array UInt8).toList):=by
   have he:(s.extract 0 1).data.toList=s.data.toList.take 1:=(by simp);rw[he];cases hl:s.data.toList with
   |nil=>rw[hl]at hsl;simp at hsl;omega
   |cons c l=>
    simp only[List.take_succ_cons,List.take_zero];by_cases hc:c=45
    ·subst hc;rfl
    ·have:([c]==(#[45]:Array UInt8).toList)=false:=(by simp[hc]);rw[this];split
     ·rename_i heq;simp at heq;exact absurd heq.1 hc
     ·rfl
  refine AN func191 ntmps191 results191 Ty.Rf ?_;repeat'(first|refine AI λK hK=>?_|((first|refine Bp ?_|refine Ea ?_);simp only[Ty.w,simprocAttr,h1,Pt,b1,q1,Bm,CO,Jr,Pu,Int.toNat_zero])|(refine hK _ _ ?_;clear hK;(try simp only[B2,simprocAttr])))
  rw[this]
theorem Ys{h:A0}{s:ByteArray}:AA prog 165 [A1 s,A1 ⟨#[45]⟩] h λr h'=>r=A1 (Cp s)/\h'=h:=by
 have hsl:s.data.toList.length=s.size:=by rw[DE];try rfl
 have h1:(ByteArray.mk #[45]).size=1:=rfl;have hy:AA prog 177 [A1 s,A1 ⟨#[45]⟩] h λr h'=>r=A1 (Cp s)/\h'=h:=by
  cases b1:(match s.data.toList with|45::_=>true|_=>false)with
  |false=>
   have:Cp s=s:=by
    unfold Cp;split
    ·rename_i heq;rw[heq]at b1;simp at b1
    ·rfl
   refine AN func177 ntmps177 results177 Ty.Rd ?_;refine wt A2 ?_;refine uU b1 (Rp (s:=s)) ?_;refine wt b1 ?_;rw[this]
  |true=>
   have hq: ∃ l,s.data.toList=45::l:=by
    split at b1
    ·rename_i l heq;exact⟨l,heq⟩
    ·simp at b1
   obtain⟨l,hl⟩:=hq;have q1:(1:Int)<=(s.size:Int):=(by rw[hl]at hsl;simp at hsl;omega);have:Cp s=s.extract 1 s.size:=by
    unfold Cp;rw[hl];refine Mr ?_;have hl2:=hsl;rw[hl]at hl2;simp at hl2;simp only[dg,dh,List.extract_eq_take_drop,hl];rw[List.drop_succ_cons,List.drop_zero,List.take_of_length_le (by omega)]
   refine AN func177 ntmps177 results177 Ty.Rd ?_;refine wt A2 ?_;refine uU b1 (Rp (s:=s)) ?_;(repeat'(first|refine cK ?_|(refine nK ?_;try exact zI)|refine AI λK hK=>?_|((first|refine Bp ?_|refine Ea ?_);simp only[Ty.w,simprocAttr,b1,h1,Pt,q1,Bm,CO,Jr,Pu])|(refine hK _ _ ?_;clear hK;(try simp only[B2,simprocAttr]))));rw[this]
 refine AN func165 ntmps165 results165 Ty.Ya ?_;refine wt A2 ?_;refine uU A2 (hy) ?_;exact wz A2
theorem OS{h:A0}{s:ByteArray}(hs:s.size<=AE):AA prog 143 [A1 s] h λr h'=>r= .sc (.bool (Gi s))/\h'=h:=by
 have htl:(Cp s).data.toList.length=(Cp s).size:=by rw[DE];try rfl
 have hts:(Cp s).size<=AE:=by
  have hsl:s.data.toList.length=s.size:=by rw[DE];try rfl
  unfold Cp;split
  ·rename_i l heq;rw[heq]at hsl;have:(ByteArray.mk l.toArray).size=l.length:=(by simp[ByteArray.size]);simp at hsl;omega
  ·exact hs
 unfold AE at hts;have hN:Gi s=((Cp s).data.toList.all CQ&&decide (0<(Cp s).size)):=rfl;have ht:AA prog 165 [A1 s,A1 ⟨#[45]⟩] h λr h'=>r=A1 (Cp s)/\h'=h:=Ys;generalize Cp s=u at htl hts hN ht;rw[hN]
 clear hN;refine AN func143 ntmps143 results143 Ty.YW ?_;refine wt A2 ?_;refine uU A2 (ht) ?_;refine wt A2 ?_;refine BV (λm S h'=>h'=h/\S 0=A1 u/\S 7= .sc (.int .i64 u.size)/\ ∃ k:Nat,S 8= .sc (.int .i64 k)/\k<=u.size/\m=u.size-k/\ ∀ (i:Nat)(c:UInt8),i<k->u.data.toList[i]? =some c->CQ c=true) u.size ?_ ?_
 ·simp only[Ty.w,simprocAttr];exact⟨0,rfl,by omega,rfl,by omega⟩
 ·rintro m S h' ⟨rfl,g0,g7,k,g8,hk,rfl,hall⟩;by_cases hlt:k<u.size
  ·have hd:decide ((k:Int)<(u.size:Int))=true:=(by simp;omega);have w7:IntKind.i64.wrap ((k:Int)+1)=k+1:=(by rw[B9 (by omega) (by omega)]);obtain⟨c,hx⟩: ∃ c,u.data.toList[k]? =some c:=⟨_,List.getElem?_eq_getElem (by omega)⟩;have hr:u[k]? =some c:=(by rw[HI];exact hx);cases hg:CQ c with
   |false=>
    have:u.data.toList.all CQ=false:=(by rw[List.all_eq_false];exact⟨c,List.mem_of_getElem? hx,by simp[hg]⟩);replace zz:=AV g0 g7 g8 hd hr;refine wt zz ?_;replace zz:=AK g0 g7 g8 hd hr hg;refine uU zz (Gj (c:=c)) ?_;refine wt (uu hg yF) ?_;rw[this];try rfl
   |true=>
    replace zz:=AV g0 g7 g8 hd hr;refine wt zz ?_;replace zz:=AK g0 g7 g8 hd hr hg;refine uU zz (Gj (c:=c)) ?_;replace zz:=AK g0 g7 g8 hg w7 yT;refine wt zz ?_;refine⟨u.size-(k+1),by omega,k+1,by simp,by omega,rfl,λi c2 hi hw=>?_⟩;by_cases hik:i=k
    ·subst hik;rw[hx]at hw;simp at hw;rw[← hw];exact hg
    ·exact hall i c2 (by omega) hw
  ·have hd:decide ((k:Int)<(u.size:Int))=false:=(by simp;omega);have hok:u.data.toList.all CQ=true:=by
    rw[List.all_eq_true];intro c hc;obtain⟨i,hi⟩:=List.getElem?_of_mem hc;exact hall i c (by have:=(List.getElem?_eq_some_iff.1 hi).1;omega) hi
   have e1:decide (0<u.size)=!(u.data.toList==(#[]:Array UInt8).toList):=by
    rw[← htl];cases u.data.toList<;>simp
   clear hall;replace zz:=AS g0 g7 g8 hd;refine wt zz ?_;rw[hok,e1];try rfl
end Go.Proofs.YtblgchkahpgdjaaGreat
namespace Go.Proofs.YtblgchkahpgdjaaGreat
open Go.AM Go.Proofs.Tryz
set_option maxHeartbeats 2000000
set_option maxRecDepth 20000
theorem Yt{l:List UInt8}{k:Nat}{c:UInt8}(h:l[k]? =some c)(hc:Dn c=none):E6 l=none:=by
 induction l generalizing k with
 |nil=>simp at h
 |cons d l ih=>
  simp only[E6];cases k with
  |zero=>simp at h;subst h;rw[hc]
  |succ k=>
   simp at h;rw[ih h];cases Dn d<;>simp
theorem Rq{l p:List UInt8}{k:Nat}{c d:UInt8}(h:l[k]? =some c)(hc:Dn c=some d)(hp:E6 (l.take k)=some p):E6 (l.take (k+1))=some (p++[d]):=by
 induction l generalizing k p with
 |nil=>simp at h
 |cons e l ih=>
  cases k with
  |zero=>simp at h;subst h;simp[E6]at hp;subst hp;simp[E6,hc]
  |succ k=>
   simp at h;simp only[List.take_succ_cons,E6]at hp⊢;cases he:Dn e with
   |none=>simp[he]at hp
   |some e'=>
    rw[he]at hp;cases hq:E6 (l.take k)with
    |none=>simp[hq]at hp
    |some p'=>
     simp[hq]at hp;subst hp;rw[ih h hq];simp
theorem Ms{l p:List UInt8}(h:E6 l=some p):p.length=l.length:=by
 induction l generalizing p with
 |nil=>simp[E6]at h;subst h;rfl
 |cons e l ih=>
  simp only[E6]at h;split at h
  ·cases hq:E6 l with
   |none=>simp[hq]at h
   |some p'=>simp[hq]at h;subst h;simp[ih hq]
  ·simp at h
theorem Rr(l:List UInt8):(DG l).length=l.length:=by simp[DG]
theorem Yu{l:List UInt8}{k:Nat}{c:UInt8}(h:l[k]? =some c):(DG l)[k]? =some [.sc (.int .u8 c.toNat)]:=by simp[DG,h]
theorem Yv(l:List UInt8)(k:Nat)(c:UInt8):(DG l).set k [.sc (.int .u8 c.toNat)]=DG (l.set k c):=by simp[DG,List.map_set]
structure JP(h:A0)(l:List UInt8)(k:Nat)(h':A0):Prop where
 grow:AL h h'
 ex: ∃ p,E6 (l.take k)=some p/\h'.obj h.next=some (.arr 1 (DG (p++l.drop k)))
theorem JP.keep{h h':A0}{l:List UInt8}{k:Nat}{c:UInt8}(i:JP h l k h')(hc:l[k]? =some c)(hl:Dn c=some c):JP h l (k+1) h':=by
 obtain⟨p,hp,ho⟩:=i.ex;refine⟨i.grow,p++[c],Rq hc hl hp,?_⟩;rw[ho];obtain⟨hk,rfl⟩:=List.getElem?_eq_some_iff.1 hc;rw[List.drop_eq_getElem_cons hk];simp
theorem JP.put{h h':A0}{l:List UInt8}{k:Nat}{c d:UInt8}{rows:List (List PV)}(i:JP h l k h')(hc:l[k]? =some c)(hl:Dn c=some d)(hr:h'.obj h.next=some (.arr 1 rows)):
  JP h l (k+1) (h'.set h.next (.arr 1 (rows.set k [.sc (.int .u8 d.toNat)]))):=by
 obtain⟨p,hp,ho⟩:=i.ex;refine⟨i.grow.set (AF _) _,p++[d],Rq hc hl hp,?_⟩;rw[ho]at hr;simp at hr;subst hr;have hpl:=Ms hp;obtain⟨hk,rfl⟩:=List.getElem?_eq_some_iff.1 hc;simp only[A0.set,AC,Yv];rw[List.length_take]at hpl;rw[List.set_append_right _ _ (by omega),List.drop_eq_getElem_cons hk,show k-p.length=0 by omega,List.set_cons_zero];simp
theorem Rs(x:Int)(h0:0<=x)(h1:x<256):IntKind.u8.wrap x=x:=by
 unfold IntKind.wrap;simp[IntKind.signed,IntKind.bits];omega
theorem Yw(c:UInt8):
  (HJ c=false/\CM c=false/\decide ((c.toNat:Int)>=65)=false/\decide ((c.toNat:Int)>=97)=false)\/
  (HJ c=true/\decide ((c.toNat:Int)>=65)=true/\decide ((c.toNat:Int)<=90)=true)\/
  (HJ c=false/\CM c=false/\decide ((c.toNat:Int)>=65)=true/\decide ((c.toNat:Int)<=90)=false/\decide ((c.toNat:Int)>=97)=false)\/
  (HJ c=false/\CM c=true/\decide ((c.toNat:Int)>=65)=true/\decide ((c.toNat:Int)<=90)=false/\decide ((c.toNat:Int)>=97)=true/\decide ((c.toNat:Int)<=122)=true)\/
  (HJ c=false/\CM c=false/\decide ((c.toNat:Int)>=65)=true/\decide ((c.toNat:Int)<=90)=false/\decide ((c.toNat:Int)>=97)=true/\decide ((c.toNat:Int)<=122)=false):=by
 simp only[HJ,CM,AT,Ps,BQ,CE];omega
theorem Yx{h:A0}{s:ByteArray}:AA prog 142 [A1 s] h λr h'=>r= .tup [A1 (EL s).1,.sc (.bool (EL s).2)]/\h'=h:=by
 have hsl:s.data.toList.length=s.size:=by rw[DE];try rfl
 refine AA.quiet2 Ty.Mj ?_;cases b1:(s.data.toList==(#[]:Array UInt8).toList)with
 |true=>
  have:EL s=(⟨#[]⟩,false):=by
   unfold EL;rw[A4];have:s.data.toList=[]:=(by simpa using b1);rw[this]at hsl;simp at hsl;omega
  refine AN func142 ntmps142 results142 Ty.Mj ?_;refine wt b1 ?_;rw[this];exact⟨rfl,AL.refl _⟩
 |false=>
  have hpos:0<s.size:=by
   rcases Nat.eq_zero_or_pos s.size with h0|h0
   ·rw [h0]at hsl;have:=List.eq_nil_of_length_eq_zero hsl;rw[this]at b1;simp at b1
   ·exact h0
  cases b2:decide ((s.size:Int)>32)with
  |true=>
   have:EL s=(⟨#[]⟩,false):=by
    unfold EL;rw[A4];simp at b2;omega
   refine AN func142 ntmps142 results142 Ty.Mj ?_;refine wt (uu b1 b2) ?_;rw[this];exact⟨rfl,AL.refl _⟩
  |false=>
   have h32:s.size<=32:=(by simp at b2;omega);have hsz:s.size<=140737488355328:=(by omega);have hS:EL s=(match E6 s.data.toList with|some l=>(⟨l.toArray⟩,true)|none=>(⟨#[]⟩,false)):=(by unfold EL;rw[AH ⟨hpos,h32⟩];try rfl);refine uG (ow:=λt=>t==15) (wf:=λ_=>false) func142 ntmps142 results142 Ty.Mj ?_;refine wt (Aj b1 b2 hsz) ?_;refine BV (λm S h'=>S 4= .own h.next 0 s.data.toList.length/\S 16= .own h.next 0 s.data.toList.length/\S 17= .sc (.int .i64 s.data.toList.length)/\ ∃ k:Nat,S 18= .sc (.int .i64 k)/\k<=s.data.toList.length/\m=s.data.toList.length-k/\JP h s.data.toList k h') s.data.toList.length ?_ ?_
   ·simp only[Ty.w,simprocAttr];refine⟨0,rfl,by omega,rfl,(AL.refl h).new _,[],rfl,?_⟩;simp[A0.new]
   ·rintro m S h' ⟨g4,g16,g17,k,g18,hk,rfl,hI⟩;by_cases hlt:k<s.data.toList.length
    ·have hd:decide ((k:Int)<(s.data.toList.length:Int))=true:=(by simp;omega);have w7:IntKind.i64.wrap ((k:Int)+1)=k+1:=(by rw[B9 (by omega) (by omega)]);obtain⟨c,hx⟩: ∃ c,s.data.toList[k]? =some c:=⟨_,List.getElem?_eq_getElem hlt⟩;obtain⟨p,hp,ho⟩:=hI.ex;have hpl:=Ms hp;rw[List.length_take]at hpl;have hgr:=hI.grow;have hlen:(DG (p++s.data.toList.drop k)).length=s.data.toList.length:=(by rw[Rr,List.length_append,List.length_drop];omega);have hr:(DG (p++s.data.toList.drop k))[k]? =some [.sc (.int .u8 c.toNat)]:=by
      refine Yu ?_;rw[List.getElem?_append_right (by omega),List.getElem?_drop,show k+(k-p.length)=k by omega];exact hx
     have bad:Dn c=none->PV.tup [.sc (.string ⟨#[]⟩),.sc (.bool false)]= .tup [A1 (EL s).1,.sc (.bool (EL s).2)]:=λe=>(by rw[hS,Yt hx e]);generalize hrows:DG (p++s.data.toList.drop k)=rows at ho hlen hr;have hho:=ho;rcases Yw c with⟨hup,hlet,a1,a3⟩|⟨hup,a1,a2⟩|⟨hup,hlet,a1,a2,a3⟩|⟨hup,hlet,a1,a2,a3,a4⟩|⟨hup,hlet,a1,a2,a3,a4⟩
     ·cases hg:CQ c with
      |true=>
       have hw:wB c=true:=(by simp[wB,hg]);replace zz:=AJ g4 g16 g17 g18 hd hho hlen hr hlt @Bb a1 a3;refine wt zz ?_;replace zz:=AJ g4 g16 g17 g18 hd hho hlen hr hlt @Bb a1 (uu a3 hg);refine uU zz (Gj (c:=c)) ?_;replace zz:=AJ g4 g16 g17 g18 hd hho hlen hr hlt @Bb a1 (Aj a3 hg w7);refine wt zz ?_;exact⟨s.data.toList.length-(k+1),by omega,k+1,by simp,by omega,rfl,hI.keep hx (by simp[Dn,hup,hw])⟩
      |false=>
       cases hs2:JN.contains c with
       |true=>
        have hw:wB c=true:=(by simp only[wB,hs2,Bh]);have hfi:decide (firstIdx ⟨#[45,95,63,58,60,62,61,43,42]⟩ c>=0)=true:=(by rw[K9];exact hs2);replace zz:=AJ g4 g16 g17 g18 hd hho hlen hr hlt @Bb a1 a3;refine wt zz ?_;replace zz:=AJ g4 g16 g17 g18 hd hho hlen hr hlt @Bb a1 (uu a3 hg);refine uU zz (Gj (c:=c)) ?_;refine wt zz ?_;replace zz:=AJ g4 g16 g17 g18 hd hho hlen hr hlt @Bb a1 (Aj a3 hg hfi);refine uU zz (KA (s:=⟨#[45,95,63,58,60,62,61,43,42]⟩) (c:=c)) ?_;replace zz:=AJ g4 g16 g17 g18 hd hho hlen hr hlt @Bb a1 (AS a3 hg hfi w7);refine wt zz ?_;exact⟨s.data.toList.length-(k+1),by omega,k+1,by simp,by omega,rfl,hI.keep hx (by simp[Dn,hup,hw])⟩
       |false=>
        have hw:wB c=false:=(by simp only[wB,hs2,hg,hlet,E1]);have hfi:decide (firstIdx ⟨#[45,95,63,58,60,62,61,43,42]⟩ c>=0)=false:=(by rw[K9];exact hs2);replace zz:=AJ g4 g16 g17 g18 hd hho hlen hr hlt @Bb a1 a3;refine wt zz ?_;replace zz:=AJ g4 g16 g17 g18 hd hho hlen hr hlt @Bb a1 (uu a3 hg);refine uU zz (Gj (c:=c)) ?_;refine wt zz ?_;replace zz:=AJ g4 g16 g17 g18 hd hho hlen hr hlt @Bb a1 (Aj a3 hg hfi);refine uU zz (KA (s:=⟨#[45,95,63,58,60,62,61,43,42]⟩) (c:=c)) ?_;refine wt zz ?_;exact⟨bad (by simp[Dn,hup,hw]),hgr⟩
     ·have hu:65<=c.toNat/\c.toNat<=90:=(by simpa[HJ]using hup);have hadd:(c+32).toNat=c.toNat+32:=(by rw[UInt8.toNat_add];simp;omega);have w1:IntKind.u8.wrap ((c.toNat:Int)+97)=(c.toNat:Int)+97:=Rs _ (by omega) (by omega);have w2:IntKind.u8.wrap ((c.toNat:Int)+97-65)=((c+32).toNat:Int):=(by rw[Rs _ (by omega) (by omega),hadd];omega);replace zz:=AJ g4 g16 g17 g18 hd hho hlen hr hlt a1 a2 (AS w1 w2 w7 @Bb);refine wt zz ?_;exact⟨s.data.toList.length-(k+1),by omega,k+1,by simp,by omega,rfl,hI.put hx (by simp[Dn,hup]) ho⟩
     ·cases hg:CQ c with
      |true=>
       have hw:wB c=true:=(by simp[wB,hg]);replace zz:=AJ g4 g16 g17 g18 hd hho hlen hr hlt @Bb a1 (uu a2 a3);refine wt zz ?_;replace zz:=AJ g4 g16 g17 g18 hd hho hlen hr hlt @Bb a1 (Aj a2 a3 hg);refine uU zz (Gj (c:=c)) ?_;replace zz:=AJ g4 g16 g17 g18 hd hho hlen hr hlt @Bb a1 (AS a2 a3 hg w7);refine wt zz ?_;exact⟨s.data.toList.length-(k+1),by omega,k+1,by simp,by omega,rfl,hI.keep hx (by simp[Dn,hup,hw])⟩
      |false=>
       cases hs2:JN.contains c with
       |true=>
        have hw:wB c=true:=(by simp only[wB,hs2,Bh]);have hfi:decide (firstIdx ⟨#[45,95,63,58,60,62,61,43,42]⟩ c>=0)=true:=(by rw[K9];exact hs2);replace zz:=AJ g4 g16 g17 g18 hd hho hlen hr hlt @Bb a1 (uu a2 a3);refine wt zz ?_;replace zz:=AJ g4 g16 g17 g18 hd hho hlen hr hlt @Bb a1 (Aj a2 a3 hg);refine uU zz (Gj (c:=c)) ?_;refine wt zz ?_;replace zz:=AJ g4 g16 g17 g18 hd hho hlen hr hlt @Bb a1 (AS a2 a3 hg hfi);refine uU zz (KA (s:=⟨#[45,95,63,58,60,62,61,43,42]⟩) (c:=c)) ?_;replace zz:=AJ g4 g16 g17 g18 hd hho hlen hr hlt @Bb a1 (AV a2 a3 hg hfi w7);refine wt zz ?_;exact⟨s.data.toList.length-(k+1),by omega,k+1,by simp,by omega,rfl,hI.keep hx (by simp[Dn,hup,hw])⟩
       |false=>
        have hw:wB c=false:=(by simp only[wB,hs2,hg,hlet,E1]);have hfi:decide (firstIdx ⟨#[45,95,63,58,60,62,61,43,42]⟩ c>=0)=false:=(by rw[K9];exact hs2);replace zz:=AJ g4 g16 g17 g18 hd hho hlen hr hlt @Bb a1 (uu a2 a3);refine wt zz ?_;replace zz:=AJ g4 g16 g17 g18 hd hho hlen hr hlt @Bb a1 (Aj a2 a3 hg);refine uU zz (Gj (c:=c)) ?_;refine wt zz ?_;replace zz:=AJ g4 g16 g17 g18 hd hho hlen hr hlt @Bb a1 (AS a2 a3 hg hfi);refine uU zz (KA (s:=⟨#[45,95,63,58,60,62,61,43,42]⟩) (c:=c)) ?_;refine wt zz ?_;exact⟨bad (by simp[Dn,hup,hw]),hgr⟩
     ·replace zz:=AJ g4 g16 g17 g18 hd hho hlen hr hlt a1 a2 (AS a3 a4 w7 @Bb);refine wt zz ?_;exact⟨s.data.toList.length-(k+1),by omega,k+1,by simp,by omega,rfl,hI.keep hx (by simp[Dn,hup,wB,hlet])⟩
     ·cases hg:CQ c with
      |true=>
       have hw:wB c=true:=(by simp[wB,hg]);replace zz:=AJ g4 g16 g17 g18 hd hho hlen hr hlt @Bb a1 (Aj a2 a3 a4);refine wt zz ?_;replace zz:=AJ g4 g16 g17 g18 hd hho hlen hr hlt @Bb a1 (AS a2 a3 a4 hg);refine uU zz (Gj (c:=c)) ?_;replace zz:=AJ g4 g16 g17 g18 hd hho hlen hr hlt @Bb a1 (AV a2 a3 a4 hg w7);refine wt zz ?_;exact⟨s.data.toList.length-(k+1),by omega,k+1,by simp,by omega,rfl,hI.keep hx (by simp[Dn,hup,hw])⟩
      |false=>
       cases hs2:JN.contains c with
       |true=>
        have hw:wB c=true:=(by simp only[wB,hs2,Bh]);have hfi:decide (firstIdx ⟨#[45,95,63,58,60,62,61,43,42]⟩ c>=0)=true:=(by rw[K9];exact hs2);replace zz:=AJ g4 g16 g17 g18 hd hho hlen hr hlt @Bb a1 (Aj a2 a3 a4);refine wt zz ?_;replace zz:=AJ g4 g16 g17 g18 hd hho hlen hr hlt @Bb a1 (AS a2 a3 a4 hg);refine uU zz (Gj (c:=c)) ?_;refine wt zz ?_;replace zz:=AJ g4 g16 g17 g18 hd hho hlen hr hlt @Bb a1 (AV a2 a3 a4 hg hfi);refine uU zz (KA (s:=⟨#[45,95,63,58,60,62,61,43,42]⟩) (c:=c)) ?_;replace zz:=AJ g4 g16 g17 g18 hd hho hlen hr hlt @Bb a1 (AK a2 a3 a4 hg hfi w7);refine wt zz ?_;exact⟨s.data.toList.length-(k+1),by omega,k+1,by simp,by omega,rfl,hI.keep hx (by simp[Dn,hup,hw])⟩
       |false=>
        have hw:wB c=false:=(by simp only[wB,hs2,hg,hlet,E1]);have hfi:decide (firstIdx ⟨#[45,95,63,58,60,62,61,43,42]⟩ c>=0)=false:=(by rw[K9];exact hs2);replace zz:=AJ g4 g16 g17 g18 hd hho hlen hr hlt @Bb a1 (Aj a2 a3 a4);refine wt zz ?_;replace zz:=AJ g4 g16 g17 g18 hd hho hlen hr hlt @Bb a1 (AS a2 a3 a4 hg);refine uU zz (Gj (c:=c)) ?_;refine wt zz ?_;replace zz:=AJ g4 g16 g17 g18 hd hho hlen hr hlt @Bb a1 (AV a2 a3 a4 hg hfi);refine uU zz (KA (s:=⟨#[45,95,63,58,60,62,61,43,42]⟩) (c:=c)) ?_;refine wt zz ?_;exact⟨bad (by simp[Dn,hup,hw]),hgr⟩
    ·have hd:decide ((k:Int)<(s.data.toList.length:Int))=false:=(by simp;omega);have hke:k=s.data.toList.length:=(by omega);subst hke;obtain⟨p,hp,ho⟩:=hI.ex;rw[List.take_length]at hp;rw[List.drop_length,List.append_nil]at ho;have hpl:=Ms hp;have hlen:(DG p).length=s.data.toList.length:=(by rw[Rr];exact hpl);have htk:List.take s.data.toList.length (DG p)=DG p:=(by rw[List.take_of_length_le (by omega)]);have hbr:=UA p;replace zz:=Aq g4 g16 g17 g18 hd ho hlen htk hbr @Bb;(repeat'(first|refine cK ?_|refine nK ?_|refine AI λK hK=>?_|refine uR zz ?_|refine uT zz ?_|refine uX ?_|refine Aw zz ?_|(refine uN hK ?_;clear hK)|(clear hK;refine uN hK ?_;clear hK)|(rw[AH];rotate_left 1;omega;simp only[Ty.w,simprocAttr,g4,g16,g17,g18,hd,ho,hlen,htk,hbr,Bb])|apply zI));rw[hS,hp];exact⟨rfl,hI.grow⟩
end Go.Proofs.YtblgchkahpgdjaaGreat
namespace Go.Proofs.YtblgchkahpgdjaaGreat
open Go.AM Go.Proofs.Tryz
set_option maxHeartbeats 2000000
set_option maxRecDepth 20000
theorem CR{α:Type}{l:List α}{k:Nat}{a:α}(h:l[k]? =some a):l.drop k=a::l.drop (k+1):=by
 obtain⟨hl,rfl⟩:=List.getElem?_eq_some_iff.1 h;exact List.drop_eq_getElem_cons hl
theorem OT: ∀ {l m:List ByteArray},¬ l.length=m.length->DR l m=false
 |[],[],h=>by simp at h
 |[],_::_,_=>rfl
 |_::_,[],_=>rfl
 |a::l,b::m,h=>by simp only[DR,OT (l:=l) (m:=m) (by simpa using h),B5]
theorem Rt: ∀ {l m:List Pm},¬ l.length=m.length->E5 l m=false
 |[],[],h=>by simp at h
 |[],_::_,_=>rfl
 |_::_,[],_=>rfl
 |a::l,b::m,h=>by simp only[E5,Rt (l:=l) (m:=m) (by simpa using h),B5]
theorem Mt{h:A0}{l m:List ByteArray}(hl:l.length<=AE)(hm:m.length<=AE):AA prog 137 [.imm 1 (AP l),.imm 1 (AP m)] h λr h'=>r= .sc (.bool (DR l m))/\h'=h:=by
 unfold AE at hl hm;have hll:=FA l;have hlm:=FA m;refine AN func137 ntmps137 results137 Ty.YV ?_;cases hne:((l.length:Int) !=m.length)with
 |true=>
  have:DR l m=false:=OT (by simp at hne;omega);refine wt (Aj hll hlm hne) ?_;rw[this]
 |false=>
  have hlen:l.length=m.length:=by simp at hne;omega
  refine wt (Aj hll hlm hne) ?_;refine BV (λc S h'=>h'=h/\S 0= .imm 1 (AP l)/\S 1= .imm 1 (AP m)/\S 12= .sc (.int .i64 l.length)/\ ∃ k:Nat,S 13= .sc (.int .i64 k)/\k<=l.length/\c=l.length-k/\DR l m=DR (l.drop k) (m.drop k)) l.length ?_ ?_
  ·simp only[Ty.w,simprocAttr];exact⟨0,rfl,by omega,rfl,by simp⟩
  ·rintro c S h' ⟨rfl,g0,g1,g12,k,gk,hkl,rfl,hinv⟩;by_cases hlt:k<l.length
   ·have hd:decide ((k:Int)<(l.length:Int))=true:=(by simp;omega);have w7:IntKind.i64.wrap ((k:Int)+1)=k+1:=(by rw[B9 (by omega) (by omega)]);obtain⟨a,hx⟩: ∃ a,l[k]? =some a:=⟨_,List.getElem?_eq_getElem hlt⟩;obtain⟨b,hy⟩: ∃ b,m[k]? =some b:=⟨_,List.getElem?_eq_getElem (by omega)⟩;rw[CR hx,CR hy]at hinv;simp only[DR]at hinv;have hr:=Gh hx;have hr2:=Gh hy;cases he:(a.data.toList==b.data.toList)with
    |false=>
     simp only[A3,he,Ai]at hinv;replace zz:=AJ g0 g1 g12 gk hll hlm hd hr hr2 he w7 yF;refine wy zz ?_;rw[hinv]
    |true=>
     simp only[A3,he,Ah]at hinv;replace zz:=AJ g0 g1 g12 gk hll hlm hd hr hr2 he w7 yT;refine wy zz ?_;exact⟨l.length-(k+1),by omega,k+1,by simp,by omega,rfl,hinv⟩
   ·have hd:decide ((k:Int)<(l.length:Int))=false:=(by simp;omega);rw[List.drop_eq_nil_of_le (by omega),List.drop_eq_nil_of_le (by omega)]at hinv;simp only[DR]at hinv;replace zz:=AK g0 g1 g12 gk hll hd;refine wt zz ?_;rw[hinv]
theorem OU{h:A0}{l m:List ByteArray}(hl:l.length<=AE)(hm:m.length<=AE):AA prog 115 [.imm 1 (AP l),.imm 1 (AP m)] h λr h'=>r= .sc (.bool (DR l m))/\h'=h:=by
 unfold AE at hl hm;have hll:=FA l;have hlm:=FA m;refine AN func115 ntmps115 results115 Ty.YP ?_;cases hne:((l.length:Int) !=m.length)with
 |true=>
  have:DR l m=false:=OT (by simp at hne;omega);refine wt (Aj hll hlm hne) ?_;rw[this]
 |false=>
  have hlen:l.length=m.length:=by simp at hne;omega
  refine wt (Aj hll hlm hne) ?_;refine BV (λc S h'=>h'=h/\S 0= .imm 1 (AP l)/\S 1= .imm 1 (AP m)/\ ∃ k:Nat,S 5= .sc (.int .i64 k)/\k<=l.length/\c=l.length-k/\DR l m=DR (l.drop k) (m.drop k)) l.length ?_ ?_
  ·simp only[Ty.w,simprocAttr];exact⟨0,rfl,by omega,rfl,by simp⟩
  ·rintro c S h' ⟨rfl,g0,g1,k,gk,hkl,rfl,hinv⟩;by_cases hlt:k<l.length
   ·have hd:decide ((k:Int)<(l.length:Int))=true:=(by simp;omega);have w7:IntKind.i64.wrap ((k:Int)+1)=k+1:=(by rw[B9 (by omega) (by omega)]);obtain⟨a,hx⟩: ∃ a,l[k]? =some a:=⟨_,List.getElem?_eq_getElem hlt⟩;obtain⟨b,hy⟩: ∃ b,m[k]? =some b:=⟨_,List.getElem?_eq_getElem (by omega)⟩;rw[CR hx,CR hy]at hinv;simp only[DR]at hinv;have hr:=Gh hx;have hr2:=Gh hy;cases he:(a.data.toList==b.data.toList)with
    |false=>
     simp only[A3,he,Ai]at hinv;replace zz:=Cv g0 g1 gk hll hlm hd hr hr2 he w7 yF;refine wy zz ?_;rw[hinv]
    |true=>
     simp only[A3,he,Ah]at hinv;replace zz:=Cv g0 g1 gk hll hlm hd hr hr2 he w7 yT;refine wy zz ?_;exact⟨l.length-(k+1),by omega,k+1,by simp,by omega,rfl,hinv⟩
   ·have hd:decide ((k:Int)<(l.length:Int))=false:=(by simp;omega);rw[List.drop_eq_nil_of_le (by omega),List.drop_eq_nil_of_le (by omega)]at hinv;simp only[DR]at hinv;replace zz:=AV g0 g1 gk hll hd;refine wt zz ?_;rw[hinv]
theorem Ru{h:A0}{l m:List Pm}(hl:l.length<=AE)(hm:m.length<=AE):AA prog 69 [.imm 2 (A7 l),.imm 2 (A7 m)] h λr h'=>r= .sc (.bool (E5 l m))/\h'=h:=by
 unfold AE at hl hm;have hll:=EX l;have hlm:=EX m;refine AN func69 ntmps69 results69 Ty.YJ ?_;cases hne:((l.length:Int) !=m.length)with
 |true=>
  have:E5 l m=false:=Rt (by simp at hne;omega);refine wt (Aj hll hlm hne) ?_;rw[this]
 |false=>
  have hlen:l.length=m.length:=by simp at hne;omega
  refine wt (Aj hll hlm hne) ?_;refine BV (λc S h'=>h'=h/\S 0= .imm 2 (A7 l)/\S 1= .imm 2 (A7 m)/\S 12= .sc (.int .i64 l.length)/\ ∃ k:Nat,S 13= .sc (.int .i64 k)/\k<=l.length/\c=l.length-k/\E5 l m=E5 (l.drop k) (m.drop k)) l.length ?_ ?_
  ·simp only[Ty.w,simprocAttr];exact⟨0,rfl,by omega,rfl,by simp⟩
  ·rintro c S h' ⟨rfl,g0,g1,g12,k,gk,hkl,rfl,hinv⟩;by_cases hlt:k<l.length
   ·have hd:decide ((k:Int)<(l.length:Int))=true:=(by simp;omega);have w7:IntKind.i64.wrap ((k:Int)+1)=k+1:=(by rw[B9 (by omega) (by omega)]);obtain⟨a,hx⟩: ∃ a,l[k]? =some a:=⟨_,List.getElem?_eq_getElem hlt⟩;obtain⟨b,hy⟩: ∃ b,m[k]? =some b:=⟨_,List.getElem?_eq_getElem (by omega)⟩;rw[CR hx,CR hy]at hinv;simp only[E5]at hinv;have hr:=Hu hx;have hr2:=Hu hy;cases he:Qy a b with
    |false=>
     have he':(a.name.data.toList==b.name.data.toList&&a.type.data.toList==b.type.data.toList)=false:=he;rw[he,Ai]at hinv;replace zz:=AJ g0 g1 g12 gk hll hlm hd hr hr2 he' w7 yF;refine wy zz ?_;rw[hinv]
    |true=>
     have he':(a.name.data.toList==b.name.data.toList&&a.type.data.toList==b.type.data.toList)=true:=he;rw[he,Ah]at hinv;replace zz:=AJ g0 g1 g12 gk hll hlm hd hr hr2 he' w7 yT;refine wy zz ?_;exact⟨l.length-(k+1),by omega,k+1,by simp,by omega,rfl,hinv⟩
   ·have hd:decide ((k:Int)<(l.length:Int))=false:=(by simp;omega);rw[List.drop_eq_nil_of_le (by omega),List.drop_eq_nil_of_le (by omega)]at hinv;simp only[E5]at hinv;replace zz:=AK g0 g1 g12 gk hll hd;refine wt zz ?_;rw[hinv]
end Go.Proofs.YtblgchkahpgdjaaGreat
namespace Go.AM
def Tl(h:A0)(id0 z:Nat)(p:PV)(rows:List (List PV)):Prop:=
 (rows=[]/\(p= .sc (.slice none 0 0)\/p= .emp))\/ ∃ id,id0<=id/\id<h.next/\p= .own id 0 rows.length/\h.obj id=some (.arr z rows)
variable {h:A0}{id0 z:Nat}{p:PV}{rows:List (List PV)}
theorem Tl.nil:Tl h id0 z (.sc (.slice none 0 0)) []:= .inl ⟨rfl,.inl rfl⟩
theorem Tl.emp:Tl h id0 z .emp []:= .inl ⟨rfl,.inr rfl⟩
theorem Tl.sl(t:Tl h id0 z p rows):Sl h z p rows:=by
 rcases t with⟨rfl,rfl|rfl⟩|⟨id,_,_,rfl,ho⟩
 ·exact Sl.nil
 ·exact Sl.emp
 ·exact Sl.own0 ho
theorem Tl.tail(t:Tl h id0 z p rows): ∃ H,Db h p=some (H,rows)/\CP h z p=true/\H.next=h.next/\(∀ j,j<id0->H.obj j=h.obj j)/\(∀ h0,EI h0 h->h0.next<=id0->EI h0 H):=by
 rcases t with⟨rfl,rfl|rfl⟩|⟨id,h1,h2,rfl,ho⟩
 ·exact ⟨h,rfl,rfl,rfl,λ_ _=>rfl,λ_ hk _=>hk⟩
 ·exact ⟨h,rfl,rfl,rfl,λ_ _=>rfl,λ_ hk _=>hk⟩
 ·refine ⟨h.kill id,by simp[Db,ho],by simp[CP,ho],rfl,λj hj=>?_,λh0 hk hn=>Xc (by omega) hk⟩;rw[L7,A4 (by omega)]
theorem Tl.grow{H:A0}{len:Nat}(hn:id0<=H.next)(hl:len=rows.length):Tl (H.new (.arr z rows)) id0 z (.own H.next 0 len) rows:=
 .inr ⟨H.next,hn,Pv _,by rw[hl],by rw[Kz,AH rfl]⟩
theorem Tl.up{h':A0}(t:Tl h id0 z p rows)(hn:h.next<=h'.next)(ho: ∀ j,id0<=j->j<h.next->h'.obj j=h.obj j):Tl h' id0 z p rows:=by
 rcases t with ht|⟨id,h1,h2,rfl,h3⟩
 ·exact .inl ht
 ·exact .inr ⟨id,h1,by omega,rfl,by rw[ho id h1 h2];exact h3⟩
theorem Rv{n:Nat}:(l:List PV)->(∀ p∈l, ∃ v,p= .sc v)->B4 n h l l
 |[],_=>by simp only[B4]
 |p::l,hp=>by
  obtain⟨v,hv⟩:=hp p (by simp);simp only[B4];exact⟨by rw[hv];simp only[AZ],Rv l (λq hq=>hp q (by simp[hq]))⟩
theorem Rw{n:Nat}:(l:List (List PV))->(∀ r∈l, ∀ p∈r, ∃ v,p= .sc v)->D5 n h l l
 |[],_=>by simp only[D5]
 |r::l,hp=>by
  simp only[D5];exact⟨Rv r (hp r (by simp)),Rw l (λq hq=>hp q (by simp[hq]))⟩
theorem Tl.frz(t:Tl h id0 z p rows)(hs: ∀ r∈rows, ∀ p∈r, ∃ v,p= .sc v):AZ id0 h (.imm z rows) p:=by
 simp only[AZ];rcases t with⟨h1,h2⟩|⟨id,h1,h2,rfl,ho⟩
 ·exact .inr (.inl ⟨h1,h2.symm⟩)
 ·refine .inr (.inr ⟨id,0,_,_,rfl,h1,ho,by omega,?_⟩);rw[List.drop_zero,List.take_of_length_le (by omega)];exact Rw _ hs
theorem CV{P:Program}{ow:Nat->Bool}{n:Nat}{s:A8}{f:FuncId}{dst:Option Tmp}{args:List Operand}{ts:Array TypeId}{ty:TypeId}{pos:String}{af:Array Edge}{gd:Option (Nat × Bool)}{ags:List PV}{v:PV}{h1:A0}{K:A8->A0->Prop}{ops rest:List Oper}
  (hc:AA P f ags h λr h'=>r=v/\h'=h1)(ha:args.map (A6 s)=ags)(hk:D4 P ow n ops rest K (AW s dst v) h1):
  Bu P ow {dst:=dst,op:= .call {callee:= .value (.func f),args:=args.toArray,argTypes:=ts},type:=ty,pos:=pos,after:=af,guard:=gd} (DH P ow n ops rest K) s h:=
 Qv hc ha λr h' hr=>by rw[hr.1,hr.2];exact hk
end Go.AM
namespace Go.Proofs.YtblgchkahpgdjaaGreat
open Go.AM Go.Proofs.Tryz
set_option maxHeartbeats 2000000
set_option maxRecDepth 20000
structure Bq(h:A0)(id:Nat)(o:Ae)(h':A0):Prop where
 le:h.next<=h'.next
 old: ∀ i,i<h.next->i≠id->h'.obj i=h.obj i
 at_:h'.obj id=some o
theorem Bq.new{h h':A0}{id:Nat}{o o2:Ae}(g:Bq h id o h')(hid:id<h.next):Bq h id o (h'.new o2):=
 ⟨ES g.le (by simp[A0.new]),λi hi hne=>by simp only[A0.new];rw[A4 (by have:=g.le;omega)];exact g.old i hi hne,by simp only[A0.new];rw[A4 (by have:=g.le;omega)];exact g.at_⟩
theorem Bq.set{h h':A0}{id j:Nat}{o o2:Ae}(g:Bq h id o h')(hid:id<h.next)(hj:h.next<=j):Bq h id o (h'.set j o2):=
 ⟨g.le,λi hi hne=>by simp only[A0.set];rw[A4 (by omega)];exact g.old i hi hne,by simp only[A0.set];rw[A4 (by omega)];exact g.at_⟩
theorem Bq.put{h h':A0}{id:Nat}{o o2:Ae}(g:Bq h id o h'):Bq h id o2 (h'.set id o2):=
 ⟨g.le,λi hi hne=>by simp only[A0.set];rw[A4 hne];exact g.old i hi hne,by simp[A0.set]⟩
theorem Bq.refl{h:A0}{id:Nat}{o:Ae}(ho:h.obj id=some o):Bq h id o h:=⟨AF _,λ_ _ _=>rfl,ho⟩
theorem AA.quietX{P:Program}{f:FuncId}{args:List PV}{h:A0}{v:Value}{id:Nat}{o o0:Ae}(hb:Af P f=true)(hid:h.obj id=some o0)(hfl:De h.next o)(hc:AA P f args h λr h'=>r= .sc v/\Bq h id o h'):
  AA P f args h λr h'=>r= .sc v/\h'=h.set id o:=by
 refine GN hb λhw=>AA.drop (hc.mono ?_);rintro r h' ⟨rfl,g⟩;refine⟨.sc v,h.set id o,⟨rfl,rfl⟩,by simp only[AZ],AF _,λi oo ho=>?_⟩;have hlt:=hw id (by rw[hid];try rfl);simp only[A0.set]at ho;split at ho
 ·rename_i hi;subst hi;simp at ho;subst ho;exact⟨g.at_,hlt,.inr hfl⟩
 ·rename_i hi;have h1:=hw i (by rw[ho];try rfl);exact⟨by rw[g.old i h1 hi];exact ho,h1,.inl ho⟩
theorem Yy(s:ByteArray):(EL s).1.size<=32:=by
 unfold EL;split
 ·rename_i hc;split
  ·rename_i l hl;have h1:=Ms hl;have hsl:s.data.toList.length=s.size:=(by rw[DE];try rfl);have:(ByteArray.mk l.toArray).size=l.length:=(by simp[ByteArray.size]);simp only[this];omega
  ·simp [ByteArray.size]
 ·simp [ByteArray.size]
mutual
theorem Rx: ∀ (x:Sx)(d n:Nat),(Ci x d n).1=true->(Ci x d n).2<=4096
 | .mk kind value line col text kids,d,n=>by
  unfold Ci;split
  ·simp
  ·rename_i hn;split
   ·intro _;simp only;omega
   ·split
    ·intro _;simp only;omega
    ·split
     ·split
      ·exact Ry kids (d+1) (n+1) (by omega)
      ·simp
     ·simp
theorem Ry: ∀ (l:List Sx)(d n:Nat),n<=4096->(FB l d n).1=true->(FB l d n).2<=4096
 |[],d,n,hn=>by simp[FB,hn]
 |k::ks,d,n,hn=>by
  unfold FB;have h1:=Rx k d n;split
  ·rename_i n' he;rw[he]at h1;exact Ry ks d n' (h1 rfl)
  ·simp
end
theorem JQ(n:Nat):((n+1:Nat):Int)=(n:Int)+1:=by simp
def CD(n:Nat):Ae:= .arr 1 [[.sc (.int .i64 n)]]
theorem Yz: ∀ (x:Sx),x.ok-> ∀ (d n:Nat),d<=32->n<=4096-> ∀ (id:Nat)(h:A0),h.obj id=some (CD n)->
  AA prog 101 [.agg x.cells,.sc (.int .i64 d),.ptr id 0 0] h λr h'=>r= .sc (.bool (Ci x d n).1)/\h'=h.set id (CD (Ci x d n).2):=by
 refine Sx.ind ?_;intro kind value line col text kids ih hok d n hd hn id h ho;simp only[Sx.ok]at hok;obtain⟨_,_,ht,hk,hks⟩:=hok;rw[Sx.oks_iff]at hks;have hlen:=Sx.rows_len kids;have wn:IntKind.i64.wrap ((n:Int)+1)=(n:Int)+1:=by rw[B9 (by omega) (by omega)]
 refine GN Ty.Ek λhwf=>?_;have hid:id<h.next:=hwf id (by rw[ho];try rfl)
 refine AA.quietX Ty.Ek ho (by simp[CD,De,BG,BZ,BD]) ?_;have ho':=ho;simp only[CD]at ho';have G1:Bq h id (CD (n+1)) (h.set id (.arr 1 [[.sc (.int .i64 ((n:Int)+1))]])):=by
  have:=(Bq.refl ho).put (o2:=CD (n+1));simp only[CD,JQ]at this⊢;exact this
 unfold Ci;simp only[Sx.cells];cases b0:decide ((n:Int)+1>4096)with
 |true=>
  rw[AH (by simp at b0;omega)];refine AN func101 ntmps101 results101 Ty.Ek ?_;refine wt (Aj ho' wn b0) ?_;first|exact G1|exact⟨rfl,G1⟩
 |false=>
  rw[A4 (by simp at b0;omega)];cases k1:(kind==1)with
  |true=>
   have hk1:kind=1:=(by simpa using k1);rw[AH hk1];have e1:(kids.isEmpty)=((kids.length:Int)==0):=(by cases kids<;>simp;omega);have hlow:=λh:A0=>Yx (h:=h) (s:=text);have hsz:=Yy text;have hW:Mp text=((EL text).2&&((EL text).1.data.toList==text.data.toList)&&!(Gi (EL text).1)):=rfl;generalize hL:EL text=L at hlow hsz hW;obtain⟨w,ok⟩:=L;simp only at hlow hsz hW;have hwb:w.size<=AE:=(by unfold AE;omega);rw[hW];cases ok with
   |false=>
    refine AN func101 ntmps101 results101 Ty.Ek ?_;replace zz:=AS ho' wn b0 k1;refine wt zz ?_;replace zz:=AS ho' wn b0 k1;refine uU zz (hlow _) ?_;refine wt zz ?_;first|exact G1|exact⟨rfl,G1⟩
   |true=>
    cases c1:(w.data.toList==text.data.toList)with
    |false=>
     refine AN func101 ntmps101 results101 Ty.Ek ?_;replace zz:=AS ho' wn b0 k1;refine wt zz ?_;replace zz:=AS ho' wn b0 k1;refine uU zz (hlow _) ?_;replace zz:=AV ho' wn b0 k1 c1;refine wt zz ?_;first|exact G1|exact⟨rfl,G1⟩
    |true=>
     cases c2:Gi w with
     |true=>
      refine AN func101 ntmps101 results101 Ty.Ek ?_;replace zz:=AS ho' wn b0 k1;refine wt zz ?_;replace zz:=AS ho' wn b0 k1;refine uU zz (hlow _) ?_;replace zz:=AV ho' wn b0 k1 c1;refine wt zz ?_;replace zz:=AY ho' wn b0 k1 c1 c2 yT;refine uU zz (OS (s:=w) hwb) ?_;refine wt zz ?_;first|exact G1|exact⟨rfl,G1⟩
     |false=>
      cases c3:(value==0)with
      |false=>
       have c3':decide (value=0)=false:=(by simpa using c3);refine AN func101 ntmps101 results101 Ty.Ek ?_;replace zz:=AS ho' wn b0 k1;refine wt zz ?_;replace zz:=AS ho' wn b0 k1;refine uU zz (hlow _) ?_;replace zz:=AV ho' wn b0 k1 c1;refine wt zz ?_;replace zz:=BR ho' wn b0 k1 c1 c2 c3 hlen yF;refine uU zz (OS (s:=w) hwb) ?_;replace zz:=B6 ho' wn b0 k1 c1 c2 c3 yF;refine wt zz ?_;first|exact G1|exact⟨by simp only[c3',B5,Ai],G1⟩
      |true=>
       have c3':decide (value=0)=true:=(by simpa using c3);refine AN func101 ntmps101 results101 Ty.Ek ?_;replace zz:=AS ho' wn b0 k1;refine wt zz ?_;replace zz:=AS ho' wn b0 k1;refine uU zz (hlow _) ?_;replace zz:=AV ho' wn b0 k1 c1;refine wt zz ?_;replace zz:=BR ho' wn b0 k1 c1 c2 c3 hlen yF;refine uU zz (OS (s:=w) hwb) ?_;replace zz:=BR ho' wn b0 k1 c1 c2 c3 yF hlen;refine wt zz ?_;exact⟨by simp only[c3',e1,Al,Ah],G1⟩
  |false=>
   have hk1:¬ kind=1:=(by simpa using k1);rw[A4 hk1];cases k2:(kind==2)with
   |true=>
    have hk2:kind=2:=(by simpa using k2);rw[AH hk2];have e1:(kids.isEmpty)=((kids.length:Int)==0):=(by cases kids<;>simp;omega);cases c1:(text.data.toList==(#[]:Array UInt8).toList)with
    |false=>
     refine AN func101 ntmps101 results101 Ty.Ek ?_;replace zz:=AK ho' wn b0 k1 k2 c1;refine wt zz ?_;first|exact⟨by simp only[A3,c1,Ai],G1⟩|(simp only[A3,c1,e1,c2,Ah];exact G1)|exact G1
    |true=>
     cases c2:((kids.length:Int)==0)with
     |false=>
      refine AN func101 ntmps101 results101 Ty.Ek ?_;replace zz:=B6 ho' wn b0 k1 k2 c1 c2 hlen;refine wt zz ?_;first|exact⟨by simp only[A3,c1,e1,c2,B5,Ai],G1⟩|(simp only[A3,c1,e1,c2,Ah];exact G1)|exact G1
     |true=>
      cases c3:decide (value>= -1099511627776)with
      |false=>
       refine AN func101 ntmps101 results101 Ty.Ek ?_;replace zz:=BR ho' wn b0 k1 k2 c1 c2 c3 hlen;refine wt zz ?_;have c3':decide (-1099511627776<=value)=false:=c3;first|exact⟨by simp only[A3,c1,e1,c2,c3',B5,Ai],G1⟩|(simp only[A3,c1,e1,c2,Ah];exact G1)|exact G1
      |true=>
       refine AN func101 ntmps101 results101 Ty.Ek ?_;replace zz:=BR ho' wn b0 k1 k2 c1 c2 c3 hlen;refine wt zz ?_;have c3':decide (-1099511627776<=value)=true:=c3;first|exact⟨by simp only[A3,c1,e1,c2,c3',Ah],G1⟩|(simp only[A3,c1,e1,c2,Ah];exact G1)|exact G1
   |false=>
    have hk2:¬ kind=2:=(by simpa using k2);rw[A4 hk2];cases k3:(kind==3)with
    |false=>
     have hk3:¬ kind=3:=(by simpa using k3);rw[A4 hk3];refine AN func101 ntmps101 results101 Ty.Ek ?_;replace zz:=AK ho' wn b0 k1 k2 k3;refine wt zz ?_;first|exact G1|exact⟨rfl,G1⟩
    |true=>
     have hk3:kind=3:=(by simpa using k3);rw[AH hk3];cases c1:(text.data.toList==(#[]:Array UInt8).toList)with
     |false=>
      rw[A4 (by simp[A3,c1])];refine AN func101 ntmps101 results101 Ty.Ek ?_;replace zz:=B6 ho' wn b0 k1 k2 k3 c1 yF;refine wt zz ?_;first|exact G1|exact⟨rfl,G1⟩
     |true=>
      cases c2:(value !=0)with
      |true=>
       rw[A4 (by simp at c2;simp[c2])];refine AN func101 ntmps101 results101 Ty.Ek ?_;replace zz:=BR ho' wn b0 k1 k2 k3 c1 c2 yT;refine wt zz ?_;first|exact G1|exact⟨rfl,G1⟩
      |false=>
       cases c3:((d:Int)==32)with
       |true=>
        rw[A4 (by simp at c3;simp;omega)];refine AN func101 ntmps101 results101 Ty.Ek ?_;replace zz:=Aq ho' wn b0 k1 k2 k3 c1 c2 c3 yT;refine wt zz ?_;first|exact G1|exact⟨rfl,G1⟩
       |false=>
        rw[AH (by simp at c2 c3;exact⟨c1,c2,by omega⟩)];refine AN func101 ntmps101 results101 Ty.Ek ?_;replace zz:=Cv ho' wn b0 k1 k2 k3 c1 c2 c3 yT hlen;refine wt zz ?_;generalize hV:FB kids (d+1) (n+1)=V;refine BV (λc S h'=>S 1= .sc (.int .i64 d)/\S 2= .ptr id 0 0/\S 89= .imm 6 (Sx.rows kids)/\S 90= .sc (.int .i64 kids.length)/\ ∃ k n':Nat,S 91= .sc (.int .i64 k)/\k<=kids.length/\c=kids.length-k/\n'<=4096/\Bq h id (CD n') h'/\V=FB (kids.drop k) (d+1) n') kids.length ?_ ?_
        ·simp only[Ty.w,simprocAttr];exact⟨0,n+1,rfl,by omega,rfl,by simp at b0;omega,G1,hV.symm⟩
        ·clear G1 ho';rintro c S h' ⟨g1,g2,g89,g90,k,n',g91,hkl,rfl,hn',hG,hinv⟩;by_cases hlt:k<kids.length
         ·have hdk:decide ((k:Int)<(kids.length:Int))=true:=(by simp;omega);have w7:IntKind.i64.wrap ((k:Int)+1)=k+1:=(by unfold AE at hk;rw[B9 (by omega) (by omega)]);have wd:IntKind.i64.wrap ((d:Int)+1)=(d:Int)+1:=(by rw[B9 (by omega) (by omega)]);obtain⟨e,hx⟩: ∃ e,kids[k]? =some e:=⟨_,List.getElem?_eq_getElem hlt⟩;have hmem:=List.mem_of_getElem? hx;have hc:=ih e hmem (hks e hmem) (d+1) n' (by simp at c3;omega) hn' id;have hle:=Rx e (d+1) n';rw[CR hx]at hinv;simp only[FB]at hinv;generalize Ci e (d+1) n'=W at hc hle hinv;obtain⟨b,n''⟩:=W;simp only[JQ]at hc hle hinv;have hr:=Sx.rows_get hx;have hne:id≠h'.next:=by have:=hG.le;omega
          have hne':(h'.next=id)=False:=(by simp;omega);have hc2:=hc ((h'.new (.arr 6 [[.sc (.int .i64 0),.sc (.int .i64 0),.sc (.int .i64 0),.sc (.int .i64 0),.sc (.string ⟨#[]⟩),.sc (.slice none 0 0)]])).set h'.next (.arr 6 [e.cells])) (by simp only[A0.set,A0.new];rw[A4 hne,A4 hne];exact hG.at_);have hG2:Bq h id (CD n') ((h'.new (.arr 6 [[.sc (.int .i64 0),.sc (.int .i64 0),.sc (.int .i64 0),.sc (.int .i64 0),.sc (.string ⟨#[]⟩),.sc (.slice none 0 0)]])).set h'.next (.arr 6 [e.cells])):=(hG.new hid).set hid hG.le;obtain⟨ki,va,li,co,te,ks⟩:=e;simp only[Sx.cells]at hr hc2 hG2;replace zz:=BR g1 g2 g89 g90 g91 hlen hdk hr wd;refine wt zz ?_;refine CV (hc2) (sr (BR g1 g2 g89 g90 g91 hlen hdk hr wd)) ?_;simp only[Ty.w,simprocAttr,g1,g2,g89,g90,g91,hlen,hdk,hr,wd];cases b with
          |false=>
           subst hinv;replace zz:=AY g1 g2 g89 g90 g91 w7 yF;refine wt zz ?_;exact hG2.put
          |true=>
           replace zz:=AY g1 g2 g89 g90 g91 w7 yT;refine wt zz ?_;exact⟨kids.length-(k+1),by omega,k+1,n'',by simp,by omega,rfl,hle rfl,hG2.put,hinv⟩
         ·have hdk:decide ((k:Int)<(kids.length:Int))=false:=(by simp;omega);rw[List.drop_eq_nil_of_le (by omega)]at hinv;simp only[FB]at hinv;subst hinv;replace zz:=AK g1 g2 g89 g90 g91 hdk;refine wt zz ?_;(try rw[hV]);first|exact⟨rfl,hG⟩|exact hG
theorem OV{x:Sx}(hx:x.ok)(h:A0):AA prog 47 [.agg x.cells] h λr h'=>r= .sc (.bool (Ci x 0 0).1)/\h'=h:=by
 have hc:=Yz x hx 0 0 (by omega) (by omega) h.next ((h.new (.arr 1 [[.sc (.int .i64 0)]])).set h.next (.arr 1 [[.sc (.int .i64 0)]])) (by simp[A0.set,CD])
 refine AA.quiet Ty.R9 ?_;generalize Ci x 0 0=W at hc;obtain⟨b,n⟩:=W;obtain⟨ki,va,li,co,te,ks⟩:=x;simp only[Sx.cells,Nc]at hc⊢;refine AN func47 ntmps47 results47 Ty.R9 ?_;refine wt A2 ?_;refine CV (hc) (sr A2) ?_;simp only[Ty.w,simprocAttr];refine wt A2 ?_;exact(((AL.refl h).new _).set (AF _) _).set (AF _) _
end Go.Proofs.YtblgchkahpgdjaaGreat
