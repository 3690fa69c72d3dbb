/- What the claim rests on, part 5: the abstract machine, contracts of the functions, plain data. -/
import Derived.Test.YtblgchkahpgdjaaGreatProg
import Derived.Test.YtblgchkahpgdjaaGreatZr4
set_option linter.unusedVariables false
set_option linter.defProp false
set_option linter.unusedSimpArgs false
set_option linter.unusedSectionVars false
namespace Go.Proofs.YtblgchkahpgdjaaGreat
open Go.AM Go.Proofs.Tryz
namespace Ty
theorem Ns:Tryz.prog.follows .mixedOrders=true:=by kernel_rfl
theorem RF:Ai prog 12=true:=by kernel_rfl
theorem PM:Ai prog 17=true:=by kernel_rfl
theorem Nt:Ai prog 19=true:=by kernel_rfl
theorem du:Ai prog 21=true:=by kernel_rfl
theorem La:Ai prog 22=true:=by kernel_rfl
theorem dv:Ai prog 26=true:=by kernel_rfl
theorem UI:Ai prog 40=true:=by kernel_rfl
theorem RG:Ai prog 41=true:=by kernel_rfl
theorem UJ:Ai prog 39=true:=by kernel_rfl
theorem UK:Ai prog 43=true:=by kernel_rfl
theorem UL:Ai prog 42=true:=by kernel_rfl
theorem UM:Ai prog 44=true:=by kernel_rfl
theorem RH:Ai prog 45=true:=by kernel_rfl
theorem RI:Ai prog 46=true:=by kernel_rfl
theorem UN:Ai prog 47=true:=by kernel_rfl
theorem RJ:Ai prog 51=true:=by kernel_rfl
theorem Hf:Ai prog 53=true:=by kernel_rfl
theorem RK:Ai prog 58=true:=by kernel_rfl
theorem Lb:Ai prog 59=true:=by kernel_rfl
theorem UO:Ai prog 60=true:=by kernel_rfl
theorem KU:Ai prog 61=true:=by kernel_rfl
theorem dw:Ai prog 69=true:=by kernel_rfl
theorem UP:Ai prog 71=true:=by kernel_rfl
theorem UQ:Ai prog 72=true:=by kernel_rfl
theorem UR:Ai prog 73=true:=by kernel_rfl
theorem US:Ai prog 75=true:=by kernel_rfl
theorem dx:Ai prog 94=true:=by kernel_rfl
theorem PN:Ai prog 95=true:=by kernel_rfl
theorem UT:Ai prog 96=true:=by kernel_rfl
theorem UU:Ai prog 97=true:=by kernel_rfl
theorem UV:Ai prog 99=true:=by kernel_rfl
theorem dy:Ai prog 98=true:=by kernel_rfl
theorem UW:Ai prog 100=true:=by kernel_rfl
theorem GD:Ai prog 101=true:=by kernel_rfl
theorem UX:Ai prog 107=true:=by kernel_rfl
theorem PO:Ai prog 109=true:=by kernel_rfl
theorem Nu:Ai prog 110=true:=by kernel_rfl
theorem PQ:Ai prog 111=true:=by kernel_rfl
theorem Nv:Ai prog 112=true:=by kernel_rfl
theorem PT:Ai prog 113=true:=by kernel_rfl
theorem PU:Ai prog 114=true:=by kernel_rfl
theorem dz:Ai prog 116=true:=by kernel_rfl
theorem eA:Ai prog 117=true:=by kernel_rfl
theorem UY:Ai prog 118=true:=by kernel_rfl
theorem PW:Ai prog 119=true:=by kernel_rfl
theorem Lc:Ai prog 120=true:=by kernel_rfl
theorem UZ:Ai prog 121=true:=by kernel_rfl
theorem Ua:Ai prog 122=true:=by kernel_rfl
theorem Ub:Ai prog 127=true:=by kernel_rfl
theorem eB:Ai prog 135=true:=by kernel_rfl
theorem Uc:Ai prog 136=true:=by kernel_rfl
theorem eC:Ai prog 137=true:=by kernel_rfl
theorem Ud:Ai prog 138=true:=by kernel_rfl
theorem Ue:Ai prog 140=true:=by kernel_rfl
theorem RL:Ai prog 141=true:=by kernel_rfl
theorem PX:Ai prog 142=true:=by kernel_rfl
theorem eD:Ai prog 143=true:=by kernel_rfl
theorem Uf:Ai prog 144=true:=by kernel_rfl
theorem eE:Ai prog 145=true:=by kernel_rfl
theorem RM:Ai prog 146=true:=by kernel_rfl
theorem Nw:Ai prog 147=true:=by kernel_rfl
theorem Nx:Ai prog 148=true:=by kernel_rfl
theorem Ld:Ai prog 149=true:=by kernel_rfl
theorem Le:Ai prog 150=true:=by kernel_rfl
theorem Ug:Ai prog 151=true:=by kernel_rfl
theorem Uh:Ai prog 152=true:=by kernel_rfl
theorem Ny:Ai prog 153=true:=by kernel_rfl
theorem Ui:Ai prog 154=true:=by kernel_rfl
theorem RN:Ai prog 155=true:=by kernel_rfl
theorem Uj:Ai prog 156=true:=by kernel_rfl
theorem RO:Ai prog 161=true:=by kernel_rfl
theorem Lf:Ai prog 162=true:=by kernel_rfl
theorem Ul:Ai prog 163=true:=by kernel_rfl
theorem eF:Ai prog 164=true:=by kernel_rfl
theorem eG:Ai prog 165=true:=by kernel_rfl
theorem RP:Ai prog 166=true:=by kernel_rfl
theorem PY:Ai prog 167=true:=by kernel_rfl
theorem KV:Ai prog 168=true:=by kernel_rfl
theorem Um:Ai prog 169=true:=by kernel_rfl
theorem PZ:Ai prog 173=true:=by kernel_rfl
theorem Un:Ai prog 174=true:=by kernel_rfl
theorem Uo:Ai prog 175=true:=by kernel_rfl
theorem eI:Ai prog 176=true:=by kernel_rfl
theorem Up:Ai prog 177=true:=by kernel_rfl
theorem Ih:Ai prog 178=true:=by kernel_rfl
theorem Pa:Ai prog 179=true:=by kernel_rfl
theorem Uq:Ai prog 180=true:=by kernel_rfl
theorem JF:Ai prog 181=true:=by kernel_rfl
theorem Ur:Ai prog 182=true:=by kernel_rfl
theorem Us:Ai prog 183=true:=by kernel_rfl
theorem Ut:Ai prog 186=true:=by kernel_rfl
theorem eJ:Ai prog 187=true:=by kernel_rfl
theorem Uu:Ai prog 191=true:=by kernel_rfl
theorem Uv:Ai prog 189=true:=by kernel_rfl
theorem eL:Ai prog 201=true:=by kernel_rfl
theorem Pc:Ai prog 6=true:=by kernel_rfl
theorem eM:Ai prog 68=true:=by kernel_rfl
theorem eN:Ai prog 70=true:=by kernel_rfl
theorem eO:Ai prog 74=true:=by kernel_rfl
theorem eQ:Ai prog 76=true:=by kernel_rfl
theorem eR:Ai prog 128=true:=by kernel_rfl
theorem eT:Ai prog 139=true:=by kernel_rfl
theorem eU:Ai prog 188=true:=by kernel_rfl
theorem eV:Ai prog 192=true:=by kernel_rfl
set_option maxRecDepth 20000
theorem Uw{p:Program}(h:p=prog):CM p 28=some 7/\CY p 28=true/\D4 p 33=some [.int .i64 0,.int .i64 0,.int .i64 0,.int .i64 0,.string ⟨#[]⟩,.slice none 0 0]/\CM p 33=some 6/\CY p 33=true/\kT p 33=8/\Fj p 33=some [(0,1),(1,1),(2,1),(3,1),(4,1),(5,1)]/\kT p 35=7/\kT p 3=2/\D4 p 28=some [.string ⟨#[]⟩,.slice none 0 0,.slice none 0 0,.slice none 0 0,.slice none 0 0,.slice none 0 0,.slice none 0 0]/\BN p 28 0=some (0,1,false)/\CM p 9=some 1/\CY p 9=false/\kT p 9=3/\kT p 60=5/\DK p 31=some (6,72)/\GA p 31=some [.int .i64 0,.int .i64 0,.int .i64 0,.int .i64 0,.string ⟨#[]⟩,.slice none 0 0]/\DK p 60=some (7,152)/\BN p 68 0=some (0,1,false)/\CM p 22=some 1/\CY p 22=false/\kT p 22=5/\DK p 22=some (2,32)/\GA p 22=some [.string ⟨#[]⟩,.string ⟨#[]⟩]/\BN p 68 1=some (1,6,true)/\CM p 67=some 6/\CY p 67=true/\DK p 63=some (6,128)/\GA p 63=some [.string ⟨#[]⟩,.string ⟨#[]⟩,.slice none 0 0,.slice none 0 0,.slice none 0 0,.slice none 0 0]/\kT p 63=5/\kT p 67=8/\D4 p 67=some [.string ⟨#[]⟩,.string ⟨#[]⟩,.slice none 0 0,.slice none 0 0,.slice none 0 0,.slice none 0 0]/\Fj p 67=some [(0,1),(1,1),(2,1),(3,1),(4,1),(5,1)]/\DK p 64=some (1,16)/\GA p 64=some [.string ⟨#[]⟩]/\kT p 77=8/\D4 p 77=some [.int .i64 0,.slice none 0 0,.string ⟨#[]⟩,.string ⟨#[]⟩,.slice none 0 0,.slice none 0 0,.slice none 0 0,.slice none 0 0,.string ⟨#[]⟩,.slice none 0 0,.string ⟨#[]⟩,.string ⟨#[]⟩,.int .i64 0,.slice none 0 0,.slice none 0 0]/\Fj p 77=some [(0,1),(1,1),(2,6),(8,1),(9,1),(10,5)]/\CM p 77=some 15/\CY p 77=true/\BN p 77 2=some (2,6,true)/\DK p 43=some (15,288)/\GA p 43=some [.int .i64 0,.slice none 0 0,.string ⟨#[]⟩,.string ⟨#[]⟩,.slice none 0 0,.slice none 0 0,.slice none 0 0,.slice none 0 0,.string ⟨#[]⟩,.slice none 0 0,.string ⟨#[]⟩,.string ⟨#[]⟩,.int .i64 0,.slice none 0 0,.slice none 0 0]/\BN p 33 5=some (5,1,false)/\CM p 31=some 1/\CY p 31=false/\kT p 31=5/\BN p 28 1=some (1,1,false)/\BN p 28 2=some (2,1,false)/\BN p 28 3=some (3,1,false)/\CM p 23=some 1/\CY p 23=false/\kT p 23=5/\BN p 28 4=some (4,1,false)/\CM p 24=some 1/\CY p 24=false/\kT p 24=5/\BN p 28 5=some (5,1,false)/\CM p 25=some 1/\CY p 25=false/\kT p 25=5/\DK p 25=some (10,200)/\BN p 83 3=some (3,6,true)/\BN p 83 4=some (9,1,false)/\CM p 43=some 1/\CY p 43=false/\BN p 28 6=some (6,1,false)/\CM p 26=some 1/\CY p 26=false/\kT p 26=5/\DK p 26=some (23,480)/\CM p 85=some 23/\CY p 85=true/\D4 p 85=some [.string ⟨#[]⟩,.slice none 0 0,.int .i64 0,.string ⟨#[]⟩,.string ⟨#[]⟩,.slice none 0 0,.slice none 0 0,.slice none 0 0,.slice none 0 0,.string ⟨#[]⟩,.string ⟨#[]⟩,.slice none 0 0,.slice none 0 0,.slice none 0 0,.slice none 0 0,.string ⟨#[]⟩,.string ⟨#[]⟩,.slice none 0 0,.slice none 0 0,.slice none 0 0,.slice none 0 0,.slice none 0 0,.slice none 0 0]/\BN p 85 3=some (3,6,true)/\BN p 85 4=some (9,6,true)/\BN p 85 5=some (15,6,true)/\BN p 85 6=some (21,1,false)/\BN p 85 7=some (22,1,false)/\BN p 83 2=some (2,1,false)/\CM p 3=some 1/\CY p 3=false/\kT p 43=5/\BN p 77 0=some (0,1,false)/\kT p 89=8/\D4 p 89=some [.bool false]/\Fj p 89=some [(0,1)]/\DK p 23=some (2,40)/\CM p 94=some 2/\CY p 94=true/\D4 p 94=some [.string ⟨#[]⟩,.slice none 0 0]/\BN p 94 0=some (0,1,false)/\BN p 94 1=some (1,1,false)/\DK p 24=some (4,56)/\CM p 96=some 4/\CY p 96=true/\D4 p 96=some [.string ⟨#[]⟩,.slice none 0 0,.int .i64 0,.int .i64 0]/\BN p 96 0=some (0,1,false)/\BN p 96 1=some (1,1,false)/\BN p 96 2=some (2,1,false)/\BN p 96 3=some (3,1,false)/\CM p 83=some 10/\CY p 83=true/\D4 p 83=some [.string ⟨#[]⟩,.slice none 0 0,.int .i64 0,.string ⟨#[]⟩,.string ⟨#[]⟩,.slice none 0 0,.slice none 0 0,.slice none 0 0,.slice none 0 0,.slice none 0 0]/\BN p 89 0=some (0,1,false)/\CM p 4=some 1/\CY p 4=false/\kT p 42=2/\BN p 33 0=some (0,1,false)/\BN p 33 1=some (1,1,false)/\BN p 33 4=some (4,1,false)/\BN p 33 2=some (2,1,false)/\BN p 33 3=some (3,1,false)/\BN p 77 1=some (1,1,false)/\BN p 77 4=some (9,1,false)/\CM p 64=some 1/\CY p 64=false/\kT p 64=5/\BN p 77 5=some (10,5,true)/\CM p 75=some 5/\CY p 75=true/\kT p 103=8/\D4 p 103=some [.slice none 0 0,.slice none 0 0]/\Fj p 103=some [(0,1),(1,1)]/\BN p 77 3=some (8,1,false)/\kT p 28=8/\Fj p 28=some [(0,1),(1,1),(2,1),(3,1),(4,1),(5,1),(6,1)]/\Jd p 110=some (3,(.bool false))/\kT p 5=2/\LF p 42=some (.int .i64 0)/\BN p 123 0=some (0,1,false)/\BN p 123 1=some (1,1,false)/\BN p 67 4=some (4,1,false)/\CM p 65=some 1/\CY p 65=false/\kT p 65=5/\DK p 65=some (5,88)/\BN p 67 5=some (5,1,false)/\CM p 63=some 1/\CY p 63=false/\BN p 67 0=some (0,1,false)/\BN p 67 1=some (1,1,false)/\BN p 67 2=some (2,1,false)/\BN p 67 3=some (3,1,false)/\D4 p 50=some [.nilFunc]/\CM p 50=some 1/\CY p 50=false/\CM p 123=some 2/\CY p 123=true/\D4 p 123=some [.string ⟨#[]⟩,.string ⟨#[]⟩]/\BN p 83 0=some (0,1,false)/\BN p 83 1=some (1,1,false)/\BN p 85 0=some (0,1,false)/\BN p 85 1=some (1,1,false)/\BN p 85 2=some (2,1,false)/\D4 p 3=some [.int .i64 0]/\BN p 75 4=some (4,1,false)/\kT p 75=8/\D4 p 75=some [.string ⟨#[]⟩,.string ⟨#[]⟩,.int .i64 0,.slice none 0 0,.slice none 0 0]/\Fj p 75=some [(0,1),(1,1),(2,1),(3,1),(4,1)]/\CM p 103=some 2/\CY p 103=true/\kT p 123=8/\NR p 123=some 2/\BN p 75 0=some (0,1,false)/\BN p 75 1=some (1,1,false)/\BN p 75 2=some (2,1,false)/\BN p 75 3=some (3,1,false)/\GA p 23=some [.string ⟨#[]⟩,.slice none 0 0]/\GA p 24=some [.string ⟨#[]⟩,.slice none 0 0,.int .i64 0,.int .i64 0]/\GA p 25=some [.string ⟨#[]⟩,.slice none 0 0,.int .i64 0,.string ⟨#[]⟩,.string ⟨#[]⟩,.slice none 0 0,.slice none 0 0,.slice none 0 0,.slice none 0 0,.slice none 0 0]/\GA p 26=some [.string ⟨#[]⟩,.slice none 0 0,.int .i64 0,.string ⟨#[]⟩,.string ⟨#[]⟩,.slice none 0 0,.slice none 0 0,.slice none 0 0,.slice none 0 0,.string ⟨#[]⟩,.string ⟨#[]⟩,.slice none 0 0,.slice none 0 0,.slice none 0 0,.slice none 0 0,.string ⟨#[]⟩,.string ⟨#[]⟩,.slice none 0 0,.slice none 0 0,.slice none 0 0,.slice none 0 0,.slice none 0 0,.slice none 0 0]/\kT p 94=8/\Fj p 94=some [(0,1),(1,1)]/\kT p 96=8/\Fj p 96=some [(0,1),(1,1),(2,1),(3,1)]/\D4 p 172=some [.string ⟨#[]⟩,.slice none 0 0,.int .i64 0,.slice none 0 0,.slice none 0 0]/\CM p 172=some 5/\CY p 172=true/\BN p 172 0=some (0,1,false)/\BN p 172 1=some (1,1,false)/\BN p 172 2=some (2,1,false)/\BN p 172 3=some (3,1,false)/\BN p 172 4=some (4,1,false)/\CM p 170=some 1/\CY p 170=false/\kT p 170=5/\DK p 170=some (1,24)/\kT p 83=8/\Fj p 83=some [(0,1),(1,1),(2,1),(3,6),(9,1)]/\kT p 85=8/\Fj p 85=some [(0,1),(1,1),(2,1),(3,6),(9,6),(15,6),(21,1),(22,1)]/\BN p 103 1=some (1,1,false)/\BN p 103 0=some (0,1,false)/\Fj p 123=some [(0,1),(1,1)]/\GA p 170=some [.slice none 0 0]/\kT p 172=8/\Fj p 172=some [(0,1),(1,1),(2,1),(3,1),(4,1)]/\J9 p 9=none/\J9 p 201=none/\kT p 201=5/\LI p 201=true/\DK p 201=some (1,1)/\CM p 5=some 1/\CY p 5=false/\GA p 65=some [.string ⟨#[]⟩,.string ⟨#[]⟩,.int .i64 0,.slice none 0 0,.slice none 0 0]/\kT p 211=8/\D4 p 211=some [.int .i64 0]/\Fj p 211=some [(0,1)]/\kT p 222=8/\D4 p 222=some [.slice none 0 0,.slice none 0 0]/\Fj p 222=some [(0,1),(1,1)]/\CM p 222=some 2/\CY p 222=true/\BN p 211 0=some (0,1,false)/\BN p 222 1=some (1,1,false)/\BN p 222 0=some (0,1,false):=by
 subst h
 (repeat' apply And.intro)<;>kernel_rfl
theorem AW:type_of% (Uw rfl):=Uw rfl
def w:=uu @w0 @AW
end Ty
section
variable {P:Program}{ow:Nat->Bool}{wf:FuncId->Bool}{n:Nat}{Q:BA}{s:A9}{h:A0}{f q:Prop}
theorem zI:Nonempty Unit:=⟨()⟩
theorem yT:(!true)=false:=rfl
theorem yF:(!false)=true:=rfl
theorem uR{id:Nat}{ops:List Oper}{K:A9->A0->Prop}(W:f)(k:q)(e:f->q->E8 P ow n ops ops K s h:=by(first|(intro W k;simp only[Ty.w,simprocAttr,B6,Bf,Au,Ba,W];exact k)|(refine λW (_:Nonempty Unit)=>?_;simp only[Ty.w,simprocAttr,B6,Bf,Au,Ba,W]))):Ad P ow wf n (.region id ops.toArray false) (BA.seq K Q) s h:=BZ (e W k)
theorem uQ{id:Nat}{ops:List Oper}{q:(A9->A0->Prop)->Prop}(W:f)(k: ∀ K:A9->A0->Prop,(∀ s h,Q .normal s h->K s h)->q K)(e: ∀ K:A9->A0->Prop,f->q K->E8 P ow n ops ops K s h:=by(intro K;first|(intro W k;simp only[Ty.w,simprocAttr,B6,Bf,Au,Ba,W];exact k)|(refine λW (_:Nonempty Unit)=>?_;simp only[Ty.w,simprocAttr,B6,Bf,Au,Ba,W]))):Ad P ow wf n (.region id ops.toArray false) Q s h:=FD λK hK=>e K W (k K hK)
theorem uD{id:Nat}{ops:List Oper}{K:A9->A0->Prop}(W:f)(k:q)(hd:JB ow wf ops=true:=by decide+kernel)(e:f->q->Eu P ow wf n ops 0 ops [] [] K s h:=by(first|(intro W k;simp only[Ty.w,simprocAttr,B6,Bf,Au,Ba,W];exact k)|(refine λW (_:Nonempty Unit)=>?_;simp only[Ty.w,simprocAttr,B6,Bf,Au,Ba,W]))):Ad P ow wf n (.region id ops.toArray true) (BA.seq K Q) s h:=Nl hd (e W k)
theorem uE{id:Nat}{ops:List Oper}{q:(A9->A0->Prop)->Prop}(W:f)(k: ∀ K:A9->A0->Prop,(∀ s h,Q .normal s h->K s h)->q K)(hd:JB ow wf ops=true:=by decide+kernel)(e: ∀ K:A9->A0->Prop,f->q K->Eu P ow wf n ops 0 ops [] [] K s h:=by(intro K;first|(intro W k;simp only[Ty.w,simprocAttr,B6,Bf,Au,Ba,W];exact k)|(refine λW (_:Nonempty Unit)=>?_;simp only[Ty.w,simprocAttr,B6,Bf,Au,Ba,W]))):Ad P ow wf n (.region id ops.toArray true) Q s h:=UG hd λK hK=>e K W (k K hK)
theorem uT(W:f)(k:q)(e:f->q->Q .ret s h:=by(first|(intro W k;simp only[Ty.w,simprocAttr,B6,Bf,Au,Ba,W];exact k)|(refine λW (_:Nonempty Unit)=>?_;simp only[Ty.w,simprocAttr,B6,Bf,Au,Ba,W]))):Ad P ow wf n .ret Q s h:=ES (e W k)
theorem uK(k:q)(e:q->Q .normal s h:=by(first|(intro k;(try simp only[Ao,simprocAttr]);exact k)|(refine λ(_:Nonempty Unit)=>?_;simp only[Ao,simprocAttr]))):Ad P ow wf n .skip Q s h:=GZ (e k)
theorem uX{id:Nat}(k:q)(e:q->Q (.exit id) s h:=by(first|(intro k;(try simp only[Ao,simprocAttr]);exact k)|(refine λ(_:Nonempty Unit)=>?_;simp only[Ao,simprocAttr]))):Ad P ow wf n (.exit id) Q s h:=Zd (e k)
theorem uN{K R:A9->A0->Prop}(hK: ∀ s h,R s h->K s h)(k:q)(e:q->R s h:=by(first|(intro k;(try simp only[Ao,simprocAttr]);exact k)|(refine λ(_:Nonempty Unit)=>?_;simp only[Ao,simprocAttr]))):K s h:=hK _ _ (e k)
theorem Bo{c:Operand}{x y:Code}{b:Bool}(W:f)(k:q)(e:f->A5 s c= .sc (.bool b):=by(intro W;(try simp only[Ty.w,simprocAttr,B6,Bf,Au,Ba,W]);rfl))(e2:q->Ad P ow wf n (bif b then x else y) Q s h:=by(intro k;(first|rw[AB]|rw[AI]);exact k)):Ad P ow wf n (.cond c x y) Q s h:=EI b (e W) (λhb=>by have:=e2 k;rw[hb,AB]at this;exact this) (λhb=>by have:=e2 k;rw[hb,AI]at this;exact this)
theorem uP{α:Type}{A:Nat × α->Prop}{ops:List Oper}{kk:Nat}{R:Prop}{l:List (Nat × α)}{is:List Nat}(W:f)(k:q)(h1:l.map (·.1)=is:=by rfl)(h2:is.all (λi=>pre ops i kk)=true:=by decide+kernel)(e:f->q->R:=by(first|(intro W k;(try simp only[Ty.w,simprocAttr,B6,Bf,Au,Ba,W]);exact k)|(refine λW (_:Nonempty Unit)=>?_;simp only[Ty.w,simprocAttr,B6,Bf,Au,Ba,W]))):(∀ x∈l,pre ops x.1 kk=true\/A x)/\R:=cz is h1 h2 (e W k)
theorem uB{α:Type}{A:Nat × α->Prop}{ops:List Oper}{kk:Nat}{R:Prop}{l:List (Nat × α)}(W:f)(k:q)(h1:f-> ∀ x∈l,pre ops x.1 kk=true\/A x:=by(intro W;simp only[Bg,Ty.w,simprocAttr,W]<;>(repeat' apply And.intro)<;>first|exact .inl (by decide+kernel)|exact True.intro))(e:f->q->R:=by(first|(intro W k;(try simp only[Ty.w,simprocAttr,B6,Bf,Au,Ba,W]);exact k)|(refine λW (_:Nonempty Unit)=>?_;simp only[Ty.w,simprocAttr,B6,Bf,Au,Ba,W]))):(∀ x∈l,pre ops x.1 kk=true\/A x)/\R:=R8 (h1 W) (e W k)
theorem uU{fn:FuncId}{dst:Option Tmp}{args:List Operand}{ts:Array TypeId}{ty:TypeId}{pos:String}{af:Array Edge}{gd:Option (Nat × Bool)}{ag:List PV}{v:PV}{K:A9->A0->Prop}{ops rest:List Oper}(W:f)(hc:A6 P fn ag h λr h'=>r=v/\h'=h)(k:q)(ha:f->args.map (A5 s)=ag:=by(intro W;(try simp only[Ty.w,simprocAttr,W]);try rfl))(e:f->q->E8 P ow n ops rest K (AZ s dst v) h:=by(first|(intro W k;simp only[Ty.w,simprocAttr,B6,Bf,Au,Ba,W];exact k)|(refine λW (_:Nonempty Unit)=>?_;simp only[Ty.w,simprocAttr,B6,Bf,Au,Ba,W]))):
  CQ P ow {dst:=dst,op:= .call {callee:= .value (.func fn),args:=args.toArray,argTypes:=ts},type:=ty,pos:=pos,after:=af,guard:=gd} (EH P ow n ops rest K) s h:=Gs hc (ha W) (e W k)
theorem uV{fn:FuncId}{d:Nat}{args:List Operand}{ts:Array TypeId}{ty:TypeId}{pos:String}{af:Array Edge}{gd:Option (Nat × Bool)}{ag:List PV}{v:PV}{ops rest:List Oper}{kk k':Nat}{past:Ga}{hist:List (Nat × A0)}{K:A9->A0->Prop}(W:f)(hc:A6 P fn ag h λr h'=>r=v/\h'=h)(k:q)(ha:f->args.map (A5 s)=ag:=by(intro W;(try simp only[Ty.w,simprocAttr,W]);try rfl))
  (e:f->q->Eu P ow wf n ops kk rest ((k',{dst:=some d,op:= .call {callee:= .value (.func fn),args:=args.toArray,argTypes:=ts},type:=ty,pos:=pos,after:=af,guard:=gd},s,v)::past) hist K (CX s d v) h:=by(first|(intro W k;simp only[Ty.w,simprocAttr,B6,Bf,Au,Ba,W];exact k)|(refine λW (_:Nonempty Unit)=>?_;simp only[Ty.w,simprocAttr,B6,Bf,Au,Ba,W]))):
  ∃ v,Af P ow {dst:=some d,op:= .call {callee:= .value (.func fn),args:=args.toArray,argTypes:=ts},type:=ty,pos:=pos,after:=af,guard:=gd} (A5 s) h v h/\
   Do P ow wf n ops kk rest (DR P ow ((k',{dst:=some d,op:= .call {callee:= .value (.func fn),args:=args.toArray,argTypes:=ts},type:=ty,pos:=pos,after:=af,guard:=gd},s,v)::past)) hist K (CX s d v) h:=Mb hc (ha W) (e W k)
theorem uA{fn:FuncId}{d:Nat}{args:List Operand}{ts:Array TypeId}{ty:TypeId}{pos:String}{af:Array Edge}{gd:Option (Nat × Bool)}{ag:List PV}{v:PV}{ops rest:List Oper}{kk k':Nat}{past:Ga}{hist:List (Nat × A0)}{K:A9->A0->Prop}{A:PV->Prop}(W:f)(hc:A6 P fn ag h λr h'=>r=v/\h'=h)(k:q)(ha:f->args.map (A5 s)=ag:=by(intro W;(try simp only[Ty.w,simprocAttr,W]);try rfl))(hA:f->A v:=by(intro W;simp only[Ty.w,simprocAttr,W];try trivial))
  (e:f->q->Eu P ow wf n ops kk rest ((k',{dst:=some d,op:= .call {callee:= .value (.func fn),args:=args.toArray,argTypes:=ts},type:=ty,pos:=pos,after:=af,guard:=gd},s,v)::past) hist K (CX s d v) h:=by(first|(intro W k;simp only[Ty.w,simprocAttr,B6,Bf,Au,Ba,W];exact k)|(refine λW (_:Nonempty Unit)=>?_;simp only[Ty.w,simprocAttr,B6,Bf,Au,Ba,W]))):
  ∃ v,Af P ow {dst:=some d,op:= .call {callee:= .value (.func fn),args:=args.toArray,argTypes:=ts},type:=ty,pos:=pos,after:=af,guard:=gd} (A5 s) h v h/\A v/\
   Do P ow wf n ops kk rest (DR P ow ((k',{dst:=some d,op:= .call {callee:= .value (.func fn),args:=args.toArray,argTypes:=ts},type:=ty,pos:=pos,after:=af,guard:=gd},s,v)::past)) hist K (CX s d v) h:=If hc (ha W) (hA W) (e W k)
theorem uZ{fn:FuncId}{d:Nat}{args:List Operand}{ts:Array TypeId}{ty:TypeId}{pos:String}{af:Array Edge}{gd:Option (Nat × Bool)}{ag:List PV}{v:PV}{h1:A0}{ops rest:List Oper}{kk:Nat}{past:Ga}{hist:List (Nat × A0)}{K:A9->A0->Prop}{A:A0->Prop}(W:f)(hc:A6 P fn ag h λr h'=>r=v/\h'=h1)(k:q)(ha:f->args.map (A5 s)=ag:=by(intro W;(try simp only[Ty.w,simprocAttr,W]);try rfl))(hA:f->A h1:=by(intro W;(try simp(maxSteps:=4000000) only[Ty.w,simprocAttr,DR,BS,B5,Bg,W])<;>((repeat' apply And.intro)<;>first|trivial|exact .inl (by decide+kernel)|exact .inr A3|exact .inr (by simp only[Ty.w,simprocAttr,W])|exact(λ_ hx=>by cases hx))))
  (e:f->q->Eu P ow wf n ops kk rest past hist K (CX s d v) h1:=by(first|(intro W k;simp only[Ty.w,simprocAttr,B6,Bf,Au,Ba,W];exact k)|(refine λW (_:Nonempty Unit)=>?_;simp only[Ty.w,simprocAttr,B6,Bf,Au,Ba,W]))):
  ∃ v h',Af P ow {dst:=some d,op:= .call {callee:= .value (.func fn),args:=args.toArray,argTypes:=ts},type:=ty,pos:=pos,after:=af,guard:=gd} (A5 s) h v h'/\A h'/\
   Do P ow wf n ops kk rest (DR P ow past) hist K (CX s d v) h':=LY hc (ha W) (hA W) (e W k)
theorem uJ{fn:FuncId}{d:Nat}{args:List Operand}{ts:Array TypeId}{ty:TypeId}{pos:String}{af:Array Edge}{gd:Option (Nat × Bool)}{ag:List PV}{v:PV}{ops rest:List Oper}{kk k':Nat}{past:Ga}{hist:List (Nat × A0)}{K:A9->A0->Prop}{A:PV->Prop}(W:f)(hc: ∀ h,A6 P fn ag h λr h'=>r=v/\h'=h)(k:q)(ha:f->args.map (A5 s)=ag:=by(intro W;(try simp only[Ty.w,simprocAttr,W]);try rfl))(hA:f->args.map (A5 s)=ag->A v:=by(intro W hh;(try simp(maxSteps:=4000000) only[BS,B5,Bg,W])<;>((repeat' apply And.intro)<;>first|trivial|exact .inl (by decide+kernel)|exact .inr A3|exact .inr (CO (hc _) hh)|exact(λ_ hx=>by cases hx))))
  (e:f->q->Eu P ow wf n ops kk rest ((k',{dst:=some d,op:= .call {callee:= .value (.func fn),args:=args.toArray,argTypes:=ts},type:=ty,pos:=pos,after:=af,guard:=gd},s,v)::past) hist K (CX s d v) h:=by(first|(intro W k;simp only[Ty.w,simprocAttr,B6,Bf,Au,Ba,W];exact k)|(refine λW (_:Nonempty Unit)=>?_;simp only[Ty.w,simprocAttr,B6,Bf,Au,Ba,W]))):
  ∃ v,Af P ow {dst:=some d,op:= .call {callee:= .value (.func fn),args:=args.toArray,argTypes:=ts},type:=ty,pos:=pos,after:=af,guard:=gd} (A5 s) h v h/\A v/\
   Do P ow wf n ops kk rest (DR P ow ((k',{dst:=some d,op:= .call {callee:= .value (.func fn),args:=args.toArray,argTypes:=ts},type:=ty,pos:=pos,after:=af,guard:=gd},s,v)::past)) hist K (CX s d v) h:=If (hc h) (ha W) (hA W (ha W)) (e W k)
theorem Ux{fn:FuncId}{d:Nat}{args:List Operand}{ts:Array TypeId}{ty:TypeId}{pos:String}{af:Array Edge}{gd:Option (Nat × Bool)}{ag:List PV}{v:PV}{ops rest:List Oper}{kk k':Nat}{past:Ga}{hist:List (Nat × A0)}{K:A9->A0->Prop}{A:PV->Prop}(W:f)(hc:A6 P fn ag h λr h'=>r=v/\h'=h)(k:q)(ha:f->args.map (A5 s)=ag:=by(intro W;(try simp only[Ty.w,simprocAttr,W]);try rfl))(hA:f->A v:=by(intro W;(try simp(maxSteps:=4000000) only[BS,B5,Bg,W])<;>((repeat' apply And.intro)<;>first|trivial|exact .inl (by decide+kernel)|exact .inr A3|exact(λ_ hx=>by cases hx))))
  (e:f->q->Eu P ow wf n ops kk rest ((k',{dst:=some d,op:= .call {callee:= .value (.func fn),args:=args.toArray,argTypes:=ts},type:=ty,pos:=pos,after:=af,guard:=gd},s,v)::past) hist K (CX s d v) h:=by(first|(intro W k;simp only[Ty.w,simprocAttr,B6,Bf,Au,Ba,W];exact k)|(refine λW (_:Nonempty Unit)=>?_;simp only[Ty.w,simprocAttr,B6,Bf,Au,Ba,W]))):
  ∃ v,Af P ow {dst:=some d,op:= .call {callee:= .value (.func fn),args:=args.toArray,argTypes:=ts},type:=ty,pos:=pos,after:=af,guard:=gd} (A5 s) h v h/\A v/\
   Do P ow wf n ops kk rest (DR P ow ((k',{dst:=some d,op:= .call {callee:= .value (.func fn),args:=args.toArray,argTypes:=ts},type:=ty,pos:=pos,after:=af,guard:=gd},s,v)::past)) hist K (CX s d v) h:=If hc (ha W) (hA W) (e W k)
structure Tk(c:Code)(Q:BA):Type where
@[irreducible] def Kc (P:Program)(ow:Nat->Bool)(wf:FuncId->Bool)(n:Nat)(c:Code)(Q:BA)(_:Tk c Q)(s:A9)(h:A0):Prop:=Ad P ow wf n c Q s h
structure Tq(Q:BA):Type where
@[irreducible] def Kn (Q:BA)(_:Tq Q)(s:A9)(h:A0):Prop:=Q .normal s h
structure Hd(p:Prop):Prop where
 out:p
structure It(n:Nat):Prop where
theorem sK{a b:Code}(k:Ad P ow wf n a (BA.seq (Kc P ow wf n b Q ⟨⟩) Q) s h):Ad P ow wf n (.seq a b) Q s h:=by
 simp only[Ad];unfold Kc at k;exact k
theorem cK{b:Code}{t:Tk b Q}(k:Ad P ow wf n b Q s h):Kc P ow wf n b Q t s h:=by
 unfold Kc;exact k
theorem nK{t:Tq Q}(k:q)(e:q->Q .normal s h:=by(first|(intro k;(try simp only[Ao,simprocAttr]);exact k)|(refine λ(_:Nonempty Unit)=>?_;simp only[Ao,simprocAttr]))):Kn Q t s h:=by
 unfold Kn;exact e k
theorem uq{id:Nat}{ops:List Oper}(W:f)(k:q)(e:f->q->E8 P ow n ops ops (Kn Q ⟨⟩) s h:=by(first|(intro W k;simp only[Ty.w,simprocAttr,B6,Bf,Au,Ba,W];exact k)|(refine λW (_:Nonempty Unit)=>?_;simp only[Ty.w,simprocAttr,B6,Bf,Au,Ba,W]))):Ad P ow wf n (.region id ops.toArray false) Q s h:=by
 simp only[Ad,BG,AP];have y:=e W k;unfold Kn at y;exact⟨_,_,.refl,KS _ _ _ y⟩
theorem ue{id:Nat}{ops:List Oper}(W:f)(k:q)(hd:JB ow wf ops=true:=by decide+kernel)(e:f->q->Eu P ow wf n ops 0 ops [] [] (Kn Q ⟨⟩) s h:=by(first|(intro W k;simp only[Ty.w,simprocAttr,B6,Bf,Au,Ba,W];exact k)|(refine λW (_:Nonempty Unit)=>?_;simp only[Ty.w,simprocAttr,B6,Bf,Au,Ba,W]))):Ad P ow wf n (.region id ops.toArray true) Q s h:=by
 simp only[Ad,AH];have y:=e W k;unfold Kn at y;exact⟨_,_,.refl,.inl ⟨hd,JE _ _ _ _ _ _ y⟩⟩
theorem yH{id i:Nat}{ops:Array Oper}{d:Bool}{x y:Code}(_:It i)(hh:Hd (Ad P ow wf n (.seq (.seq (.region id ops d) x) y) Q s h))(e:id=i:=by rfl):Ad P ow wf n (.seq (.seq (.region id ops d) x) y) Q s h:=hh.out
theorem yR{id i:Nat}{ops:Array Oper}{d:Bool}{y:Code}(_:It i)(hh:Hd (Ad P ow wf n (.seq (.region id ops d) y) Q s h))(e:id=i:=by rfl):Ad P ow wf n (.seq (.region id ops d) y) Q s h:=hh.out
theorem yB{id i:Nat}{ops:Array Oper}{d:Bool}(_:It i)(hh:Hd (Ad P ow wf n (.region id ops d) Q s h))(e:id=i:=by rfl):Ad P ow wf n (.region id ops d) Q s h:=hh.out
theorem dL{g:Prop}(e:g:=by(intro x hx;repeat'(first|(exact absurd hx (Gn))|(rcases D7.1 hx with rfl|hx)|(refine .inr ?_;dsimp only;omega)|(refine .inr ?_;exact Gn)|(refine .inr λhm=>?_;have:=GV.1 hm;omega)|(refine .inl ?_;dsimp only;decide+kernel)))):g:=e
theorem sq{g:Prop}(W:f)(e:f->g:=by(intro W;simp only[Ty.w,simprocAttr,W])):g:=e W
theorem sr{g:Prop}(W:f)(e:f->g:=by(intro W;(try simp only[Ty.w,simprocAttr,W]);try rfl)):g:=e W
theorem wt{g:Prop}(W:f)(k:q)(e:f->q->g:=by(intro W k;(repeat'(first|refine cK ?_|refine nK ?_|refine sK ?_|refine Ca ?_|refine uR W ?_|refine uq W ?_|refine uT W ?_|refine uK ?_|refine uX ?_|refine Bo W ?_|(refine uN hK ?_;clear hK)|(clear hK;refine uN hK ?_;clear hK)|(clear hK;clear hK;refine uN hK ?_;clear hK)|(clear hK;clear hK;clear hK;refine uN hK ?_;clear hK)|apply zI));exact k)):g:=e W k
theorem wm{g:Prop}(W:f)(k:q)(e:f->q->g:=by first|(intro W k;(repeat'(first|refine cK ?_|refine nK ?_|refine sK ?_|refine Ca ?_|refine uR W ?_|refine uq W ?_|refine uT W ?_|refine uK ?_|refine uX ?_|refine Bo W ?_|(refine uN hK ?_;clear hK)|(clear hK;refine uN hK ?_;clear hK)|(clear hK;clear hK;refine uN hK ?_;clear hK)|(clear hK;clear hK;clear hK;refine uN hK ?_;clear hK)|apply zI));exact k)|(refine λW (_:Nonempty Unit)=>?_;repeat'(first|refine cK ?_|refine nK ?_|refine sK ?_|refine Ca ?_|refine uR W ?_|refine uq W ?_|refine uT W ?_|refine uK ?_|refine uX ?_|refine Bo W ?_|(refine uN hK ?_;clear hK)|(clear hK;refine uN hK ?_;clear hK)|(clear hK;clear hK;refine uN hK ?_;clear hK)|(clear hK;clear hK;clear hK;refine uN hK ?_;clear hK)|apply zI))):g:=e W k
theorem wz{g:Prop}(W:f)(e:f->g:=by(intro W;repeat'(first|refine cK ?_|refine nK ?_|refine sK ?_|refine Ca ?_|refine uR W ?_|refine uq W ?_|refine uT W ?_|refine uK ?_|refine uX ?_|refine Bo W ?_|(refine uN hK ?_;clear hK)|(clear hK;refine uN hK ?_;clear hK)|(clear hK;clear hK;refine uN hK ?_;clear hK)|(clear hK;clear hK;clear hK;refine uN hK ?_;clear hK)|apply zI))):g:=e W
theorem wy{g:Prop}(W:f)(k:q)(e:f->q->g:=by(intro W k;(repeat'(first|refine cK ?_|refine nK ?_|refine sK ?_|refine Ca ?_|refine uR W ?_|refine uD W ?_|refine uq W ?_|refine ue W ?_|refine uT W ?_|refine uK ?_|refine uX ?_|refine Bo W ?_|(refine uN hK ?_;clear hK)|(clear hK;refine uN hK ?_;clear hK)|(clear hK;clear hK;refine uN hK ?_;clear hK)|(clear hK;clear hK;clear hK;refine uN hK ?_;clear hK)|refine uP W ?_|refine uB W ?_|apply zI));exact k)):g:=e W k
theorem wo{g:Prop}(W:f)(k:q)(e:f->q->g:=by first|(intro W k;(repeat'(first|refine cK ?_|refine nK ?_|refine sK ?_|refine Ca ?_|refine uR W ?_|refine uD W ?_|refine uq W ?_|refine ue W ?_|refine uT W ?_|refine uK ?_|refine uX ?_|refine Bo W ?_|(refine uN hK ?_;clear hK)|(clear hK;refine uN hK ?_;clear hK)|(clear hK;clear hK;refine uN hK ?_;clear hK)|(clear hK;clear hK;clear hK;refine uN hK ?_;clear hK)|refine uP W ?_|refine uB W ?_|apply zI));exact k)|(refine λW (_:Nonempty Unit)=>?_;repeat'(first|refine cK ?_|refine nK ?_|refine sK ?_|refine Ca ?_|refine uR W ?_|refine uD W ?_|refine uq W ?_|refine ue W ?_|refine uT W ?_|refine uK ?_|refine uX ?_|refine Bo W ?_|(refine uN hK ?_;clear hK)|(clear hK;refine uN hK ?_;clear hK)|(clear hK;clear hK;refine uN hK ?_;clear hK)|(clear hK;clear hK;clear hK;refine uN hK ?_;clear hK)|refine uP W ?_|refine uB W ?_|apply zI))):g:=e W k
theorem xH{g:Prop}(i:Nat)(W:f)(k:q)(e:It i->f->q->g:=by(intro I W k;(repeat'(first|refine cK ?_|(with_reducible refine yH I ?_)|refine cK ?_|refine nK ?_|refine sK ?_|refine Ca ?_|refine uR W ?_|refine uq W ?_|refine uT W ?_|refine uK ?_|refine uX ?_|refine Bo W ?_|(refine uN hK ?_;clear hK)|(clear hK;refine uN hK ?_;clear hK)|(clear hK;clear hK;refine uN hK ?_;clear hK)|(clear hK;clear hK;clear hK;refine uN hK ?_;clear hK)|apply zI));exact k)):g:=e ⟨⟩ W k
theorem xG{g:Prop}(i:Nat)(W:f)(k:q)(e:It i->f->q->g:=by(intro I W k;(repeat'(first|refine cK ?_|(with_reducible refine yR I ?_)|refine cK ?_|refine nK ?_|refine sK ?_|refine Ca ?_|refine uR W ?_|refine uq W ?_|refine uT W ?_|refine uK ?_|refine uX ?_|refine Bo W ?_|(refine uN hK ?_;clear hK)|(clear hK;refine uN hK ?_;clear hK)|(clear hK;clear hK;refine uN hK ?_;clear hK)|(clear hK;clear hK;clear hK;refine uN hK ?_;clear hK)|apply zI));exact k)):g:=e ⟨⟩ W k
theorem xB{g:Prop}(i:Nat)(W:f)(k:q)(e:It i->f->q->g:=by(intro I W k;(repeat'(first|refine cK ?_|(with_reducible refine yB I ?_)|refine cK ?_|refine nK ?_|refine sK ?_|refine Ca ?_|refine uR W ?_|refine uq W ?_|refine uT W ?_|refine uK ?_|refine uX ?_|refine Bo W ?_|(refine uN hK ?_;clear hK)|(clear hK;refine uN hK ?_;clear hK)|(clear hK;clear hK;refine uN hK ?_;clear hK)|(clear hK;clear hK;clear hK;refine uN hK ?_;clear hK)|apply zI));exact k)):g:=e ⟨⟩ W k
theorem uG{fid:FuncId}{fn:Func}{c:Code}{args:List PV}{m:Nat}{rs:Array ResultVar}{K:PV->A0->Prop}(hf:Tryz.prog.funcs[fid]? =some fn)(h1:fn.ntmps=m)(h2:fn.results=rs)(hh:Ai prog fid=true)(hw:Ad prog ow wf m c (I5 prog rs.toList K) (LM args) h)(hb:fn.body=some c:=by rfl)(hn:args.length<=m:=by simp):A6 prog fid args h K:=by
 subst h1 h2;exact Ni Ty.Ns hf hb hh hn hw
theorem AE{fid:FuncId}{fn:Func}{c:Code}{args:List PV}{m:Nat}{rs:Array ResultVar}{K:PV->A0->Prop}(hf:Tryz.prog.funcs[fid]? =some fn)(h1:fn.ntmps=m)(h2:fn.results=rs)(hh:Ai prog fid=true)(hw:Ad prog (λ_=>false) (λ_=>false) m c (I5 prog rs.toList K) (LM args) h)(hb:fn.body=some c:=by rfl)(hn:args.length<=m:=by simp):A6 prog fid args h K:=uG hf h1 h2 hh hw hb hn
end
set_option maxHeartbeats 2000000
def HH:List ByteArray:=[⟨#[97,110,100]⟩,⟨#[111,114]⟩,⟨#[110,111,116]⟩,⟨#[105,109,112,108,121]⟩,⟨#[102,111,114,97,108,108]⟩,⟨#[101,120,105,115,116,115]⟩,⟨#[119,104,101,110]⟩,⟨#[97,115,115,105,103,110]⟩,⟨#[105,110,99,114,101,97,115,101]⟩,⟨#[100,101,99,114,101,97,115,101]⟩,⟨#[111,98,106,101,99,116]⟩]
theorem eW:HH.length=11:=rfl
def HI(l:List ByteArray)(s:ByteArray):Int:=match l.findIdx? (λw=>A1 s w)with
 |some i=>i
 |none=> -1
theorem KW{l:List ByteArray}{i:Nat}{w:ByteArray}(h:l[i]? =some w):(AN l)[i]? =some [A2 w]:=by simp[AN,h]
theorem Gb(l:List ByteArray):(AN l).length=l.length:=by simp[AN]
theorem RQ{h:A0}{l:List ByteArray}{s:ByteArray}(hl:l.length<=9223372036854775807):A6 prog 117 [.imm 1 (AN l),A2 s] h λr h'=>r= .sc (.int .i64 (HI l s))/\h'=h:=by
 have hlen:=Gb l;refine AE func117 ntmps117 results117 Ty.eA ?_;refine wt hlen ?_;refine Cd (λm S h'=>h'=h/\S 0= .imm 1 (AN l)/\S 1=A2 s/\S 7= .sc (.int .i64 l.length)/\ ∃ k:Nat,S 8= .sc (.int .i64 k)/\k<=l.length/\m=l.length-k/\ ∀ (i:Nat)(w:ByteArray),i<k->l[i]? =some w->A1 s w=false) l.length ?_ ?_
 ·simp only[Ty.w,simprocAttr];exact⟨0,rfl,by omega,rfl,by omega⟩
 ·rintro m S h' ⟨rfl,g0,g1,g7,k,g8,hk,rfl,hall⟩;by_cases hlt:k<l.length
  ·have hd:decide ((k:Int)<(l.length:Int))=true:=(by simp;omega);have w7:IntKind.i64.wrap ((k:Int)+1)=k+1:=(by rw[Br (by omega) (by omega)]);obtain⟨w,hx⟩: ∃ w,l[k]? =some w:=⟨l[k],AU hlt⟩;have hr:=KW hx;cases he:A1 s w with
   |true=>
    have he':=he;unfold A1 at he';replace zz:=Ag g0 g1 g7 g8 hd hr he';refine wt zz ?_;have:l.findIdx? (λw=>A1 s w)=some k:=by
     rw[TD];refine⟨hlt,?_,λj hj=>?_⟩
     ·rw [AU hlt]at hx;simp only[Ak]at hx;rw[hx];exact he
     ·rw [hall j l[j] hj (AU (by omega))];simp
    simp only[HI,this]
   |false=>
    have he':=he;unfold A1 at he';replace zz:=BO g0 g1 g7 g8 hd hr he' w7;refine wt zz ?_;refine⟨l.length-(k+1),by omega,k+1,by simp,by omega,rfl,λi w2 hi hw=>?_⟩;by_cases hik:i=k
    ·subst hik;rw[hx]at hw;simp at hw;rw[← hw];exact he
    ·exact hall i w2 (by omega) hw
  ·have hd:decide ((k:Int)<(l.length:Int))=false:=(by simp;omega);replace zz:=As g0 g1 g7 g8 hd;refine wt zz ?_;have:l.findIdx? (λw=>A1 s w)=none:=by
    rw[Qc];intro w hw;obtain⟨i,hi⟩:=MF hw;have:i<l.length:=(BC.1 hi).1;exact hall i w (by omega) hi
   simp only[HI,this]
theorem eY(l:List ByteArray)(s:ByteArray):decide (HI l s>=0)=l.any (λw=>A1 s w):=by
 unfold HI;cases h:l.findIdx? (λw=>A1 s w)with
 |none=>
  rw[Qc]at h;have:l.any (λw=>A1 s w)=false:=by simpa using h
  rw[this];try rfl
 |some i=>
  rw[TD]at h;obtain⟨hi,h1,_⟩:=h;have:l.any (λw=>A1 s w)=true:=List.any_eq_true.2 ⟨l[i],QV hi,h1⟩;rw[this];simp
theorem eZ{h:A0}{l:List ByteArray}{s:ByteArray}(hl:l.length<=9223372036854775807):A6 prog 60 [.imm 1 (AN l),A2 s] h λr h'=>r= .sc (.bool (l.any λw=>A1 s w))/\h'=h:=by
 refine AE func60 ntmps60 results60 Ty.UO ?_;refine wt A3 ?_;refine uU A3 (RQ (l:=l) (s:=s) hl) ?_;refine wt A3 ?_;rw[← eY]
theorem ed{h:A0}:A6 prog 135 [] h λr h'=>r= .imm 1 (AN HH)/\h'=h:=by
 refine AE func135 ntmps135 results135 Ty.eB ?_;refine wt A3 ?_;rfl
def EJ(c:UInt8):Bool:=decide (97<=c.toNat)&&decide (c.toNat<=122)
def Ef(c:UInt8):Bool:=EJ c||(decide (48<=c.toNat)&&decide (c.toNat<=57))||decide (c.toNat=45)||decide (c.toNat=95)
def Fp(i:Nat)(c:UInt8):Bool:=EJ c||(decide (i≠0)&&Ef c)
def IB:List UInt8->Bool
 |[]=>true
 |c::l=>EJ c&&l.all Ef
def An(s:ByteArray):Bool:=IB s.data.toList&&decide (0<s.size)&&decide (s.size<=32)&&!(HH.any λw=>A1 s w)
def Eg(s:ByteArray):Bool:=decide (2<=s.size)&&decide (s.size<=32)&&(match s.data.toList[0]? with|some c=>decide (c.toNat=63)|none=>false)&&An (s.extract 1 s.size)
theorem Pd(s:ByteArray)(i:Nat):s[i]? =s.data.toList[i]?:=by
 rw[getElem?_def];by_cases hi:i<s.size
 ·rw [dif_pos hi,AU (by simpa using hi)];rfl
 ·rw [dif_neg hi,TA (by simp;omega)]
theorem Uy{c:UInt8}(h:EJ c=true):Ef c=true:=by simp[Ef,h]
theorem ee{l:List UInt8}(h: ∀ (j:Nat)(c:UInt8),l[j]? =some c->Fp j c=true):IB l=true:=by
 cases l with
 |nil=>rfl
 |cons c l=>
  simp only[IB,AR,Bq];refine⟨by simpa[Fp]using h 0 c rfl,λx hx=>?_⟩;obtain⟨i,hi⟩:=MF hx;have:=h (i+1) x (by simpa using hi);simp only[Fp,DG,AR]at this;exact this.elim Uy (·.2)
theorem ef{l:List UInt8}{j:Nat}{c:UInt8}(hj:l[j]? =some c)(h:Fp j c=false):IB l=false:=by
 cases l with
 |nil=>simp at hj
 |cons d l=>
  cases j with
  |zero=>
   simp at hj;subst hj;simp only[Fp]at h;simp at h;simp[IB,h]
  |succ j=>
   simp at hj;have hm:Ef c=false:=(by simp[Fp]at h;exact h.2);have:l.all Ef=false:=(by rw[YK];exact⟨c,C7 hj,by simp[hm]⟩);simp[IB,this]
set_option maxHeartbeats 800000
theorem eg(c:UInt8):(EJ c=true/\decide ((c.toNat:Int)>=97)=true/\decide ((c.toNat:Int)<=122)=true)\/
  (EJ c=false/\decide ((c.toNat:Int)>=97)=false)\/(EJ c=false/\Ef c=false/\decide ((c.toNat:Int)>=97)=true/\decide ((c.toNat:Int)<=122)=false/\decide ((c.toNat:Int)<48)=false/\decide ((c.toNat:Int)>57)=true/\((c.toNat:Int) !=45)=true/\((c.toNat:Int) !=95)=true):=by
 by_cases h1:97<=c.toNat
 ·by_cases h2:c.toNat<=122
  ·exact .inl ⟨by simp[EJ,h1,h2],by simp;omega,by simp;omega⟩
  ·refine .inr (.inr ⟨by simp[EJ,h1,h2],by simp[Ef,EJ];omega,by simp;omega,by simp;omega,by simp;omega,by simp;omega,by simp;omega,by simp;omega⟩)
 ·exact .inr (.inl ⟨by simp[EJ,h1],by simp;omega⟩)
theorem ep{c:UInt8}(h:decide ((c.toNat:Int)>=97)=false):
  (Ef c=true/\decide ((c.toNat:Int)<48)=true/\((c.toNat:Int) !=45)=false)\/
  (Ef c=false/\decide ((c.toNat:Int)<48)=true/\((c.toNat:Int) !=45)=true/\((c.toNat:Int) !=95)=true)\/
  (Ef c=true/\decide ((c.toNat:Int)<48)=false/\decide ((c.toNat:Int)>57)=false)\/
  (Ef c=true/\decide ((c.toNat:Int)<48)=false/\decide ((c.toNat:Int)>57)=true/\((c.toNat:Int) !=45)=true/\((c.toNat:Int) !=95)=false)\/
  (Ef c=false/\decide ((c.toNat:Int)<48)=false/\decide ((c.toNat:Int)>57)=true/\((c.toNat:Int) !=45)=true/\((c.toNat:Int) !=95)=true):=by
 simp at h;by_cases h1:c.toNat<48
 ·by_cases h2:c.toNat=45
  ·exact .inl ⟨by simp[Ef,h2],by simp;omega,by simp;omega⟩
  ·exact .inr (.inl ⟨by simp[Ef,EJ];omega,by simp;omega,by simp;omega,by simp;omega⟩)
 ·by_cases h2:c.toNat<=57
  ·exact .inr (.inr (.inl ⟨by simp[Ef,EJ];omega,by simp;omega,by simp;omega⟩))
  ·by_cases h3:c.toNat=95
   ·exact .inr (.inr (.inr (.inl ⟨by simp[Ef,h3],by simp;omega,by simp;omega,by simp;omega,by simp;omega⟩)))
   ·exact .inr (.inr (.inr (.inr ⟨by simp[Ef,EJ];omega,by simp;omega,by simp;omega,by simp;omega,by simp;omega⟩)))
theorem FI{h:A0}{s:ByteArray}(hs:s.size<=9223372036854775807):A6 prog 94 [A2 s] h λr h'=>r= .sc (.bool (An s))/\h'=h:=by
 have hsl:s.data.toList.length=s.size:=by rw[FA];try rfl
 refine AE func94 ntmps94 results94 Ty.dx ?_;refine wt A3 ?_;refine Cd (λm S h'=>h'=h/\S 0=A2 s/\S 7= .sc (.int .i64 s.size)/\ ∃ k:Nat,S 8= .sc (.int .i64 k)/\k<=s.size/\m=s.size-k/\ ∀ (i:Nat)(c:UInt8),i<k->s.data.toList[i]? =some c->Fp i c=true) s.size ?_ ?_
 ·simp only[Ty.w,simprocAttr];exact⟨0,rfl,by omega,rfl,by omega⟩
 ·rintro m S h' ⟨rfl,g0,g7,k,g8,hk,rfl,hall⟩;by_cases hlt:k<s.size
  ·have hd:decide ((k:Int)<(s.size:Int))=true:=(by simp;omega);have w7:IntKind.i64.wrap ((k:Int)+1)=k+1:=(by rw[Br (by omega) (by omega)]);obtain⟨c,hx⟩: ∃ c,s.data.toList[k]? =some c:=⟨_,AU (by omega)⟩;have hr:s[k]? =some c:=(by rw[Pd];exact hx);have bad:Fp k c=false->An s=false:=λe=>(by simp[An,ef hx e]);have good:Fp k c=true-> ∃ m',m'<s.size-k/\ ∃ k':Nat,(k:Int)+1=k'/\k'<=s.size/\m'=s.size-k'/\ ∀ (i:Nat)(c:UInt8),i<k'->s.data.toList[i]? =some c->Fp i c=true:=λe=>by
    refine⟨s.size-(k+1),by omega,k+1,by simp,by omega,rfl,λi c2 hi hw=>?_⟩;by_cases hik:i=k
    ·subst hik;rw[hx]at hw;simp at hw;rw[← hw];exact e
    ·exact hall i c2 (by omega) hw
   clear hall;have fin1: ∀ {e:Bool},Fp k c=false->e=false->PV.sc (.bool e)= .sc (.bool (An s)):=λh1 h2=>(by rw[h2,bad h1]);rcases eg c with⟨l1,c1,c2⟩|⟨l1,c1⟩|⟨l1,m1,c1,c2,c3,c4,c5,c6⟩
   ·replace zz:=BO g0 g7 g8 hd hr w7 c1 c2;refine wt zz ?_;have:=good (by simp[Fp,l1]);simpa using this
   ·cases k0:((k:Int)==0)with
    |true=>
     have hk0:k=0:=(by simpa using k0);have hbad:=bad (by simp[Fp,l1,hk0]);replace zz:=BO g0 g7 g8 hd hr w7 c1 k0;refine wt zz ?_;rw[hbad]
    |false=>
     have hk0:k≠0:=(by simpa using k0);rcases ep c1 with⟨m1,c3,c5⟩|⟨m1,c3,c5,c6⟩|⟨m1,c3,c4⟩|⟨m1,c3,c4,c5,c6⟩|⟨m1,c3,c4,c5,c6⟩
     ·replace zz:=B7 g0 g7 g8 hd hr w7 c1 k0 c3 c5;refine wt zz ?_;have:=good (by simp[Fp,m1,hk0]);simpa using this
     ·have hbad:=bad (by simp[Fp,l1,m1]);replace zz:=E7 g0 g7 g8 hd hr w7 c1 k0 c3 c5 c6;refine wt zz ?_;rw[hbad]
     ·replace zz:=B7 g0 g7 g8 hd hr w7 c1 k0 c3 c4;refine wt zz ?_;have:=good (by simp[Fp,m1,hk0]);simpa using this
     ·replace zz:=AY g0 g7 g8 hd hr w7 c1 k0 c3 c4 c5 c6;refine wt zz ?_;have:=good (by simp[Fp,m1,hk0]);simpa using this
     ·have hbad:=bad (by simp[Fp,l1,m1]);replace zz:=AY g0 g7 g8 hd hr w7 c1 k0 c3 c4 c5 c6;refine wt zz ?_;rw[hbad]
   ·have hbad:=bad (by simp[Fp,l1,m1]);cases k0:((k:Int)==0)with
    |true=>
     replace zz:=BK g0 g7 g8 hd hr w7 c1 c2 k0;refine wt zz ?_;rw[hbad]
    |false=>
     replace zz:=AY g0 g7 g8 hd hr w7 c1 c2 k0 c3 c4 (uu c5 c6);refine wt zz ?_;rw[hbad]
  ·have hd:decide ((k:Int)<(s.size:Int))=false:=(by simp;omega);have hok:IB s.data.toList=true:=ee λj c hj=>hall j c (by have:=(BC.1 hj).1;omega) hj;clear hall;have hn:An s=(!(s.data.toList==(#[]:Array UInt8).toList)&&decide ((s.size:Int)<=32)&&!(HH.any λw=>A1 s w)):=by
    have e1:decide (0<s.size)=!(s.data.toList==(#[]:Array UInt8).toList):=by
     rw[← hsl];cases s.data.toList<;>simp
    have e2:decide ((s.size:Int)<=32)=decide (s.size<=32):=by
     exact YL.2 (by omega)
    simp only[An,hok,B8,e1,e2]
   cases b1:(s.data.toList==(#[]:Array UInt8).toList)with
   |true=>
    replace zz:=As g0 g7 g8 hd b1;refine wt zz ?_;rw[hn,b1];try rfl
   |false=>
    cases b2:decide ((s.size:Int)<=32)with
    |false=>
     replace zz:=Aq g0 g7 g8 hd b1 b2;refine wt zz ?_;rw[hn,b1,b2];try rfl
    |true=>
     replace zz:=Aq g0 g7 g8 hd b1 b2;refine wt zz ?_;have hwl:HH.length<=9223372036854775807:=(by rw[eW];omega);refine uU A3 (ed) ?_;refine uU (AV b1 b2 g0) (eZ (l:=HH) (s:=s) hwl) ?_;refine wt (AV g0 b1 b2) ?_;rw[hn,b1,b2];try rfl
theorem Lg{h:A0}{s:ByteArray}(hs:s.size<=9223372036854775807):A6 prog 95 [A2 s] h λr h'=>r= .sc (.bool (Eg s))/\h'=h:=by
 cases b1:decide ((s.size:Int)>1)with
 |false=>
  have:Eg s=false:=by simp at b1;simp[Eg];omega
  refine AE func95 ntmps95 results95 Ty.PN ?_;refine wt b1 ?_;rw[this]
 |true=>
  cases b2:decide ((s.size:Int)<=32)with
  |false=>
   have:Eg s=false:=(by simp at b2;simp[Eg];omega);refine AE func95 ntmps95 results95 Ty.PN ?_;refine wt (uu b1 b2) ?_;rw[this]
  |true=>
   simp at b1 b2;have hsl:s.data.toList.length=s.size:=(by rw[FA];try rfl);obtain⟨c,hx⟩: ∃ c,s.data.toList[0]? =some c:=⟨_,AU (by omega)⟩;have hr:s[0]? =some c:=(by rw[Pd];exact hx);have d1:decide ((s.size:Int)>1)=true:=(by simp;omega);have d2:decide ((s.size:Int)<=32)=true:=(by simp;omega);have q1:(1:Int)<=(s.size:Int):=(by omega);have hv:Eg s=(decide (c.toNat=63)&&An (s.extract 1 s.size)):=by
    have e1:decide (2<=s.size)=true:=(by simp;omega);have e2:decide (s.size<=32)=true:=(by simp;omega);simp only[Eg,e1,e2,hx,B8]
   cases b3:((c.toNat:Int)==63)with
   |false=>
    have:¬ c.toNat=63:=(by simp at b3;omega);refine AE func95 ntmps95 results95 Ty.PN ?_;replace zz:=Aa d1 d2 hr b3;refine wt zz ?_;rw[hv];simp[this]
   |true=>
    have:c.toNat=63:=(by simp at b3;omega);refine AE func95 ntmps95 results95 Ty.PN ?_;have hsz:(s.extract 1 s.size).size<=9223372036854775807:=(by simp;omega);replace zz:=Aq d1 d2 hr b3 q1 @CU;refine wt zz ?_;replace zz:=Aq d1 d2 hr b3 q1 @CU;refine uU zz (FI (s:=s.extract 1 s.size) hsz) ?_;refine wt (AV d1 d2 b3) ?_;rw[hv,this];try rfl
end Go.Proofs.YtblgchkahpgdjaaGreat
namespace Go.AM
inductive Sx where
 |mk(kind value line col:Int)(text:ByteArray)(kids:List Sx)
mutual
def Sx.cells:Sx->List PV
 | .mk kind value line col text kids=>[.sc (.int .i64 kind),.sc (.int .i64 value),.sc (.int .i64 line),.sc (.int .i64 col),A2 text,.imm 6 (Sx.rows kids)]
def Sx.rows:List Sx->List (List PV)
 |[]=>[]
 |k::ks=>k.cells::Sx.rows ks
end
theorem Sx.rows_map: ∀ l:List Sx,Sx.rows l=l.map Sx.cells
 |[]=>rfl
 |k::ks=>by simp[Sx.rows,Sx.rows_map ks]
theorem Sx.rows_len(l:List Sx):(Sx.rows l).length=l.length:=by simp[Sx.rows_map]
theorem Sx.rows_get{l:List Sx}{i:Nat}{k:Sx}(h:l[i]? =some k):(Sx.rows l)[i]? =some k.cells:=by simp[Sx.rows_map,h]
theorem Sx.ind{C:Sx->Prop}(hC: ∀ kind value line col text kids,(∀ k∈kids,C k)->C (.mk kind value line col text kids)): ∀ e,C e
 | .mk kind value line col text kids=>hC kind value line col text kids λk hk=>Sx.ind hC k
termination_by e=>SizeOf.sizeOf e
decreasing_by
 have:=YI hk;simp only[Sx.mk.sizeOf_spec];omega
mutual
def Sx.ok:Sx->Prop
 | .mk kind value line col text kids=>(-9223372036854775808<=kind/\kind<=9223372036854775807)/\(-9223372036854775808<=value/\value<=9223372036854775807)/\text.size<=AJ/\kids.length<=AJ/\Sx.oks kids
def Sx.oks:List Sx->Prop
 |[]=>True
 |k::ks=>k.ok/\Sx.oks ks
end
theorem Sx.oks_iff:{l:List Sx}->(Sx.oks l↔ ∀ k∈l,k.ok)
 |[]=>by simp[Sx.oks]
 |k::ks=>by simp[Sx.oks,Sx.oks_iff (l:=ks)]
end Go.AM
namespace Go.Proofs.YtblgchkahpgdjaaGreat
open Go.AM Go.Proofs.Tryz
def FY(c:UInt8):Bool:=decide (48<=c.toNat)&&decide (c.toNat<=57)
def Lh:List UInt8:=[45,95,63,58,60,62,61,43,42]
def wB(c:UInt8):Bool:=EJ c||FY c||Lh.contains c
def IC(c:UInt8):Bool:=decide (65<=c.toNat)&&decide (c.toNat<=90)
def ET(c:UInt8):Option UInt8:=if IC c then some (c+32)else if wB c then some c else none
def EK:List UInt8->Option (List UInt8)
 |[]=>some []
 |c::l=>match ET c with
  |some d=>(EK l).map (d::·)
  |none=>none
def Ew(s:ByteArray):ByteArray × Bool:=if 0<s.size/\s.size<=32 then(match EK s.data.toList with|some l=>(⟨l.toArray⟩,true)|none=>(⟨#[]⟩,false))else(⟨#[]⟩,false)
def GE(s:ByteArray):ByteArray:=match s.data.toList with
 |45::l=>⟨l.toArray⟩
 |_=>s
def KX(s:ByteArray):Bool:=(GE s).data.toList.all FY&&decide (0<(GE s).size)
def JG(s:ByteArray):Bool:=(Ew s).2&&A1 (Ew s).1 s&&!(KX (Ew s).1)
mutual
def CL:Sx->Nat->Nat->Bool × Nat
 | .mk kind value _ _ text kids,d,n=>
  if n+1>4096 then(false,n+1)
  else if kind=1 then(JG text&&decide (value=0)&&kids.isEmpty,n+1)
  else if kind=2 then(A1 text ⟨#[]⟩&&kids.isEmpty&&decide (-1099511627776<=value)&&decide (value<=1099511627776),n+1)
  else if kind=3 then(if A1 text ⟨#[]⟩=true/\value=0/\d≠32 then Gt kids (d+1) (n+1)else(false,n+1))
  else(false,n+1)
def Gt:List Sx->Nat->Nat->Bool × Nat
 |[],_,n=>(true,n)
 |k::ks,d,n=>match CL k d n with
  |(true,n')=>Gt ks d n'
  |(false,n')=>(false,n')
end
end Go.Proofs.YtblgchkahpgdjaaGreat
namespace Go.AM
def Pe:Value->Value->Bool
 | .int k a,.int k' b=>decide (k=k')&&decide (a=b)
 | .bool a,.bool b=>a==b
 | .string a,.string b=>decide (a.data.toList=b.data.toList)
 | .nilIface,.nilIface=>true
 | .pointer none,.pointer none=>true
 | .map none,.map none=>true
 | .slice none n m,.slice none n' m'=>decide (n=n')&&decide (m=m')
 | .func (.func f) a b,.func (.func f') a' b'=>decide (f=f')&&decide (a.size=0)&&decide (b.size=0)&&decide (a'.size=0)&&decide (b'.size=0)
 | .iface t v,.iface u x=>decide (t=u)&&Pe v x
 |_,_=>false
theorem eu(a b:Value)(h:Pe a b=true):a=b:=by
 fun_induction Pe a b
 case case3 a b=>
  obtain⟨⟨a⟩⟩:=a;obtain⟨⟨b⟩⟩:=b;simp at h;rw[h]
 case case8=>
  simp at h;obtain⟨⟨⟨⟨rfl,rfl⟩,rfl⟩,rfl⟩,rfl⟩:=h;rfl
 all_goals simp_all
mutual
def Gc:PV->PV->Bool
 | .sc v,.sc u=>Pe v u
 | .ptr a b c,.ptr a' b' c'=>decide (a=a')&&decide (b=b')&&decide (c=c')
 | .own a b c,.own a' b' c'=>decide (a=a')&&decide (b=b')&&decide (c=c')
 | .mp a,.mp b=>decide (a=b)
 | .emp,.emp=>true
 | .cptr l,.cptr l'=>JH l l'
 | .agg l,.agg l'=>JH l l'
 | .tup l,.tup l'=>JH l l'
 | .fn f a b,.fn f' a' b'=>decide (f=f')&&JH a a'&&JH b b'
 | .ab k a b c d,.ab k' a' b' c' d'=>decide (k=k')&&decide (a=a')&&decide (b=b')&&decide (c=c')&&decide (d=d')
 | .imm z r,.imm z' r'=>decide (z=z')&&O0 r r'
 |_,_=>false
def JH:List PV->List PV->Bool
 |[],[]=>true
 |a::l,b::l'=>Gc a b&&JH l l'
 |_,_=>false
def O0:List (List PV)->List (List PV)->Bool
 |[],[]=>true
 |a::l,b::l'=>JH a b&&O0 l l'
 |_,_=>false
end
mutual
theorem RS: ∀ (a b:PV),Gc a b=true->a=b
 | .sc v,b,h=>by cases b<;>simp[Gc]at h;rw[eu _ _ h]
 | .ptr a b c,x,h=>by cases x<;>simp[Gc]at h;obtain⟨⟨rfl,rfl⟩,rfl⟩:=h;rfl
 | .own a b c,x,h=>by cases x<;>simp[Gc]at h;obtain⟨⟨rfl,rfl⟩,rfl⟩:=h;rfl
 | .mp a,x,h=>by cases x<;>simp[Gc]at h;rw[h]
 | .emp,x,h=>by cases x<;>simp[Gc]at h;rfl
 | .cptr l,x,h=>by cases x<;>simp[Gc]at h;rw[Li _ _ h]
 | .agg l,x,h=>by cases x<;>simp[Gc]at h;rw[Li _ _ h]
 | .tup l,x,h=>by cases x<;>simp[Gc]at h;rw[Li _ _ h]
 | .imm z r,x,h=>by cases x<;>simp[Gc]at h;rw[h.1,Uz _ _ h.2]
 | .fn f a b,x,h=>by cases x<;>simp[Gc]at h;rw[h.1.1,Li _ _ h.1.2,Li _ _ h.2]
 | .ab k a b c d,x,h=>by cases x<;>simp[Gc]at h;obtain⟨⟨⟨⟨rfl,rfl⟩,rfl⟩,rfl⟩,rfl⟩:=h;rfl
theorem Li: ∀ (a b:List PV),JH a b=true->a=b
 |[],b,h=>by cases b<;>simp[JH]at h;rfl
 |x::l,b,h=>by cases b<;>simp[JH]at h;rw[RS _ _ h.1,Li _ _ h.2]
theorem Uz: ∀ (a b:List (List PV)),O0 a b=true->a=b
 |[],b,h=>by cases b<;>simp[O0]at h;rfl
 |x::l,b,h=>by cases b<;>simp[O0]at h;rw[Li _ _ h.1,Uz _ _ h.2]
end
abbrev O1:=FuncId->List PV->A0->Option (PV × Bool × A0)
section
variable (P:Program)(wf:FuncId->Bool)(own:FuncId->Nat->Bool)(Bb:FuncId->List PV->Option PV)
def RT(call:O1)(ow:Nat->Bool)(o:Oper)(ρ:Operand->PV)(h:A0):Option (PV × Bool × A0):=
 match callee ρ o.op with
 |some (f,args)=>call f args h
 |none=>match AT P (o.dst.any ow) o.op ρ h with
  |some (v,h')=>some (v,!(B0 ow wf o),h')
  |none=>none
def V0(call:O1)(ow:Nat->Bool)(o:Oper)(ρ:Operand->PV)(h:A0)(v:PV):Bool:=
 match RT P wf call ow o ρ h with
 |some (v',q,_)=>q&&Gc v' v
 |none=>false
def xl(call:O1)(ow:Nat->Bool)(n:Nat)(ops:List Oper):List Oper->A9->Bool->A0->Option (A9 × Bool × A0)
 |[],s,q,h=>some (s,q,h)
 | o :: rest, s, q, h => if o.dst.all (λd => decide (d < n)) = true then
   match CN ops s o with
   |none=>none
   |some false=>xl call ow n ops rest (AZ s o.dst (.sc undef)) q h
   |some true=>match RT P wf call ow o (A5 s) h with
    |some (v,q',h')=>xl call ow n ops rest (AZ s o.dst v) (q&&q') h'
    |none=>none
  else none
def xd(call:O1)(ow:Nat->Bool)(n:Nat)(ops:List Oper):Nat->List Oper->List (Nat × Oper × A9 × PV)->List (Nat × A0)->A9->Bool->A0->Option (A9 × Bool × A0)
 |_,[],_,_,s,q,h=>some (s,q,h)
 | k, o :: rest, past, hist, s, q, h => if o.dst.all (λd => decide (d < n)) = true then
   match CN ops s o with
   |none=>none
   |some false=>xd call ow n ops (k+1) rest past hist (AZ s o.dst (.sc undef)) q h
   |some true=>match RT P wf call ow o (A5 s) h with
    |none=>none
    |some (v,q',h')=>
     if B0 ow wf o=true then
      (if past.all (λx=>pre ops x.1 k||V0 P wf call ow x.2.1 (A5 x.2.2.1) h' x.2.2.2)=true then xd call ow n ops (k+1) rest past ((k,h)::hist) (AZ s o.dst v) (q&&q') h' else none)
     else if q'=true then
      (if hist.all (λx=>pre ops x.1 k||V0 P wf call ow o (A5 s) x.2 v)=true then xd call ow n ops (k+1) rest ((k,o,s,v)::past) hist (AZ s o.dst v) q h else none)
     else none
  else none
def xc(call:O1)(ow:Nat->Bool)(n:Nat):Nat->Code->A9->Bool->A0->Option (Exit × A9 × Bool × A0)
 |0,_,_,_,_=>none
 |k+1,c,s,q,h=>match c with
  | .skip=>some (.normal,s,q,h)
  | .region _ ops true=>if JB ow wf ops.toList=true then(xd P wf call ow n ops.toList 0 ops.toList [] [] s q h).map (Exit.normal,·)else none
  | .region _ ops false=>(xl P wf call ow n ops.toList ops.toList s q h).map (Exit.normal,·)
  | .seq a b=>match xc call ow n k a s q h with
   |some (.normal,s',q',h')=>xc call ow n k b s' q' h'
   |r=>r
  | .cond c x y=>match A5 s c with
   | .sc (.bool true)=>xc call ow n k x s q h
   | .sc (.bool false)=>xc call ow n k y s q h
   |_=>none
  | .block id c=>match xc call ow n k c s q h with
   |some (.exit id',s',q',h')=>some (if id'=id then .normal else .exit id',s',q',h')
   |r=>r
  | .loop c=>match xc call ow n k c s q h with
   |some (.normal,s',q',h')=>xc call ow n k (.loop c) s' q' h'
   |r=>r
  | .exit id=>some (.exit id,s,q,h)
  | .ret=>some (.ret,s,q,h)
  |_=>none
end
section
variable {P:Program}{wf:FuncId->Bool}{own:FuncId->Nat->Bool}
def ew(P:Program)(Bb:FuncId->List PV->Option PV):Prop:= ∀ f args r h,Bb f args=some r->A6 P f args h (λr' h'=>r'=r/\h'=h)
theorem ez{ow:Nat->Bool}{o:Oper}{ρ:Operand->PV}{h h':A0}{v:PV}(hw:B0 ow wf o=false)(hc:callee ρ o.op=none)(he:AT P (o.dst.any ow) o.op ρ h=some (v,h')):h'=h:=by
 obtain⟨dst,op,t,pos,after,guard⟩:=o;simp only at hc he hw;unfold AT at he;split at he<;>simp only[B0]at hw<;>(try(simp at hw;done));all_goals(repeat'(split at he))
 all_goals first
  |(simp[KJ,Dt]at he;done)
  |(simp[KJ,Dt]at he;grind)
  |skip
theorem Af.owp{ow:Nat->Bool}{o:Oper}{s:A9}{h h':A0}{v:PV}{K:A9->A0->Prop}(hd:Af P ow o (A5 s) h v h')(hK:K (AZ s o.dst v) h'):CQ P ow o K s h:=by
 unfold Af at hd;unfold AM.CQ;split at hd
 ·rename_i f args hc;exact hd.mono (λr h'' hr=>by rw[hr.1,hr.2];exact hK)
 ·rename_i hc;rw[hd];exact hK
theorem V1{f:FuncId}{fn:Func}(hf:P.funcs[f]? =some fn)(hname:(fn.name== "runtime.NumGoroutine")=false)(hb:fn.body.isNone=true)(hn:Extern.findNext fn=none)(he:Extern.find fn=some Extern.BytealgIndexByte.indexByte)(s:ByteArray)(c:Int)(h:A0):
  A6 P f [.sc (.string s),.sc (.int .u8 c)] h (λr h'=>r= .sc (.int .i64 (firstIdx s c.toNat.toUInt8))/\h'=h):=by
 intro β w vals sm hr
 match vals,hr.len,hr with
 |[x,y],_,hr=>
  simp only[AS,A8]at hr;obtain⟨rfl,rfl,_⟩:=hr;exact .inr ⟨_,w,by rw[run_callFunc_extern hf hname hb hn he];simp only[run_indexByte_string];rfl,_,h,β,_,rfl,⟨rfl,rfl⟩,sm,by simp only[AQ,A8],BM.refl⟩
end
end Go.AM
namespace Go.Proofs.YtblgchkahpgdjaaGreat
open Go.AM Go.Proofs.Tryz
set_option maxHeartbeats 2000000
set_option maxRecDepth 100000
def Bb(f:FuncId)(args:List PV):Option PV:=if f=190 then(match args with|[.sc (.string s),.sc (.int .u8 c)]=>some (.sc (.int .i64 (firstIdx s c.toNat.toUInt8)))|_=>none)else none
theorem KY:(Tryz.f190.name== "runtime.NumGoroutine")=false/\Tryz.f190.body.isNone=true/\Extern.findNext Tryz.f190=none/\Extern.find Tryz.f190=some Extern.BytealgIndexByte.indexByte:=
 ⟨by kernel_rfl,by kernel_rfl,by kernel_rfl,by kernel_rfl⟩
theorem fB:ew prog Bb:=by
 intro f args r h hr;unfold Bb at hr;split at hr
 ·rename_i hf;subst hf;split at hr
  ·simp only[Ak]at hr;subst hr;exact V1 func190 KY.1 KY.2.1 KY.2.2.1 KY.2.2.2 _ _ _
  ·simp at hr
 ·simp at hr
end Go.Proofs.YtblgchkahpgdjaaGreat
namespace Go.Proofs.YtblgchkahpgdjaaGreat
open Go.AM Go.Proofs.Tryz
set_option maxHeartbeats 2000000
set_option maxRecDepth 20000
theorem A6.quiet2{P:Program}{f:FuncId}{args:List PV}{h:A0}{v u:Value}(hb:Ai P f=true)(hc:A6 P f args h λr h'=>r= .tup [.sc v,.sc u]/\AC h h'):A6 P f args h λr h'=>r= .tup [.sc v,.sc u]/\h'=h:=by
 refine Ig hb λhw=>A6.drop (hc.mono ?_);rintro r h' ⟨rfl,g⟩;refine⟨.tup [.sc v,.sc u],h,⟨rfl,rfl⟩,by simp only[AF,AL];exact⟨_,rfl,rfl,rfl,trivial⟩,AD _,λid o ho=>?_⟩;have hid:=hw id (by rw[ho];try rfl);exact⟨by rw[g.old id hid];exact ho,hid,.inl ho⟩
theorem Ii{h:A0}{c:UInt8}:A6 prog 163 [.sc (.int .u8 c.toNat)] h λr h'=>r= .sc (.bool (FY c))/\h'=h:=by
 cases b1:decide ((c.toNat:Int)>=48)with
 |false=>
  have:FY c=false:=by simp at b1;simp[FY];omega
  refine AE func163 ntmps163 results163 Ty.Ul ?_;refine wt b1 ?_;rw[this]
 |true=>
  have:FY c=decide ((c.toNat:Int)<=57):=by
   simp at b1;have e1:decide (48<=c.toNat)=true:=(by simp;omega);simp only[FY,e1,B8];exact YL.2 (by omega)
  refine AE func163 ntmps163 results163 Ty.Ul ?_;refine wt b1 ?_;rw[this]
theorem Me(s:ByteArray)(c:UInt8):decide (firstIdx s c>=0)=s.data.toList.contains c:=by
 unfold firstIdx;have hsl:s.data.toList.length=s.size:=by rw[FA];try rfl
 have hget: ∀ i,i<s.size->s[i]! =s.data.toList[i]!:=by
  intro i hi;have h1:s[i]? =s.data.toList[i]?:=Pd s i;rw[getElem!_def,getElem!_def,h1]
 cases hf:(List.range s.size).find? λi=>s[i]! ==c with
 |none=>
  rw[List.find?_eq_none]at hf;have:s.data.toList.contains c=false:=by
   rw[Bool.eq_false_iff];intro hc;rw[NF]at hc;obtain⟨i,hi,he⟩:=List.getElem_of_mem hc;have h2:=hf i (by simp;omega);rw[hget i (by omega),getElem!_pos s.data.toList i hi,he]at h2;simp at h2
  rw[this];try rfl
 |some i=>
  have h1:=List.find?_some hf;have h2:=List.mem_of_find?_eq_some hf;simp at h2;have:s.data.toList.contains c=true:=by
   rw[NF];rw[hget i h2]at h1;rw[getElem!_pos s.data.toList i (by omega)]at h1;have:=Dv.1 h1;rw[← this];exact QV _
  rw[this];simp
theorem Mf{h:A0}{s:ByteArray}{c:UInt8}:A6 prog 164 [A2 s,.sc (.int .u8 c.toNat)] h λr h'=>r= .sc (.int .i64 (firstIdx s c))/\h'=h:=by
 have hx:A6 prog 190 [A2 s,.sc (.int .u8 c.toNat)] h λr h'=>r= .sc (.int .i64 (firstIdx s c))/\h'=h:=by
  have:=V1 (P:=prog) func190 KY.1 KY.2.1 KY.2.2.1 KY.2.2.2 s c.toNat h;simpa using this
 have hy:A6 prog 176 [A2 s,.sc (.int .u8 c.toNat)] h λr h'=>r= .sc (.int .i64 (firstIdx s c))/\h'=h:=by
  refine AE func176 ntmps176 results176 Ty.eI ?_;refine wt A3 ?_;refine uU A3 (hx) ?_;exact wz A3
 refine AE func164 ntmps164 results164 Ty.eF ?_;refine wt A3 ?_;refine uU A3 (hy) ?_;exact wz A3
theorem RU{a b:ByteArray}(h:a.data.toList=b.data.toList):a=b:=by
 obtain⟨⟨a⟩⟩:=a;obtain⟨⟨b⟩⟩:=b;simp at h;rw[h]
theorem V3{h:A0}{s:ByteArray}:A6 prog 191 [A2 s,A2 ⟨#[45]⟩] h λr h'=>r= .sc (.bool (match s.data.toList with|45::_=>true|_=>false))/\h'=h:=by
 have hsl:s.data.toList.length=s.size:=by rw[FA];try rfl
 have h1:(ByteArray.mk #[45]).size=1:=rfl;cases b1:decide ((s.size:Int)>=1)with
 |false=>
  have:(match s.data.toList with|45::_=>true|_=>false)=false:=by
   simp at b1;have:s.data.toList=[]:=GT (by omega);rw[this]
  refine AE func191 ntmps191 results191 Ty.Uu ?_;repeat'(first|refine Ae λK hK=>?_|((first|refine BZ ?_|refine ES ?_);simp only[Ty.w,simprocAttr,h1,TE,b1])|(refine hK _ _ ?_;clear hK;(try simp only[Ao,simprocAttr])))
  rw[this]
 |true=>
  have b1':=b1;simp at b1';have q1:(1:Int)<=(s.size:Int):=by omega
  have:(match s.data.toList with|45::_=>true|_=>false)=((s.extract 0 1).data.toList==(#[45]:Array UInt8).toList):=by
   have he:(s.extract 0 1).data.toList=s.data.toList.take 1:=(by simp);rw[he];cases hl:s.data.toList with
   |nil=>rw[hl]at hsl;simp at hsl;omega
   |cons c l=>
    simp only[LC,KL];by_cases hc:c=45
    ·subst hc;rfl
    ·have:([c]==(#[45]:Array UInt8).toList)=false:=(by simp[hc]);rw[this];split
     ·rename_i heq;simp at heq;exact absurd heq.1 hc
     ·rfl
  refine AE func191 ntmps191 results191 Ty.Uu ?_;repeat'(first|refine Ae λK hK=>?_|((first|refine BZ ?_|refine ES ?_);simp only[Ty.w,simprocAttr,h1,TE,b1,q1,B6,Bf,CU,CV,Int.toNat_zero])|(refine hK _ _ ?_;clear hK;(try simp only[Ao,simprocAttr])))
  rw[this]
theorem fC{h:A0}{s:ByteArray}:A6 prog 165 [A2 s,A2 ⟨#[45]⟩] h λr h'=>r=A2 (GE s)/\h'=h:=by
 have hsl:s.data.toList.length=s.size:=by rw[FA];try rfl
 have h1:(ByteArray.mk #[45]).size=1:=rfl;have hy:A6 prog 177 [A2 s,A2 ⟨#[45]⟩] h λr h'=>r=A2 (GE s)/\h'=h:=by
  cases b1:(match s.data.toList with|45::_=>true|_=>false)with
  |false=>
   have:GE s=s:=by
    unfold GE;split
    ·rename_i heq;rw[heq]at b1;simp at b1
    ·rfl
   refine AE func177 ntmps177 results177 Ty.Up ?_;refine wt A3 ?_;refine uU b1 (V3 (s:=s)) ?_;refine wt b1 ?_;rw[this]
  |true=>
   have hq: ∃ l,s.data.toList=45::l:=by
    split at b1
    ·rename_i l heq;exact⟨l,heq⟩
    ·simp at b1
   obtain⟨l,hl⟩:=hq;have q1:(1:Int)<=(s.size:Int):=(by rw[hl]at hsl;simp at hsl;omega);have:GE s=s.extract 1 s.size:=by
    unfold GE;rw[hl];refine RU ?_;have hl2:=hsl;rw[hl]at hl2;simp at hl2;simp only[mI,Array.toList_extract,mB,hl];rw[GW,CB,DQ (by omega)]
   refine AE func177 ntmps177 results177 Ty.Up ?_;refine wt A3 ?_;refine uU b1 (V3 (s:=s)) ?_;(repeat'(first|refine cK ?_|(refine nK ?_;try exact zI)|refine Ae λK hK=>?_|((first|refine BZ ?_|refine ES ?_);simp only[Ty.w,simprocAttr,b1,h1,TE,q1,B6,Bf,CU,CV])|(refine hK _ _ ?_;clear hK;(try simp only[Ao,simprocAttr]))));rw[this]
 refine AE func165 ntmps165 results165 Ty.eG ?_;refine wt A3 ?_;refine uU A3 (hy) ?_;exact wz A3
theorem RV{h:A0}{s:ByteArray}(hs:s.size<=AJ):A6 prog 143 [A2 s] h λr h'=>r= .sc (.bool (KX s))/\h'=h:=by
 have htl:(GE s).data.toList.length=(GE s).size:=by rw[FA];try rfl
 have hts:(GE s).size<=AJ:=by
  have hsl:s.data.toList.length=s.size:=by rw[FA];try rfl
  unfold GE;split
  ·rename_i l heq;rw[heq]at hsl;have:(ByteArray.mk l.toArray).size=l.length:=(by simp[ByteArray.size]);simp at hsl;omega
  ·exact hs
 unfold AJ at hts;have hN:KX s=((GE s).data.toList.all FY&&decide (0<(GE s).size)):=rfl;have ht:A6 prog 165 [A2 s,A2 ⟨#[45]⟩] h λr h'=>r=A2 (GE s)/\h'=h:=fC;generalize GE s=u at htl hts hN ht;rw[hN]
 clear hN;refine AE func143 ntmps143 results143 Ty.eD ?_;refine wt A3 ?_;refine uU A3 (ht) ?_;refine wt A3 ?_;refine Cd (λm S h'=>h'=h/\S 0=A2 u/\S 7= .sc (.int .i64 u.size)/\ ∃ k:Nat,S 8= .sc (.int .i64 k)/\k<=u.size/\m=u.size-k/\ ∀ (i:Nat)(c:UInt8),i<k->u.data.toList[i]? =some c->FY c=true) u.size ?_ ?_
 ·simp only[Ty.w,simprocAttr];exact⟨0,rfl,by omega,rfl,by omega⟩
 ·rintro m S h' ⟨rfl,g0,g7,k,g8,hk,rfl,hall⟩;by_cases hlt:k<u.size
  ·have hd:decide ((k:Int)<(u.size:Int))=true:=(by simp;omega);have w7:IntKind.i64.wrap ((k:Int)+1)=k+1:=(by rw[Br (by omega) (by omega)]);obtain⟨c,hx⟩: ∃ c,u.data.toList[k]? =some c:=⟨_,AU (by omega)⟩;have hr:u[k]? =some c:=(by rw[Pd];exact hx);cases hg:FY c with
   |false=>
    have:u.data.toList.all FY=false:=(by rw[YK];exact⟨c,C7 hx,by simp[hg]⟩);replace zz:=As g0 g7 g8 hd hr;refine wt zz ?_;replace zz:=Aq g0 g7 g8 hd hr hg;refine uU zz (Ii (c:=c)) ?_;refine wt (uu hg yF) ?_;rw[this];try rfl
   |true=>
    replace zz:=As g0 g7 g8 hd hr;refine wt zz ?_;replace zz:=Aq g0 g7 g8 hd hr hg;refine uU zz (Ii (c:=c)) ?_;replace zz:=Aq g0 g7 g8 hg w7 yT;refine wt zz ?_;refine⟨u.size-(k+1),by omega,k+1,by simp,by omega,rfl,λi c2 hi hw=>?_⟩;by_cases hik:i=k
    ·subst hik;rw[hx]at hw;simp at hw;rw[← hw];exact hg
    ·exact hall i c2 (by omega) hw
  ·have hd:decide ((k:Int)<(u.size:Int))=false:=(by simp;omega);have hok:u.data.toList.all FY=true:=by
    rw[Bq];intro c hc;obtain⟨i,hi⟩:=MF hc;exact hall i c (by have:=(BC.1 hi).1;omega) hi
   have e1:decide (0<u.size)=!(u.data.toList==(#[]:Array UInt8).toList):=by
    rw[← htl];cases u.data.toList<;>simp
   clear hall;replace zz:=Aa g0 g7 g8 hd;refine wt zz ?_;rw[hok,e1];try rfl
end Go.Proofs.YtblgchkahpgdjaaGreat
namespace Go.Proofs.YtblgchkahpgdjaaGreat
open Go.AM Go.Proofs.Tryz
set_option maxHeartbeats 2000000
set_option maxRecDepth 20000
theorem fD{l:List UInt8}{k:Nat}{c:UInt8}(h:l[k]? =some c)(hc:ET c=none):EK l=none:=by
 induction l generalizing k with
 |nil=>simp at h
 |cons d l ih=>
  simp only[EK];cases k with
  |zero=>simp at h;subst h;rw[hc]
  |succ k=>
   simp at h;rw[ih h];cases ET d<;>simp
theorem V4{l p:List UInt8}{k:Nat}{c d:UInt8}(h:l[k]? =some c)(hc:ET c=some d)(hp:EK (l.take k)=some p):EK (l.take (k+1))=some (p++[d]):=by
 induction l generalizing k p with
 |nil=>simp at h
 |cons e l ih=>
  cases k with
  |zero=>simp at h;subst h;simp[EK]at hp;subst hp;simp[EK,hc]
  |succ k=>
   simp at h;simp only[LC,EK]at hp⊢;cases he:ET e with
   |none=>simp[he]at hp
   |some e'=>
    rw[he]at hp;cases hq:EK (l.take k)with
    |none=>simp[hq]at hp
    |some p'=>
     simp[hq]at hp;subst hp;rw[ih h hq];simp
theorem Pf{l p:List UInt8}(h:EK l=some p):p.length=l.length:=by
 induction l generalizing p with
 |nil=>simp[EK]at h;subst h;rfl
 |cons e l ih=>
  simp only[EK]at h;split at h
  ·cases hq:EK l with
   |none=>simp[hq]at h
   |some p'=>simp[hq]at h;subst h;simp[ih hq]
  ·simp at h
theorem V5(l:List UInt8):(EG l).length=l.length:=by simp[EG]
theorem fE{l:List UInt8}{k:Nat}{c:UInt8}(h:l[k]? =some c):(EG l)[k]? =some [.sc (.int .u8 c.toNat)]:=by simp[EG,h]
theorem fF(l:List UInt8)(k:Nat)(c:UInt8):(EG l).set k [.sc (.int .u8 c.toNat)]=EG (l.set k c):=by simp[EG,List.map_set]
structure Lj(h:A0)(l:List UInt8)(k:Nat)(h':A0):Prop where
 grow:AC h h'
 ex: ∃ p,EK (l.take k)=some p/\h'.obj h.next=some (.arr 1 (EG (p++l.drop k)))
theorem Lj.keep{h h':A0}{l:List UInt8}{k:Nat}{c:UInt8}(i:Lj h l k h')(hc:l[k]? =some c)(hl:ET c=some c):Lj h l (k+1) h':=by
 obtain⟨p,hp,ho⟩:=i.ex;refine⟨i.grow,p++[c],V4 hc hl hp,?_⟩;rw[ho];obtain⟨hk,rfl⟩:=BC.1 hc;rw[MK hk];simp
theorem Lj.put{h h':A0}{l:List UInt8}{k:Nat}{c d:UInt8}{rows:List (List PV)}(i:Lj h l k h')(hc:l[k]? =some c)(hl:ET c=some d)(hr:h'.obj h.next=some (.arr 1 rows)):
  Lj h l (k+1) (h'.set h.next (.arr 1 (rows.set k [.sc (.int .u8 d.toNat)]))):=by
 obtain⟨p,hp,ho⟩:=i.ex;refine⟨i.grow.set (AD _) _,p++[d],V4 hc hl hp,?_⟩;rw[ho]at hr;simp at hr;subst hr;have hpl:=Pf hp;obtain⟨hk,rfl⟩:=BC.1 hc;simp only[A0.set,AH,fF];rw[HX]at hpl;rw[NH _ _ (by omega),MK hk,show k-p.length=0 by omega,Y8];simp
theorem V6(x:Int)(h0:0<=x)(h1:x<256):IntKind.u8.wrap x=x:=by
 unfold IntKind.wrap;simp[IntKind.signed,IntKind.bits];omega
theorem fG(c:UInt8):
  (IC c=false/\EJ c=false/\decide ((c.toNat:Int)>=65)=false/\decide ((c.toNat:Int)>=97)=false)\/
  (IC c=true/\decide ((c.toNat:Int)>=65)=true/\decide ((c.toNat:Int)<=90)=true)\/
  (IC c=false/\EJ c=false/\decide ((c.toNat:Int)>=65)=true/\decide ((c.toNat:Int)<=90)=false/\decide ((c.toNat:Int)>=97)=false)\/
  (IC c=false/\EJ c=true/\decide ((c.toNat:Int)>=65)=true/\decide ((c.toNat:Int)<=90)=false/\decide ((c.toNat:Int)>=97)=true/\decide ((c.toNat:Int)<=122)=true)\/
  (IC c=false/\EJ c=false/\decide ((c.toNat:Int)>=65)=true/\decide ((c.toNat:Int)<=90)=false/\decide ((c.toNat:Int)>=97)=true/\decide ((c.toNat:Int)<=122)=false):=by
 simp only[IC,EJ,AR,mH,BP,Cv];omega
theorem fH{h:A0}{s:ByteArray}:A6 prog 142 [A2 s] h λr h'=>r= .tup [A2 (Ew s).1,.sc (.bool (Ew s).2)]/\h'=h:=by
 have hsl:s.data.toList.length=s.size:=by rw[FA];try rfl
 refine A6.quiet2 Ty.PX ?_;cases b1:(s.data.toList==(#[]:Array UInt8).toList)with
 |true=>
  have:Ew s=(⟨#[]⟩,false):=by
   unfold Ew;rw[A4];have:s.data.toList=[]:=(by simpa using b1);rw[this]at hsl;simp at hsl;omega
  refine AE func142 ntmps142 results142 Ty.PX ?_;refine wt b1 ?_;rw[this];exact⟨rfl,AC.refl _⟩
 |false=>
  have hpos:0<s.size:=by
   rcases Nat.eq_zero_or_pos s.size with h0|h0
   ·rw [h0]at hsl;have:=GT hsl;rw[this]at b1;simp at b1
   ·exact h0
  cases b2:decide ((s.size:Int)>32)with
  |true=>
   have:Ew s=(⟨#[]⟩,false):=by
    unfold Ew;rw[A4];simp at b2;omega
   refine AE func142 ntmps142 results142 Ty.PX ?_;refine wt (uu b1 b2) ?_;rw[this];exact⟨rfl,AC.refl _⟩
  |false=>
   have h32:s.size<=32:=(by simp at b2;omega);have hsz:s.size<=140737488355328:=(by omega);have hS:Ew s=(match EK s.data.toList with|some l=>(⟨l.toArray⟩,true)|none=>(⟨#[]⟩,false)):=(by unfold Ew;rw[AG ⟨hpos,h32⟩];try rfl);refine uG (ow:=λt=>t==15) (wf:=λ_=>false) func142 ntmps142 results142 Ty.PX ?_;refine wt (AV b1 b2 hsz) ?_;refine Cd (λm S h'=>S 4= .own h.next 0 s.data.toList.length/\S 16= .own h.next 0 s.data.toList.length/\S 17= .sc (.int .i64 s.data.toList.length)/\ ∃ k:Nat,S 18= .sc (.int .i64 k)/\k<=s.data.toList.length/\m=s.data.toList.length-k/\Lj h s.data.toList k h') s.data.toList.length ?_ ?_
   ·simp only[Ty.w,simprocAttr];refine⟨0,rfl,by omega,rfl,(AC.refl h).new _,[],rfl,?_⟩;simp[A0.new]
   ·rintro m S h' ⟨g4,g16,g17,k,g18,hk,rfl,hI⟩;by_cases hlt:k<s.data.toList.length
    ·have hd:decide ((k:Int)<(s.data.toList.length:Int))=true:=(by simp;omega);have w7:IntKind.i64.wrap ((k:Int)+1)=k+1:=(by rw[Br (by omega) (by omega)]);obtain⟨c,hx⟩: ∃ c,s.data.toList[k]? =some c:=⟨_,AU hlt⟩;obtain⟨p,hp,ho⟩:=hI.ex;have hpl:=Pf hp;rw[HX]at hpl;have hgr:=hI.grow;have hlen:(EG (p++s.data.toList.drop k)).length=s.data.toList.length:=(by rw[V5,DZ,KC];omega);have hr:(EG (p++s.data.toList.drop k))[k]? =some [.sc (.int .u8 c.toNat)]:=by
      refine fE ?_;rw[L5 (by omega),KB,show k+(k-p.length)=k by omega];exact hx
     have bad:ET c=none->PV.tup [.sc (.string ⟨#[]⟩),.sc (.bool false)]= .tup [A2 (Ew s).1,.sc (.bool (Ew s).2)]:=λe=>(by rw[hS,fD hx e]);generalize hrows:EG (p++s.data.toList.drop k)=rows at ho hlen hr;have hho:=ho;rcases fG c with⟨hup,hlet,a1,a3⟩|⟨hup,a1,a2⟩|⟨hup,hlet,a1,a2,a3⟩|⟨hup,hlet,a1,a2,a3,a4⟩|⟨hup,hlet,a1,a2,a3,a4⟩
     ·cases hg:FY c with
      |true=>
       have hw:wB c=true:=(by simp[wB,hg]);replace zz:=AY g4 g16 g17 g18 hd hho hlen hr hlt @Be a1 a3;refine wt zz ?_;replace zz:=AY g4 g16 g17 g18 hd hho hlen hr hlt @Be a1 (uu a3 hg);refine uU zz (Ii (c:=c)) ?_;replace zz:=AY g4 g16 g17 g18 hd hho hlen hr hlt @Be a1 (AV a3 hg w7);refine wt zz ?_;exact⟨s.data.toList.length-(k+1),by omega,k+1,by simp,by omega,rfl,hI.keep hx (by simp[ET,hup,hw])⟩
      |false=>
       cases hs2:Lh.contains c with
       |true=>
        have hw:wB c=true:=(by simp only[wB,hs2,TB]);have hfi:decide (firstIdx ⟨#[45,95,63,58,60,62,61,43,42]⟩ c>=0)=true:=(by rw[Me];exact hs2);replace zz:=AY g4 g16 g17 g18 hd hho hlen hr hlt @Be a1 a3;refine wt zz ?_;replace zz:=AY g4 g16 g17 g18 hd hho hlen hr hlt @Be a1 (uu a3 hg);refine uU zz (Ii (c:=c)) ?_;refine wt zz ?_;replace zz:=AY g4 g16 g17 g18 hd hho hlen hr hlt @Be a1 (AV a3 hg hfi);refine uU zz (Mf (s:=⟨#[45,95,63,58,60,62,61,43,42]⟩) (c:=c)) ?_;replace zz:=AY g4 g16 g17 g18 hd hho hlen hr hlt @Be a1 (Aa a3 hg hfi w7);refine wt zz ?_;exact⟨s.data.toList.length-(k+1),by omega,k+1,by simp,by omega,rfl,hI.keep hx (by simp[ET,hup,hw])⟩
       |false=>
        have hw:wB c=false:=(by simp only[wB,hs2,hg,hlet,GU]);have hfi:decide (firstIdx ⟨#[45,95,63,58,60,62,61,43,42]⟩ c>=0)=false:=(by rw[Me];exact hs2);replace zz:=AY g4 g16 g17 g18 hd hho hlen hr hlt @Be a1 a3;refine wt zz ?_;replace zz:=AY g4 g16 g17 g18 hd hho hlen hr hlt @Be a1 (uu a3 hg);refine uU zz (Ii (c:=c)) ?_;refine wt zz ?_;replace zz:=AY g4 g16 g17 g18 hd hho hlen hr hlt @Be a1 (AV a3 hg hfi);refine uU zz (Mf (s:=⟨#[45,95,63,58,60,62,61,43,42]⟩) (c:=c)) ?_;refine wt zz ?_;exact⟨bad (by simp[ET,hup,hw]),hgr⟩
     ·have hu:65<=c.toNat/\c.toNat<=90:=(by simpa[IC]using hup);have hadd:(c+32).toNat=c.toNat+32:=(by rw[UInt8.toNat_add];simp;omega);have w1:IntKind.u8.wrap ((c.toNat:Int)+97)=(c.toNat:Int)+97:=V6 _ (by omega) (by omega);have w2:IntKind.u8.wrap ((c.toNat:Int)+97-65)=((c+32).toNat:Int):=(by rw[V6 _ (by omega) (by omega),hadd];omega);replace zz:=AY g4 g16 g17 g18 hd hho hlen hr hlt a1 a2 (Aa w1 w2 w7 @Be);refine wt zz ?_;exact⟨s.data.toList.length-(k+1),by omega,k+1,by simp,by omega,rfl,hI.put hx (by simp[ET,hup]) ho⟩
     ·cases hg:FY c with
      |true=>
       have hw:wB c=true:=(by simp[wB,hg]);replace zz:=AY g4 g16 g17 g18 hd hho hlen hr hlt @Be a1 (uu a2 a3);refine wt zz ?_;replace zz:=AY g4 g16 g17 g18 hd hho hlen hr hlt @Be a1 (AV a2 a3 hg);refine uU zz (Ii (c:=c)) ?_;replace zz:=AY g4 g16 g17 g18 hd hho hlen hr hlt @Be a1 (Aa a2 a3 hg w7);refine wt zz ?_;exact⟨s.data.toList.length-(k+1),by omega,k+1,by simp,by omega,rfl,hI.keep hx (by simp[ET,hup,hw])⟩
      |false=>
       cases hs2:Lh.contains c with
       |true=>
        have hw:wB c=true:=(by simp only[wB,hs2,TB]);have hfi:decide (firstIdx ⟨#[45,95,63,58,60,62,61,43,42]⟩ c>=0)=true:=(by rw[Me];exact hs2);replace zz:=AY g4 g16 g17 g18 hd hho hlen hr hlt @Be a1 (uu a2 a3);refine wt zz ?_;replace zz:=AY g4 g16 g17 g18 hd hho hlen hr hlt @Be a1 (AV a2 a3 hg);refine uU zz (Ii (c:=c)) ?_;refine wt zz ?_;replace zz:=AY g4 g16 g17 g18 hd hho hlen hr hlt @Be a1 (Aa a2 a3 hg hfi);refine uU zz (Mf (s:=⟨#[45,95,63,58,60,62,61,43,42]⟩) (c:=c)) ?_;replace zz:=AY g4 g16 g17 g18 hd hho hlen hr hlt @Be a1 (As a2 a3 hg hfi w7);refine wt zz ?_;exact⟨s.data.toList.length-(k+1),by omega,k+1,by simp,by omega,rfl,hI.keep hx (by simp[ET,hup,hw])⟩
       |false=>
        have hw:wB c=false:=(by simp only[wB,hs2,hg,hlet,GU]);have hfi:decide (firstIdx ⟨#[45,95,63,58,60,62,61,43,42]⟩ c>=0)=false:=(by rw[Me];exact hs2);replace zz:=AY g4 g16 g17 g18 hd hho hlen hr hlt @Be a1 (uu a2 a3);refine wt zz ?_;replace zz:=AY g4 g16 g17 g18 hd hho hlen hr hlt @Be a1 (AV a2 a3 hg);refine uU zz (Ii (c:=c)) ?_;refine wt zz ?_;replace zz:=AY g4 g16 g17 g18 hd hho hlen hr hlt @Be a1 (Aa a2 a3 hg hfi);refine uU zz (Mf (s:=⟨#[45,95,63,58,60,62,61,43,42]⟩) (c:=c)) ?_;refine wt zz ?_;exact⟨bad (by simp[ET,hup,hw]),hgr⟩
     ·replace zz:=AY g4 g16 g17 g18 hd hho hlen hr hlt a1 a2 (Aa a3 a4 w7 @Be);refine wt zz ?_;exact⟨s.data.toList.length-(k+1),by omega,k+1,by simp,by omega,rfl,hI.keep hx (by simp[ET,hup,wB,hlet])⟩
     ·cases hg:FY c with
      |true=>
       have hw:wB c=true:=(by simp[wB,hg]);replace zz:=AY g4 g16 g17 g18 hd hho hlen hr hlt @Be a1 (AV a2 a3 a4);refine wt zz ?_;replace zz:=AY g4 g16 g17 g18 hd hho hlen hr hlt @Be a1 (Aa a2 a3 a4 hg);refine uU zz (Ii (c:=c)) ?_;replace zz:=AY g4 g16 g17 g18 hd hho hlen hr hlt @Be a1 (As a2 a3 a4 hg w7);refine wt zz ?_;exact⟨s.data.toList.length-(k+1),by omega,k+1,by simp,by omega,rfl,hI.keep hx (by simp[ET,hup,hw])⟩
      |false=>
       cases hs2:Lh.contains c with
       |true=>
        have hw:wB c=true:=(by simp only[wB,hs2,TB]);have hfi:decide (firstIdx ⟨#[45,95,63,58,60,62,61,43,42]⟩ c>=0)=true:=(by rw[Me];exact hs2);replace zz:=AY g4 g16 g17 g18 hd hho hlen hr hlt @Be a1 (AV a2 a3 a4);refine wt zz ?_;replace zz:=AY g4 g16 g17 g18 hd hho hlen hr hlt @Be a1 (Aa a2 a3 a4 hg);refine uU zz (Ii (c:=c)) ?_;refine wt zz ?_;replace zz:=AY g4 g16 g17 g18 hd hho hlen hr hlt @Be a1 (As a2 a3 a4 hg hfi);refine uU zz (Mf (s:=⟨#[45,95,63,58,60,62,61,43,42]⟩) (c:=c)) ?_;replace zz:=AY g4 g16 g17 g18 hd hho hlen hr hlt @Be a1 (Aq a2 a3 a4 hg hfi w7);refine wt zz ?_;exact⟨s.data.toList.length-(k+1),by omega,k+1,by simp,by omega,rfl,hI.keep hx (by simp[ET,hup,hw])⟩
       |false=>
        have hw:wB c=false:=(by simp only[wB,hs2,hg,hlet,GU]);have hfi:decide (firstIdx ⟨#[45,95,63,58,60,62,61,43,42]⟩ c>=0)=false:=(by rw[Me];exact hs2);replace zz:=AY g4 g16 g17 g18 hd hho hlen hr hlt @Be a1 (AV a2 a3 a4);refine wt zz ?_;replace zz:=AY g4 g16 g17 g18 hd hho hlen hr hlt @Be a1 (Aa a2 a3 a4 hg);refine uU zz (Ii (c:=c)) ?_;refine wt zz ?_;replace zz:=AY g4 g16 g17 g18 hd hho hlen hr hlt @Be a1 (As a2 a3 a4 hg hfi);refine uU zz (Mf (s:=⟨#[45,95,63,58,60,62,61,43,42]⟩) (c:=c)) ?_;refine wt zz ?_;exact⟨bad (by simp[ET,hup,hw]),hgr⟩
    ·have hd:decide ((k:Int)<(s.data.toList.length:Int))=false:=(by simp;omega);have hke:k=s.data.toList.length:=(by omega);subst hke;obtain⟨p,hp,ho⟩:=hI.ex;rw[J7]at hp;rw[ML,J5]at ho;have hpl:=Pf hp;have hlen:(EG p).length=s.data.toList.length:=(by rw[V5];exact hpl);have htk:List.take s.data.toList.length (EG p)=EG p:=(by rw[DQ (by omega)]);have hbr:=YQ p;replace zz:=B7 g4 g16 g17 g18 hd ho hlen htk hbr @Be;(repeat'(first|refine cK ?_|refine nK ?_|refine Ae λK hK=>?_|refine uR zz ?_|refine uT zz ?_|refine uX ?_|refine Bo zz ?_|(refine uN hK ?_;clear hK)|(clear hK;refine uN hK ?_;clear hK)|(rw[AG];rotate_left 1;omega;simp only[Ty.w,simprocAttr,g4,g16,g17,g18,hd,ho,hlen,htk,hbr,Be])|apply zI));rw[hS,hp];exact⟨rfl,hI.grow⟩
end Go.Proofs.YtblgchkahpgdjaaGreat
namespace Go.Proofs.YtblgchkahpgdjaaGreat
open Go.AM Go.Proofs.Tryz
set_option maxHeartbeats 2000000
set_option maxRecDepth 20000
theorem Cm{α:Type}{l:List α}{k:Nat}{a:α}(h:l[k]? =some a):l.drop k=a::l.drop (k+1):=by
 obtain⟨hl,rfl⟩:=BC.1 h;exact MK hl
theorem V7: ∀ {l m:List ByteArray},¬ l.length=m.length->Ee l m=false
 |[],[],h=>by simp at h
 |[],_::_,_=>rfl
 |_::_,[],_=>rfl
 |a::l,b::m,h=>by simp only[Ee,V7 (l:=l) (m:=m) (by simpa using h),BD]
theorem V8: ∀ {l m:List Pm},¬ l.length=m.length->DL l m=false
 |[],[],h=>by simp at h
 |[],_::_,_=>rfl
 |_::_,[],_=>rfl
 |a::l,b::m,h=>by simp only[DL,V8 (l:=l) (m:=m) (by simpa using h),BD]
theorem O2{h:A0}{l m:List ByteArray}(hl:l.length<=AJ)(hm:m.length<=AJ):A6 prog 137 [.imm 1 (AN l),.imm 1 (AN m)] h λr h'=>r= .sc (.bool (Ee l m))/\h'=h:=by
 unfold AJ at hl hm;have hll:=Gb l;have hlm:=Gb m;refine AE func137 ntmps137 results137 Ty.eC ?_;cases hne:((l.length:Int) !=m.length)with
 |true=>
  have:Ee l m=false:=V7 (by simp at hne;omega);refine wt (AV hll hlm hne) ?_;rw[this]
 |false=>
  have hlen:l.length=m.length:=by simp at hne;omega
  refine wt (AV hll hlm hne) ?_;refine Cd (λc S h'=>h'=h/\S 0= .imm 1 (AN l)/\S 1= .imm 1 (AN m)/\S 12= .sc (.int .i64 l.length)/\ ∃ k:Nat,S 13= .sc (.int .i64 k)/\k<=l.length/\c=l.length-k/\Ee l m=Ee (l.drop k) (m.drop k)) l.length ?_ ?_
  ·simp only[Ty.w,simprocAttr];exact⟨0,rfl,by omega,rfl,by simp⟩
  ·rintro c S h' ⟨rfl,g0,g1,g12,k,gk,hkl,rfl,hinv⟩;by_cases hlt:k<l.length
   ·have hd:decide ((k:Int)<(l.length:Int))=true:=(by simp;omega);have w7:IntKind.i64.wrap ((k:Int)+1)=k+1:=(by rw[Br (by omega) (by omega)]);obtain⟨a,hx⟩: ∃ a,l[k]? =some a:=⟨_,AU hlt⟩;obtain⟨b,hy⟩: ∃ b,m[k]? =some b:=⟨_,AU (by omega)⟩;rw[Cm hx,Cm hy]at hinv;simp only[Ee]at hinv;have hr:=KW hx;have hr2:=KW hy;cases he:(a.data.toList==b.data.toList)with
    |false=>
     simp only[A1,he,B9]at hinv;replace zz:=AY g0 g1 g12 gk hll hlm hd hr hr2 he w7 yF;refine wy zz ?_;rw[hinv]
    |true=>
     simp only[A1,he,B8]at hinv;replace zz:=AY g0 g1 g12 gk hll hlm hd hr hr2 he w7 yT;refine wy zz ?_;exact⟨l.length-(k+1),by omega,k+1,by simp,by omega,rfl,hinv⟩
   ·have hd:decide ((k:Int)<(l.length:Int))=false:=(by simp;omega);rw[D3 (by omega),D3 (by omega)]at hinv;simp only[Ee]at hinv;replace zz:=Aq g0 g1 g12 gk hll hd;refine wt zz ?_;rw[hinv]
theorem Jq{h:A0}{l m:List Pm}(hl:l.length<=AJ)(hm:m.length<=AJ):A6 prog 69 [.imm 2 (A7 l),.imm 2 (A7 m)] h λr h'=>r= .sc (.bool (DL l m))/\h'=h:=by
 unfold AJ at hl hm;have hll:=IA l;have hlm:=IA m;refine AE func69 ntmps69 results69 Ty.dw ?_;cases hne:((l.length:Int) !=m.length)with
 |true=>
  have:DL l m=false:=V8 (by simp at hne;omega);refine wt (AV hll hlm hne) ?_;rw[this]
 |false=>
  have hlen:l.length=m.length:=by simp at hne;omega
  refine wt (AV hll hlm hne) ?_;refine Cd (λc S h'=>h'=h/\S 0= .imm 2 (A7 l)/\S 1= .imm 2 (A7 m)/\S 12= .sc (.int .i64 l.length)/\ ∃ k:Nat,S 13= .sc (.int .i64 k)/\k<=l.length/\c=l.length-k/\DL l m=DL (l.drop k) (m.drop k)) l.length ?_ ?_
  ·simp only[Ty.w,simprocAttr];exact⟨0,rfl,by omega,rfl,by simp⟩
  ·rintro c S h' ⟨rfl,g0,g1,g12,k,gk,hkl,rfl,hinv⟩;by_cases hlt:k<l.length
   ·have hd:decide ((k:Int)<(l.length:Int))=true:=(by simp;omega);have w7:IntKind.i64.wrap ((k:Int)+1)=k+1:=(by rw[Br (by omega) (by omega)]);obtain⟨a,hx⟩: ∃ a,l[k]? =some a:=⟨_,AU hlt⟩;obtain⟨b,hy⟩: ∃ b,m[k]? =some b:=⟨_,AU (by omega)⟩;rw[Cm hx,Cm hy]at hinv;simp only[DL]at hinv;have hr:=Nn hx;have hr2:=Nn hy;cases he:PL a b with
    |false=>
     have he':(a.name.data.toList==b.name.data.toList&&a.type.data.toList==b.type.data.toList)=false:=he;rw[he,B9]at hinv;replace zz:=AY g0 g1 g12 gk hll hlm hd hr hr2 he' w7 yF;refine wy zz ?_;rw[hinv]
    |true=>
     have he':(a.name.data.toList==b.name.data.toList&&a.type.data.toList==b.type.data.toList)=true:=he;rw[he,B8]at hinv;replace zz:=AY g0 g1 g12 gk hll hlm hd hr hr2 he' w7 yT;refine wy zz ?_;exact⟨l.length-(k+1),by omega,k+1,by simp,by omega,rfl,hinv⟩
   ·have hd:decide ((k:Int)<(l.length:Int))=false:=(by simp;omega);rw[D3 (by omega),D3 (by omega)]at hinv;simp only[DL]at hinv;replace zz:=Aq g0 g1 g12 gk hll hd;refine wt zz ?_;rw[hinv]
end Go.Proofs.YtblgchkahpgdjaaGreat
namespace Go.AM
def Tl(h:A0)(id0 z:Nat)(p:PV)(rows:List (List PV)):Prop:=
 (rows=[]/\(p= .sc (.slice none 0 0)\/p= .emp))\/ ∃ id,id0<=id/\id<h.next/\p= .own id 0 rows.length/\h.obj id=some (.arr z rows)
variable {h:A0}{id0 z:Nat}{p:PV}{rows:List (List PV)}
theorem Tl.nil:Tl h id0 z (.sc (.slice none 0 0)) []:= .inl ⟨rfl,.inl rfl⟩
theorem Tl.emp:Tl h id0 z .emp []:= .inl ⟨rfl,.inr rfl⟩
theorem Tl.sl(t:Tl h id0 z p rows):Sl h z p rows:=by
 rcases t with⟨rfl,rfl|rfl⟩|⟨id,_,_,rfl,ho⟩
 ·exact Sl.nil
 ·exact Sl.emp
 ·exact Sl.own0 ho
theorem Tl.tail(t:Tl h id0 z p rows): ∃ H,Dc h p=some (H,rows)/\Cw h z p=true/\H.next=h.next/\(∀ j,j<id0->H.obj j=h.obj j)/\(∀ h0,FX h0 h->h0.next<=id0->FX h0 H):=by
 rcases t with⟨rfl,rfl|rfl⟩|⟨id,h1,h2,rfl,ho⟩
 ·exact ⟨h,rfl,rfl,rfl,λ_ _=>rfl,λ_ hk _=>hk⟩
 ·exact ⟨h,rfl,rfl,rfl,λ_ _=>rfl,λ_ hk _=>hk⟩
 ·refine ⟨h.kill id,by simp[Dc,ho],by simp[Cw,ho],rfl,λj hj=>?_,λh0 hk hn=>dA (by omega) hk⟩;rw[Nk,A4 (by omega)]
theorem Tl.grow{H:A0}{len:Nat}(hn:id0<=H.next)(hl:len=rows.length):Tl (H.new (.arr z rows)) id0 z (.own H.next 0 len) rows:=
 .inr ⟨H.next,hn,YM _,by rw[hl],by rw[Nj,AG rfl]⟩
theorem Tl.up{h':A0}(t:Tl h id0 z p rows)(hn:h.next<=h'.next)(ho: ∀ j,id0<=j->j<h.next->h'.obj j=h.obj j):Tl h' id0 z p rows:=by
 rcases t with ht|⟨id,h1,h2,rfl,h3⟩
 ·exact .inl ht
 ·exact .inr ⟨id,h1,by omega,rfl,by rw[ho id h1 h2];exact h3⟩
theorem V9{n:Nat}:(l:List PV)->(∀ p∈l, ∃ v,p= .sc v)->AL n h l l
 |[],_=>by simp only[AL]
 |p::l,hp=>by
  obtain⟨v,hv⟩:=hp p (by simp);simp only[AL];exact⟨by rw[hv];simp only[AF],V9 l (λq hq=>hp q (by simp[hq]))⟩
theorem RW{n:Nat}:(l:List (List PV))->(∀ r∈l, ∀ p∈r, ∃ v,p= .sc v)->Cr n h l l
 |[],_=>by simp only[Cr]
 |r::l,hp=>by
  simp only[Cr];exact⟨V9 r (hp r (by simp)),RW l (λq hq=>hp q (by simp[hq]))⟩
theorem Tl.frz(t:Tl h id0 z p rows)(hs: ∀ r∈rows, ∀ p∈r, ∃ v,p= .sc v):AF id0 h (.imm z rows) p:=by
 simp only[AF];rcases t with⟨h1,h2⟩|⟨id,h1,h2,rfl,ho⟩
 ·exact .inr (.inl ⟨h1,h2.symm⟩)
 ·refine .inr (.inr ⟨id,0,_,_,rfl,h1,ho,by omega,?_⟩);rw[CB,DQ (by omega)];exact RW _ hs
theorem D5{P:Program}{ow:Nat->Bool}{n:Nat}{s:A9}{f:FuncId}{dst:Option Tmp}{args:List Operand}{ts:Array TypeId}{ty:TypeId}{pos:String}{af:Array Edge}{gd:Option (Nat × Bool)}{ags:List PV}{v:PV}{h1:A0}{K:A9->A0->Prop}{ops rest:List Oper}
  (hc:A6 P f ags h λr h'=>r=v/\h'=h1)(ha:args.map (A5 s)=ags)(hk:E8 P ow n ops rest K (AZ s dst v) h1):
  CQ P ow {dst:=dst,op:= .call {callee:= .value (.func f),args:=args.toArray,argTypes:=ts},type:=ty,pos:=pos,after:=af,guard:=gd} (EH P ow n ops rest K) s h:=
 R7 hc ha λr h' hr=>by rw[hr.1,hr.2];exact hk
end Go.AM
namespace Go.Proofs.YtblgchkahpgdjaaGreat
open Go.AM Go.Proofs.Tryz
set_option maxHeartbeats 2000000
set_option maxRecDepth 20000
structure CI(h:A0)(id:Nat)(o:Ab)(h':A0):Prop where
 le:h.next<=h'.next
 old: ∀ i,i<h.next->i≠id->h'.obj i=h.obj i
 at_:h'.obj id=some o
theorem CI.new{h h':A0}{id:Nat}{o o2:Ab}(g:CI h id o h')(hid:id<h.next):CI h id o (h'.new o2):=
 ⟨EE g.le (by simp[A0.new]),λi hi hne=>by simp only[A0.new];rw[A4 (by have:=g.le;omega)];exact g.old i hi hne,by simp only[A0.new];rw[A4 (by have:=g.le;omega)];exact g.at_⟩
theorem CI.set{h h':A0}{id j:Nat}{o o2:Ab}(g:CI h id o h')(hid:id<h.next)(hj:h.next<=j):CI h id o (h'.set j o2):=
 ⟨g.le,λi hi hne=>by simp only[A0.set];rw[A4 (by omega)];exact g.old i hi hne,by simp only[A0.set];rw[A4 (by omega)];exact g.at_⟩
theorem CI.put{h h':A0}{id:Nat}{o o2:Ab}(g:CI h id o h'):CI h id o2 (h'.set id o2):=
 ⟨g.le,λi hi hne=>by simp only[A0.set];rw[A4 hne];exact g.old i hi hne,by simp[A0.set]⟩
theorem CI.refl{h:A0}{id:Nat}{o:Ab}(ho:h.obj id=some o):CI h id o h:=⟨AD _,λ_ _ _=>rfl,ho⟩
theorem A6.quietX{P:Program}{f:FuncId}{args:List PV}{h:A0}{v:Value}{id:Nat}{o o0:Ab}(hb:Ai P f=true)(hid:h.obj id=some o0)(hfl:Ec h.next o)(hc:A6 P f args h λr h'=>r= .sc v/\CI h id o h'):
  A6 P f args h λr h'=>r= .sc v/\h'=h.set id o:=by
 refine Ig hb λhw=>A6.drop (hc.mono ?_);rintro r h' ⟨rfl,g⟩;refine⟨.sc v,h.set id o,⟨rfl,rfl⟩,by simp only[AF],AD _,λi oo ho=>?_⟩;have hlt:=hw id (by rw[hid];try rfl);simp only[A0.set]at ho;split at ho
 ·rename_i hi;subst hi;simp at ho;subst ho;exact⟨g.at_,hlt,.inr hfl⟩
 ·rename_i hi;have h1:=hw i (by rw[ho];try rfl);exact⟨by rw[g.old i h1 hi];exact ho,h1,.inl ho⟩
theorem fI(s:ByteArray):(Ew s).1.size<=32:=by
 unfold Ew;split
 ·rename_i hc;split
  ·rename_i l hl;have h1:=Pf hl;have hsl:s.data.toList.length=s.size:=(by rw[FA];try rfl);have:(ByteArray.mk l.toArray).size=l.length:=(by simp[ByteArray.size]);simp only[this];omega
  ·simp [ByteArray.size]
 ·simp [ByteArray.size]
mutual
theorem VA: ∀ (x:Sx)(d n:Nat),(CL x d n).1=true->(CL x d n).2<=4096
 | .mk kind value line col text kids,d,n=>by
  unfold CL;split
  ·simp
  ·rename_i hn;split
   ·intro _;simp only;omega
   ·split
    ·intro _;simp only;omega
    ·split
     ·split
      ·exact VB kids (d+1) (n+1) (by omega)
      ·simp
     ·simp
theorem VB: ∀ (l:List Sx)(d n:Nat),n<=4096->(Gt l d n).1=true->(Gt l d n).2<=4096
 |[],d,n,hn=>by simp[Gt,hn]
 |k::ks,d,n,hn=>by
  unfold Gt;have h1:=VA k d n;split
  ·rename_i n' he;rw[he]at h1;exact VB ks d n' (h1 rfl)
  ·simp
end
theorem Lk(n:Nat):((n+1:Nat):Int)=(n:Int)+1:=by simp
def Ct(n:Nat):Ab:= .arr 1 [[.sc (.int .i64 n)]]
theorem fJ: ∀ (x:Sx),x.ok-> ∀ (d n:Nat),d<=32->n<=4096-> ∀ (id:Nat)(h:A0),h.obj id=some (Ct n)->
  A6 prog 101 [.agg x.cells,.sc (.int .i64 d),.ptr id 0 0] h λr h'=>r= .sc (.bool (CL x d n).1)/\h'=h.set id (Ct (CL x d n).2):=by
 refine Sx.ind ?_;intro kind value line col text kids ih hok d n hd hn id h ho;simp only[Sx.ok]at hok;obtain⟨_,_,ht,hk,hks⟩:=hok;rw[Sx.oks_iff]at hks;have hlen:=Sx.rows_len kids;have wn:IntKind.i64.wrap ((n:Int)+1)=(n:Int)+1:=by rw[Br (by omega) (by omega)]
 refine Ig Ty.GD λhwf=>?_;have hid:id<h.next:=hwf id (by rw[ho];try rfl)
 refine A6.quietX Ty.GD ho (by simp[Ct,Ec,B1,BT,BB]) ?_;have ho':=ho;simp only[Ct]at ho';have G1:CI h id (Ct (n+1)) (h.set id (.arr 1 [[.sc (.int .i64 ((n:Int)+1))]])):=by
  have:=(CI.refl ho).put (o2:=Ct (n+1));simp only[Ct,Lk]at this⊢;exact this
 unfold CL;simp only[Sx.cells];cases b0:decide ((n:Int)+1>4096)with
 |true=>
  rw[AG (by simp at b0;omega)];refine AE func101 ntmps101 results101 Ty.GD ?_;refine wt (AV ho' wn b0) ?_;first|exact G1|exact⟨rfl,G1⟩
 |false=>
  rw[A4 (by simp at b0;omega)];cases k1:(kind==1)with
  |true=>
   have hk1:kind=1:=(by simpa using k1);rw[AG hk1];have e1:(kids.isEmpty)=((kids.length:Int)==0):=(by cases kids<;>simp;omega);have hlow:=λh:A0=>fH (h:=h) (s:=text);have hsz:=fI text;have hW:JG text=((Ew text).2&&((Ew text).1.data.toList==text.data.toList)&&!(KX (Ew text).1)):=rfl;generalize hL:Ew text=L at hlow hsz hW;obtain⟨w,ok⟩:=L;simp only at hlow hsz hW;have hwb:w.size<=AJ:=(by unfold AJ;omega);rw[hW];cases ok with
   |false=>
    refine AE func101 ntmps101 results101 Ty.GD ?_;replace zz:=Aa ho' wn b0 k1;refine wt zz ?_;replace zz:=Aa ho' wn b0 k1;refine uU zz (hlow _) ?_;refine wt zz ?_;first|exact G1|exact⟨rfl,G1⟩
   |true=>
    cases c1:(w.data.toList==text.data.toList)with
    |false=>
     refine AE func101 ntmps101 results101 Ty.GD ?_;replace zz:=Aa ho' wn b0 k1;refine wt zz ?_;replace zz:=Aa ho' wn b0 k1;refine uU zz (hlow _) ?_;replace zz:=As ho' wn b0 k1 c1;refine wt zz ?_;first|exact G1|exact⟨rfl,G1⟩
    |true=>
     cases c2:KX w with
     |true=>
      refine AE func101 ntmps101 results101 Ty.GD ?_;replace zz:=Aa ho' wn b0 k1;refine wt zz ?_;replace zz:=Aa ho' wn b0 k1;refine uU zz (hlow _) ?_;replace zz:=As ho' wn b0 k1 c1;refine wt zz ?_;replace zz:=Ag ho' wn b0 k1 c1 c2 yT;refine uU zz (RV (s:=w) hwb) ?_;refine wt zz ?_;first|exact G1|exact⟨rfl,G1⟩
     |false=>
      cases c3:(value==0)with
      |false=>
       have c3':decide (value=0)=false:=(by simpa using c3);refine AE func101 ntmps101 results101 Ty.GD ?_;replace zz:=Aa ho' wn b0 k1;refine wt zz ?_;replace zz:=Aa ho' wn b0 k1;refine uU zz (hlow _) ?_;replace zz:=As ho' wn b0 k1 c1;refine wt zz ?_;replace zz:=BK ho' wn b0 k1 c1 c2 c3 hlen yF;refine uU zz (RV (s:=w) hwb) ?_;replace zz:=BO ho' wn b0 k1 c1 c2 c3 yF;refine wt zz ?_;first|exact G1|exact⟨by simp only[c3',BD,B9],G1⟩
      |true=>
       have c3':decide (value=0)=true:=(by simpa using c3);refine AE func101 ntmps101 results101 Ty.GD ?_;replace zz:=Aa ho' wn b0 k1;refine wt zz ?_;replace zz:=Aa ho' wn b0 k1;refine uU zz (hlow _) ?_;replace zz:=As ho' wn b0 k1 c1;refine wt zz ?_;replace zz:=BK ho' wn b0 k1 c1 c2 c3 hlen yF;refine uU zz (RV (s:=w) hwb) ?_;replace zz:=BK ho' wn b0 k1 c1 c2 c3 yF hlen;refine wt zz ?_;exact⟨by simp only[c3',e1,C4,B8],G1⟩
  |false=>
   have hk1:¬ kind=1:=(by simpa using k1);rw[A4 hk1];cases k2:(kind==2)with
   |true=>
    have hk2:kind=2:=(by simpa using k2);rw[AG hk2];have e1:(kids.isEmpty)=((kids.length:Int)==0):=(by cases kids<;>simp;omega);cases c1:(text.data.toList==(#[]:Array UInt8).toList)with
    |false=>
     refine AE func101 ntmps101 results101 Ty.GD ?_;replace zz:=Aq ho' wn b0 k1 k2 c1;refine wt zz ?_;first|exact⟨by simp only[A1,c1,B9],G1⟩|(simp only[A1,c1,e1,c2,B8];exact G1)|exact G1
    |true=>
     cases c2:((kids.length:Int)==0)with
     |false=>
      refine AE func101 ntmps101 results101 Ty.GD ?_;replace zz:=BO ho' wn b0 k1 k2 c1 c2 hlen;refine wt zz ?_;first|exact⟨by simp only[A1,c1,e1,c2,BD,B9],G1⟩|(simp only[A1,c1,e1,c2,B8];exact G1)|exact G1
     |true=>
      cases c3:decide (value>= -1099511627776)with
      |false=>
       refine AE func101 ntmps101 results101 Ty.GD ?_;replace zz:=BK ho' wn b0 k1 k2 c1 c2 c3 hlen;refine wt zz ?_;have c3':decide (-1099511627776<=value)=false:=c3;first|exact⟨by simp only[A1,c1,e1,c2,c3',BD,B9],G1⟩|(simp only[A1,c1,e1,c2,B8];exact G1)|exact G1
      |true=>
       refine AE func101 ntmps101 results101 Ty.GD ?_;replace zz:=BK ho' wn b0 k1 k2 c1 c2 c3 hlen;refine wt zz ?_;have c3':decide (-1099511627776<=value)=true:=c3;first|exact⟨by simp only[A1,c1,e1,c2,c3',B8],G1⟩|(simp only[A1,c1,e1,c2,B8];exact G1)|exact G1
   |false=>
    have hk2:¬ kind=2:=(by simpa using k2);rw[A4 hk2];cases k3:(kind==3)with
    |false=>
     have hk3:¬ kind=3:=(by simpa using k3);rw[A4 hk3];refine AE func101 ntmps101 results101 Ty.GD ?_;replace zz:=Aq ho' wn b0 k1 k2 k3;refine wt zz ?_;first|exact G1|exact⟨rfl,G1⟩
    |true=>
     have hk3:kind=3:=(by simpa using k3);rw[AG hk3];cases c1:(text.data.toList==(#[]:Array UInt8).toList)with
     |false=>
      rw[A4 (by simp[A1,c1])];refine AE func101 ntmps101 results101 Ty.GD ?_;replace zz:=BO ho' wn b0 k1 k2 k3 c1 yF;refine wt zz ?_;first|exact G1|exact⟨rfl,G1⟩
     |true=>
      cases c2:(value !=0)with
      |true=>
       rw[A4 (by simp at c2;simp[c2])];refine AE func101 ntmps101 results101 Ty.GD ?_;replace zz:=BK ho' wn b0 k1 k2 k3 c1 c2 yT;refine wt zz ?_;first|exact G1|exact⟨rfl,G1⟩
      |false=>
       cases c3:((d:Int)==32)with
       |true=>
        rw[A4 (by simp at c3;simp;omega)];refine AE func101 ntmps101 results101 Ty.GD ?_;replace zz:=B7 ho' wn b0 k1 k2 k3 c1 c2 c3 yT;refine wt zz ?_;first|exact G1|exact⟨rfl,G1⟩
       |false=>
        rw[AG (by simp at c2 c3;exact⟨c1,c2,by omega⟩)];refine AE func101 ntmps101 results101 Ty.GD ?_;replace zz:=E7 ho' wn b0 k1 k2 k3 c1 c2 c3 yT hlen;refine wt zz ?_;generalize hV:Gt kids (d+1) (n+1)=V;refine Cd (λc S h'=>S 1= .sc (.int .i64 d)/\S 2= .ptr id 0 0/\S 89= .imm 6 (Sx.rows kids)/\S 90= .sc (.int .i64 kids.length)/\ ∃ k n':Nat,S 91= .sc (.int .i64 k)/\k<=kids.length/\c=kids.length-k/\n'<=4096/\CI h id (Ct n') h'/\V=Gt (kids.drop k) (d+1) n') kids.length ?_ ?_
        ·simp only[Ty.w,simprocAttr];exact⟨0,n+1,rfl,by omega,rfl,by simp at b0;omega,G1,hV.symm⟩
        ·clear G1 ho';rintro c S h' ⟨g1,g2,g89,g90,k,n',g91,hkl,rfl,hn',hG,hinv⟩;by_cases hlt:k<kids.length
         ·have hdk:decide ((k:Int)<(kids.length:Int))=true:=(by simp;omega);have w7:IntKind.i64.wrap ((k:Int)+1)=k+1:=(by unfold AJ at hk;rw[Br (by omega) (by omega)]);have wd:IntKind.i64.wrap ((d:Int)+1)=(d:Int)+1:=(by rw[Br (by omega) (by omega)]);obtain⟨e,hx⟩: ∃ e,kids[k]? =some e:=⟨_,AU hlt⟩;have hmem:=C7 hx;have hc:=ih e hmem (hks e hmem) (d+1) n' (by simp at c3;omega) hn' id;have hle:=VA e (d+1) n';rw[Cm hx]at hinv;simp only[Gt]at hinv;generalize CL e (d+1) n'=W at hc hle hinv;obtain⟨b,n''⟩:=W;simp only[Lk]at hc hle hinv;have hr:=Sx.rows_get hx;have hne:id≠h'.next:=by have:=hG.le;omega
          have hne':(h'.next=id)=False:=(by simp;omega);have hc2:=hc ((h'.new (.arr 6 [[.sc (.int .i64 0),.sc (.int .i64 0),.sc (.int .i64 0),.sc (.int .i64 0),.sc (.string ⟨#[]⟩),.sc (.slice none 0 0)]])).set h'.next (.arr 6 [e.cells])) (by simp only[A0.set,A0.new];rw[A4 hne,A4 hne];exact hG.at_);have hG2:CI h id (Ct n') ((h'.new (.arr 6 [[.sc (.int .i64 0),.sc (.int .i64 0),.sc (.int .i64 0),.sc (.int .i64 0),.sc (.string ⟨#[]⟩),.sc (.slice none 0 0)]])).set h'.next (.arr 6 [e.cells])):=(hG.new hid).set hid hG.le;obtain⟨ki,va,li,co,te,ks⟩:=e;simp only[Sx.cells]at hr hc2 hG2;replace zz:=BK g1 g2 g89 g90 g91 hlen hdk hr wd;refine wt zz ?_;refine D5 (hc2) (sr (BK g1 g2 g89 g90 g91 hlen hdk hr wd)) ?_;simp only[Ty.w,simprocAttr,g1,g2,g89,g90,g91,hlen,hdk,hr,wd];cases b with
          |false=>
           subst hinv;replace zz:=Ag g1 g2 g89 g90 g91 w7 yF;refine wt zz ?_;exact hG2.put
          |true=>
           replace zz:=Ag g1 g2 g89 g90 g91 w7 yT;refine wt zz ?_;exact⟨kids.length-(k+1),by omega,k+1,n'',by simp,by omega,rfl,hle rfl,hG2.put,hinv⟩
         ·have hdk:decide ((k:Int)<(kids.length:Int))=false:=(by simp;omega);rw[D3 (by omega)]at hinv;simp only[Gt]at hinv;subst hinv;replace zz:=Aq g1 g2 g89 g90 g91 hdk;refine wt zz ?_;(try rw[hV]);first|exact⟨rfl,hG⟩|exact hG
theorem JI{x:Sx}(hx:x.ok)(h:A0):A6 prog 47 [.agg x.cells] h λr h'=>r= .sc (.bool (CL x 0 0).1)/\h'=h:=by
 have hc:=fJ x hx 0 0 (by omega) (by omega) h.next ((h.new (.arr 1 [[.sc (.int .i64 0)]])).set h.next (.arr 1 [[.sc (.int .i64 0)]])) (by simp[A0.set,Ct])
 refine A6.quiet Ty.UN ?_;generalize CL x 0 0=W at hc;obtain⟨b,n⟩:=W;obtain⟨ki,va,li,co,te,ks⟩:=x;simp only[Sx.cells,Qd]at hc⊢;refine AE func47 ntmps47 results47 Ty.UN ?_;refine wt A3 ?_;refine D5 (hc) (sr A3) ?_;simp only[Ty.w,simprocAttr];refine wt A3 ?_;exact(((AC.refl h).new _).set (AD _) _).set (AD _) _
end Go.Proofs.YtblgchkahpgdjaaGreat
namespace Go.Proofs.YtblgchkahpgdjaaGreat
open Go.AM Go.Proofs.Tryz
set_option maxHeartbeats 2000000
set_option maxRecDepth 20000
theorem fK(n:Nat): ∀ x:Sx,BT n x.cells:=by
 refine Sx.ind ?_;intro kind value line col text kids ih;have:B1 n (Sx.rows kids):=by
  clear kind value line col text
  induction kids with
  |nil=>simp only[Sx.rows,B1]
  |cons k ks ih2=>
   simp only[Sx.rows,B1];exact⟨ih k (by simp),ih2 λq hq=>ih q (by simp[hq])⟩
 simp only[Sx.cells,BT,BB,Da,FQ];exact this
theorem ID(n:Nat): ∀ l:List Sx,B1 n (Sx.rows l)
 |[]=>by simp only[Sx.rows,B1]
 |k::ks=>by simp only[Sx.rows,B1];exact⟨fK n k,ID n ks⟩
theorem FZ(n:Nat)(h:A0)(x:Sx):AL n h x.cells x.cells:=by
 obtain⟨kind,value,line,col,text,kids⟩:=x;simp only[Sx.cells,AL,AF,Da,FQ];exact .inl (ID n kids)
theorem Jr(n:Nat)(h:A0): ∀ l:List Sx,Cr n h (Sx.rows l) (Sx.rows l)
 |[]=>by simp only[Sx.rows,Cr]
 |k::ks=>by simp only[Sx.rows,Cr];exact⟨FZ n h k,Jr n h ks⟩
theorem A6.frz{P:Program}{f:FuncId}{args:List PV}{h:A0}{v:PV}(hb:Ai P f=true)(hc:A6 P f args h λr' h'=>AF h.next h' v r'/\AC h h'):A6 P f args h λr h'=>r=v/\h'=h:=by
 refine Ig hb λhw=>A6.drop (hc.mono ?_);rintro r' h' ⟨hf,g⟩;refine⟨v,h,⟨rfl,rfl⟩,hf,AD _,λid o ho=>?_⟩;have hid:=hw id (by rw[ho];try rfl);exact⟨by rw[g.old id hid];exact ho,hid,.inl ho⟩
theorem KZ{n id off len:Nat}{h':A0}(hid:id<n):AF n h' (.own id off len) (.own id off len):=by simp only[AF];exact⟨trivial,hid⟩
def AA(s:ByteArray):Sx:= .mk 1 0 0 0 s []
def AK(l:List Sx):Sx:= .mk 3 0 0 0 ⟨#[]⟩ l
def Cn(first:ByteArray)(l:List ByteArray):Sx:=AK ((first::l).map AA)
theorem Ka{h:A0}{s:ByteArray}:A6 prog 136 [A2 s] h λr h'=>r= .agg (AA s).cells/\h'=h:=by
 refine A6.frz Ty.Uc ?_;refine AE func136 ntmps136 results136 Ty.Uc ?_;refine wt A3 ?_;refine⟨?_,((AC.refl h).new _).set (AD _) _⟩;simp only[AA,Sx.cells,Sx.rows,AF,AL];exact⟨_,rfl,rfl,rfl,rfl,rfl,rfl,.inr (.inl ⟨rfl,.inr rfl⟩),trivial⟩
theorem Kb{h:A0}{p:PV}(h1:CW p=true)(hf: ∀ h',AF h.next h' p p):A6 prog 175 [p] h λr h'=>r= .agg [.sc (.int .i64 3),.sc (.int .i64 0),.sc (.int .i64 0),.sc (.int .i64 0),.sc (.string ⟨#[]⟩),p]/\h'=h:=by
 refine A6.frz Ty.Uo ?_;have hc:p.cells=[p]:=by cases p<;>simp[CW]at h1<;>rfl
 refine AE func175 ntmps175 results175 Ty.Uo ?_;refine wt (uu hc h1) ?_;refine⟨?_,((AC.refl h).new _).set (AD _) _⟩;simp only[AF,AL];exact⟨_,rfl,rfl,rfl,rfl,rfl,rfl,hf _,trivial⟩
structure fL(h:A0)(first:ByteArray)(l:List ByteArray)(k:Nat)(h':A0):Prop where
 grow:AC h h'
 ex: ∃ id,h.next+1+1<h'.next/\id≠h.next+1+1/\h.next<id/\id<h'.next/\
  h'.obj h.next=some (.arr 6 [[.sc (.int .i64 0),.sc (.int .i64 0),.sc (.int .i64 0),.sc (.int .i64 0),.sc (.string ⟨#[]⟩),.sc (.slice none 0 0)]])/\
  h'.obj (h.next+1+1)=some (.arr 6 [[.sc (.int .i64 3),.sc (.int .i64 0),.sc (.int .i64 0),.sc (.int .i64 0),.sc (.string ⟨#[]⟩),.own id 0 (k+1)]])/\
  h'.obj id=some (.arr 6 (Sx.rows ((first::l.take k).map AA)))
theorem RZ{h:A0}{first:ByteArray}{l:List ByteArray}(hl:l.length<=1048576):A6 prog 174 [A2 first,.imm 1 (AN l)] h λr h'=>r= .agg (Cn first l).cells/\h'=h:=by
 refine A6.frz Ty.Un ?_;have hll:=Gb l;have hw: ∀ (s:ByteArray)(h:A0),A6 prog 136 [A2 s] h λr h'=>r= .agg (AA s).cells/\h'=h:=λs h=>Ka;simp only[AA,Sx.cells,Sx.rows]at hw;refine uG (ow:=λt=>t==10) (wf:=λ_=>false) func174 ntmps174 results174 Ty.Un ?_;refine wt A3 ?_;refine uU A3 (hw first _) ?_;refine wt A3 ?_;refine uU A3 (Kb (p:= .own (h.next+1) 0 1) rfl (λ_=>KZ (by simp[A0.new]))) ?_;refine wt hll ?_;refine Cd (λm S h'=>S 4= .ptr h.next 0 0/\S 5= .ptr (h.next+1+1) 0 0/\S 12= .imm 1 (AN l)/\S 13= .sc (.int .i64 l.length)/\ ∃ k:Nat,S 14= .sc (.int .i64 k)/\k<=l.length/\m=l.length-k/\fL h first l k h') l.length ?_ ?_
 ·simp only[Ty.w,simprocAttr];refine⟨0,rfl,by omega,rfl,?_⟩;have e1:¬ h.next=h.next+1+1:=by omega
  refine⟨(((((AC.refl h).new _).new _).new _).set (show h.next<=h.next+1+1 by omega) _),h.next+1,by simp[A0.new,A0.set],by omega,by omega,by simp[A0.new,A0.set],?_,?_,?_⟩
  ·simp [A0.new,A0.set,e1]
  ·simp [A0.new,A0.set]
  ·simp [A0.new,A0.set,AA,Sx.rows,Sx.cells]
 ·rintro m S h' ⟨g4,g5,g12,g13,k,g14,hk,rfl,hI⟩;obtain⟨hg,id,hn2,hne,hlo,hhi,o1,o2,o3⟩:=hI;by_cases hlt:k<l.length
  ·have hd:decide ((k:Int)<(l.length:Int))=true:=(by simp;omega);have w7:IntKind.i64.wrap ((k:Int)+1)=k+1:=(by rw[Br (by omega) (by omega)]);obtain⟨s,hx⟩: ∃ s,l[k]? =some s:=⟨_,AU hlt⟩;have hr:=KW hx;have hrl:(Sx.rows ((first::l.take k).map AA)).length=k+1:=(by rw[Sx.rows_len];simp;omega);generalize hR:Sx.rows ((first::l.take k).map AA)=R at o3 hrl;have n1:(h.next+1+1=id)=False:=(by simp;omega);have n2:(h.next+1+1=h'.next)=False:=(by simp;omega);have htk:List.take (k+1) R=R:=DQ (by omega);have hb:(k+1+1)*72<=140737488355328:=(by omega);replace zz:=B7 g4 g5 g12 g13 g14 hd hr w7 o2 o3;refine wy zz ?_;replace zz:=Ag g4 g5 g12 g13 g14 o2 o3;(first|refine uV zz (hw s _) ?_|refine uA zz (hw s _) ?_);replace zz:=AY g4 g5 g12 g13 g14 w7 o2 o3 n1 n2 hrl (uu htk hb);(repeat'(first|refine cK ?_|refine nK ?_|refine uR zz ?_|(refine uN hK ?_;clear hK)|refine uB zz ?_|(rw[AG];rotate_left 1;omega;simp only[Ty.w,simprocAttr,g4,g5,g12,g13,g14,w7,o2,o3,n1,n2,hrl,htk,hb])|apply zI));refine⟨l.length-(k+1),by omega,k+1,by simp,by omega,rfl,((hg.kill (by omega)).new _).set (by omega) _,h'.next,?_,?_,?_,?_,?_,?_,?_⟩
   ·simp only[A0.set,A0.new,A0.kill];omega
   ·omega
   ·omega
   ·simp only[A0.set,A0.new,A0.kill];omega
   ·have a1:¬ h.next=h.next+1+1:=by omega
    have a2:¬ h.next=h'.next:=by omega
    have a3:¬ h.next=id:=by omega
    simp only[A0.set,A0.new,A0.kill,a1,a2,a3,AP];exact o1
   ·simp only[A0.set,AH]
   ·have a1:¬ h'.next=h.next+1+1:=by omega
    simp only[A0.set,A0.new,A0.kill,a1,AP,AH];rw[Jc,hx, ← hR];simp only[Sx.rows_map,BS,Qe,B5,YN,C3,AA,Sx.cells]
  ·have hd:decide ((k:Int)<(l.length:Int))=false:=(by simp;omega);have hke:k=l.length:=(by omega);subst hke;rw[J7]at o3;have n1:(h.next+1+1=h.next)=False:=(by simp;omega);replace zz:=BK g4 g5 g12 g13 g14 hd o1 o2 o3;refine wt zz ?_;refine⟨?_,hg.set (AD _) _⟩;simp only[Cn,AK,Sx.cells,AF,AL];refine⟨_,rfl,rfl,rfl,rfl,rfl,rfl,.inr (.inr ⟨id,0,l.length+1,Sx.rows ((first::l).map AA),rfl,by omega,?_,?_,?_⟩),trivial⟩
   ·simp only[A0.set];rw[A4 (by omega)];exact o3
   ·rw [Sx.rows_len];simp
   ·rw [CB,DQ (by rw[Sx.rows_len];simp)];exact Jr _ _ _
end Go.Proofs.YtblgchkahpgdjaaGreat
namespace Go.AM
mutual
def Ex.small:Ex->Prop
 | .mk _ _ _ args kids=>args.length<=1048576/\Ex.smalls kids
def Ex.smalls:List Ex->Prop
 |[]=>True
 |k::ks=>k.small/\Ex.smalls ks
end
theorem Ex.smalls_iff:{l:List Ex}->(Ex.smalls l↔ ∀ k∈l,k.small)
 |[]=>by simp[Ex.smalls]
 |k::ks=>by simp[Ex.smalls,Ex.smalls_iff (l:=ks)]
end Go.AM
namespace Go.Proofs.YtblgchkahpgdjaaGreat
open Go.AM Go.Proofs.Tryz
set_option maxHeartbeats 2000000
set_option maxRecDepth 20000
def Ij:ByteArray:=⟨#[110,117,109,98,101,114]⟩
def Ik:ByteArray:=⟨#[102,108,117,101,110,116]⟩
def Ll:ByteArray:=⟨#[43]⟩
def Fx:ByteArray:=⟨#[45]⟩
def Lm:ByteArray:=⟨#[42]⟩
def HJ(s:ByteArray):Bool:=A1 s ⟨#[]⟩
def C8(s:ByteArray):Bool:=An s||Eg s
def Ra(n:Int):Bool:=decide (-1099511627776<=n)&&decide (n<=1099511627776)
def Ey:Ex->Bool
 | .mk op name n args kids=>
  if A1 op Ij then HJ name&&args.isEmpty&&kids.isEmpty&&Ra n
  else if A1 op Ik then decide (n=0)&&kids.isEmpty&&An name&&args.all C8
  else if A1 op Ll||A1 op Fx||A1 op Lm then decide (n=0)&&HJ name&&args.isEmpty&&(match kids with
   |[a,b]=>Ey a&&Ey b
   |_=>false)
  else false
termination_by e=>SizeOf.sizeOf e
decreasing_by all_goals(simp_wf;omega)
def E9:Ex->Nat->Nat->Bool × Nat
 | .mk op name n args kids,d,c=>
  if c+1<=4096/\d<=32 then
   if A1 op Ij then(HJ name&&args.isEmpty&&kids.isEmpty&&Ra n,c+1)
   else if A1 op Ik then(decide (n=0)&&kids.isEmpty&&An name&&args.all C8,c+1)
   else if A1 op Ll||A1 op Fx||A1 op Lm then
    (if (decide (n = 0) && HJ name && args.isEmpty) = true then (match kids with
     |[a,b]=>(match E9 a (d+1) (c+1)with
      |(true,c')=>E9 b (d+1) c'
      |(false,c')=>(false,c'))
     |_=>(false,c+1))else(false,c+1))
   else(false,c+1)
  else(false,c+1)
termination_by e=>SizeOf.sizeOf e
decreasing_by all_goals(simp_wf;omega)
def BE:Ex->Sx
 | .mk op name n args kids=>
  if A1 op Ij then .mk 2 n 0 0 ⟨#[]⟩ []
  else if A1 op Ik then Cn name args
  else match kids with
   |[a,b]=>AK [AA op,BE a,BE b]
   |_=>AK [AA op]
termination_by e=>SizeOf.sizeOf e
decreasing_by all_goals(simp_wf;omega)
theorem Js{n z:Nat}{h':A0}{rows:List (List PV)}(h:B1 n rows):AF n h' (.imm z rows) (.imm z rows):=by simp only[AF];exact .inl ⟨trivial,h⟩
theorem Kd: ∀ e:Ex,e.small->Ey e=true-> ∀ h:A0,A6 prog 167 [.agg e.cells] h λr h'=>r= .agg (BE e).cells/\h'=h:=by
 refine Ex.ind ?_;intro op name n args kids ih hsm hsh h;simp only[Ex.small]at hsm;obtain⟨hal,hks⟩:=hsm;rw[Ex.smalls_iff]at hks;unfold Ey at hsh;unfold BE;refine A6.frz Ty.PY ?_;cases c1:A1 op Ij with
 |true=>
  have c1':(op.data.toList==(#[110,117,109,98,101,114]:Array UInt8).toList)=true:=c1;simp only[AH,Ex.cells];refine AE func167 ntmps167 results167 Ty.PY ?_;refine wt c1' ?_;refine⟨?_,((AC.refl h).new _).set (AD _) _⟩;simp only[Sx.cells,Sx.rows,AF,AL];exact⟨_,rfl,rfl,rfl,rfl,rfl,rfl,.inr (.inl ⟨rfl,.inr rfl⟩),trivial⟩
 |false=>
  have c1':(op.data.toList==(#[110,117,109,98,101,114]:Array UInt8).toList)=false:=c1;rw[c1]at hsh;simp only[BG,AP]at hsh⊢;cases c2:A1 op Ik with
  |true=>
   have c2':(op.data.toList==(#[102,108,117,101,110,116]:Array UInt8).toList)=true:=c2;have hw:=λh:A0=>RZ (h:=h) (first:=name) hal;have hfz:=λ(n:Nat)(h:A0)=>FZ n h (Cn name args);simp only[AH,Ex.cells];generalize Cn name args=X at hw hfz;obtain⟨ki,va,li,co,te,ks⟩:=X;simp only[Sx.cells]at hw hfz⊢;refine AE func167 ntmps167 results167 Ty.PY ?_;refine wt (uu c1' c2') ?_;refine uU (uu c1' c2') (hw _) ?_;refine wt A3 ?_;refine⟨?_,((AC.refl h).new _).set (AD _) _⟩;simp only[AF];exact⟨_,rfl,hfz _ _⟩
  |false=>
   have c2':(op.data.toList==(#[102,108,117,101,110,116]:Array UInt8).toList)=false:=c2;rw[c2]at hsh;simp only[BG,AP]at hsh⊢;split at hsh
   case isFalse=>simp at hsh
   simp only[AR]at hsh;obtain⟨⟨⟨_,_⟩,_⟩,hsh⟩:=hsh;split at hsh
   case h_2=>simp at hsh
   rename_i a b;simp only[AR]at hsh;have ca:=ih a (by simp) (hks a (by simp)) hsh.1;have cb:=ih b (by simp) (hks b (by simp)) hsh.2;have hw:=λh:A0=>Ka (h:=h) (s:=op);have hfz:=λ(n:Nat)(h:A0)=>FZ n h (AK [AA op,BE a,BE b]);have hl:=λh:A0=>Kb (h:=h) (p:= .imm 6 (Sx.rows [AA op,BE a,BE b])) rfl (λ_=>Js (ID _ _));generalize BE a=xa at ca hfz hl⊢;generalize BE b=xb at cb hfz hl⊢;clear ih hks hsh;obtain⟨ER,aname,an,aargs,akids⟩:=a;obtain⟨bop,bname,bn,bargs,bkids⟩:=b;obtain⟨ki,va,li,co,te,ks⟩:=xa;obtain⟨ki2,va2,li2,co2,te2,ks2⟩:=xb;simp only[Ex.cells,Ex.rows,AK,Sx.cells,Sx.rows,AA]at ca cb hw hfz hl⊢;refine AE func167 ntmps167 results167 Ty.PY ?_;refine wy (uu c1' c2') ?_;(first|refine uV A3 (hw _) ?_|refine uA A3 (hw _) ?_);refine wy A3 ?_;(first|refine uV A3 (ca _) ?_|refine uA A3 (ca _) ?_);refine wy A3 ?_;(first|refine uV A3 (cb _) ?_|refine uA A3 (cb _) ?_);refine wy A3 ?_;(first|refine uV A3 (hl _) ?_|refine uA A3 (hl _) ?_);refine wy A3 ?_;refine⟨?_,((AC.refl h).new _).set (AD _) _⟩;simp only[AF];exact⟨_,rfl,hfz _ _⟩
end Go.Proofs.YtblgchkahpgdjaaGreat
