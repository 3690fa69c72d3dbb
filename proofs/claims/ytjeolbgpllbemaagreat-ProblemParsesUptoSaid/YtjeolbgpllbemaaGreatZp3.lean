/- What the claim rests on, part 3: the abstract machine, contracts of the functions, plain data. -/
import Derived.Test.YtjeolbgpllbemaaGreatProg
import Derived.Test.YtjeolbgpllbemaaGreatZp2
set_option linter.unusedVariables false
set_option linter.unusedSimpArgs false
set_option linter.unusedSectionVars false
namespace Go.Proofs.YtjeolbgpllbemaaGreat
open Go.AM
namespace Ty
theorem mixed:Tryz.prog.follows .mixedOrders=true:=by kernel_rfl
theorem hb_8:hasBody Tryz.prog 8=true:=by kernel_rfl
theorem hb_9:hasBody Tryz.prog 9=true:=by kernel_rfl
theorem hb_13:hasBody Tryz.prog 13=true:=by kernel_rfl
theorem hb_14:hasBody Tryz.prog 14=true:=by kernel_rfl
theorem hb_15:hasBody Tryz.prog 15=true:=by kernel_rfl
theorem hb_16:hasBody Tryz.prog 16=true:=by kernel_rfl
theorem hb_17:hasBody Tryz.prog 17=true:=by kernel_rfl
theorem hb_20:hasBody Tryz.prog 20=true:=by kernel_rfl
theorem hb_19:hasBody Tryz.prog 19=true:=by kernel_rfl
theorem hb_21:hasBody Tryz.prog 21=true:=by kernel_rfl
theorem hb_23:hasBody Tryz.prog 23=true:=by kernel_rfl
theorem hb_24:hasBody Tryz.prog 24=true:=by kernel_rfl
theorem hb_25:hasBody Tryz.prog 25=true:=by kernel_rfl
theorem hb_27:hasBody Tryz.prog 27=true:=by kernel_rfl
theorem hb_26:hasBody Tryz.prog 26=true:=by kernel_rfl
theorem hb_28:hasBody Tryz.prog 28=true:=by kernel_rfl
theorem hb_29:hasBody Tryz.prog 29=true:=by kernel_rfl
theorem hb_30:hasBody Tryz.prog 30=true:=by kernel_rfl
theorem hb_31:hasBody Tryz.prog 31=true:=by kernel_rfl
theorem hb_32:hasBody Tryz.prog 32=true:=by kernel_rfl
theorem hb_33:hasBody Tryz.prog 33=true:=by kernel_rfl
theorem hb_35:hasBody Tryz.prog 35=true:=by kernel_rfl
theorem hb_36:hasBody Tryz.prog 36=true:=by kernel_rfl
theorem hb_37:hasBody Tryz.prog 37=true:=by kernel_rfl
theorem hb_38:hasBody Tryz.prog 38=true:=by kernel_rfl
theorem hb_39:hasBody Tryz.prog 39=true:=by kernel_rfl
theorem hb_40:hasBody Tryz.prog 40=true:=by kernel_rfl
theorem hb_41:hasBody Tryz.prog 41=true:=by kernel_rfl
theorem hb_42:hasBody Tryz.prog 42=true:=by kernel_rfl
theorem hb_43:hasBody Tryz.prog 43=true:=by kernel_rfl
theorem hb_50:hasBody Tryz.prog 50=true:=by kernel_rfl
theorem hb_51:hasBody Tryz.prog 51=true:=by kernel_rfl
theorem hb_53:hasBody Tryz.prog 53=true:=by kernel_rfl
theorem hb_54:hasBody Tryz.prog 54=true:=by kernel_rfl
theorem hb_56:hasBody Tryz.prog 56=true:=by kernel_rfl
theorem hb_57:hasBody Tryz.prog 57=true:=by kernel_rfl
theorem hb_58:hasBody Tryz.prog 58=true:=by kernel_rfl
theorem hb_59:hasBody Tryz.prog 59=true:=by kernel_rfl
theorem hb_60:hasBody Tryz.prog 60=true:=by kernel_rfl
theorem hb_61:hasBody Tryz.prog 61=true:=by kernel_rfl
theorem hb_63:hasBody Tryz.prog 63=true:=by kernel_rfl
theorem hb_64:hasBody Tryz.prog 64=true:=by kernel_rfl
theorem hb_65:hasBody Tryz.prog 65=true:=by kernel_rfl
theorem hb_66:hasBody Tryz.prog 66=true:=by kernel_rfl
theorem hb_67:hasBody Tryz.prog 67=true:=by kernel_rfl
theorem hb_68:hasBody Tryz.prog 68=true:=by kernel_rfl
theorem hb_70:hasBody Tryz.prog 70=true:=by kernel_rfl
theorem hb_69:hasBody Tryz.prog 69=true:=by kernel_rfl
theorem hb_71:hasBody Tryz.prog 71=true:=by kernel_rfl
theorem hb_72:hasBody Tryz.prog 72=true:=by kernel_rfl
theorem hb_73:hasBody Tryz.prog 73=true:=by kernel_rfl
theorem hb_74:hasBody Tryz.prog 74=true:=by kernel_rfl
theorem hb_75:hasBody Tryz.prog 75=true:=by kernel_rfl
theorem hb_76:hasBody Tryz.prog 76=true:=by kernel_rfl
theorem hb_77:hasBody Tryz.prog 77=true:=by kernel_rfl
theorem hb_78:hasBody Tryz.prog 78=true:=by kernel_rfl
theorem hb_79:hasBody Tryz.prog 79=true:=by kernel_rfl
theorem hb_80:hasBody Tryz.prog 80=true:=by kernel_rfl
theorem hb_81:hasBody Tryz.prog 81=true:=by kernel_rfl
theorem hb_82:hasBody Tryz.prog 82=true:=by kernel_rfl
theorem hb_83:hasBody Tryz.prog 83=true:=by kernel_rfl
theorem hb_84:hasBody Tryz.prog 84=true:=by kernel_rfl
theorem hb_85:hasBody Tryz.prog 85=true:=by kernel_rfl
theorem hb_86:hasBody Tryz.prog 86=true:=by kernel_rfl
theorem hb_91:hasBody Tryz.prog 91=true:=by kernel_rfl
theorem hb_93:hasBody Tryz.prog 93=true:=by kernel_rfl
theorem hb_92:hasBody Tryz.prog 92=true:=by kernel_rfl
theorem hb_97:hasBody Tryz.prog 97=true:=by kernel_rfl
theorem hb_98:hasBody Tryz.prog 98=true:=by kernel_rfl
theorem hb_100:hasBody Tryz.prog 100=true:=by kernel_rfl
theorem hb_99:hasBody Tryz.prog 99=true:=by kernel_rfl
theorem hb_102:hasBody Tryz.prog 102=true:=by kernel_rfl
theorem hb_101:hasBody Tryz.prog 101=true:=by kernel_rfl
theorem hb_103:hasBody Tryz.prog 103=true:=by kernel_rfl
theorem hb_105:hasBody Tryz.prog 105=true:=by kernel_rfl
theorem hb_106:hasBody Tryz.prog 106=true:=by kernel_rfl
theorem hb_107:hasBody Tryz.prog 107=true:=by kernel_rfl
theorem hb_108:hasBody Tryz.prog 108=true:=by kernel_rfl
theorem hb_109:hasBody Tryz.prog 109=true:=by kernel_rfl
theorem hb_110:hasBody Tryz.prog 110=true:=by kernel_rfl
theorem hb_111:hasBody Tryz.prog 111=true:=by kernel_rfl
theorem hb_112:hasBody Tryz.prog 112=true:=by kernel_rfl
theorem hb_113:hasBody Tryz.prog 113=true:=by kernel_rfl
theorem hb_114:hasBody Tryz.prog 114=true:=by kernel_rfl
theorem hb_115:hasBody Tryz.prog 115=true:=by kernel_rfl
theorem hb_116:hasBody Tryz.prog 116=true:=by kernel_rfl
theorem hb_117:hasBody Tryz.prog 117=true:=by kernel_rfl
theorem hb_118:hasBody Tryz.prog 118=true:=by kernel_rfl
theorem hb_119:hasBody Tryz.prog 119=true:=by kernel_rfl
theorem hb_120:hasBody Tryz.prog 120=true:=by kernel_rfl
theorem hb_129:hasBody Tryz.prog 129=true:=by kernel_rfl
theorem hb_131:hasBody Tryz.prog 131=true:=by kernel_rfl
theorem hb_134:hasBody Tryz.prog 134=true:=by kernel_rfl
theorem hb_135:hasBody Tryz.prog 135=true:=by kernel_rfl
theorem hb_136:hasBody Tryz.prog 136=true:=by kernel_rfl
theorem hb_137:hasBody Tryz.prog 137=true:=by kernel_rfl
theorem hb_138:hasBody Tryz.prog 138=true:=by kernel_rfl
theorem hb_139:hasBody Tryz.prog 139=true:=by kernel_rfl
theorem hb_140:hasBody Tryz.prog 140=true:=by kernel_rfl
theorem hb_141:hasBody Tryz.prog 141=true:=by kernel_rfl
theorem hb_142:hasBody Tryz.prog 142=true:=by kernel_rfl
theorem hb_143:hasBody Tryz.prog 143=true:=by kernel_rfl
theorem hb_144:hasBody Tryz.prog 144=true:=by kernel_rfl
theorem hb_145:hasBody Tryz.prog 145=true:=by kernel_rfl
theorem hb_146:hasBody Tryz.prog 146=true:=by kernel_rfl
theorem hb_147:hasBody Tryz.prog 147=true:=by kernel_rfl
theorem hb_133:hasBody Tryz.prog 133=true:=by kernel_rfl
theorem hb_154:hasBody Tryz.prog 154=true:=by kernel_rfl
theorem hb_155:hasBody Tryz.prog 155=true:=by kernel_rfl
theorem hb_156:hasBody Tryz.prog 156=true:=by kernel_rfl
theorem hb_157:hasBody Tryz.prog 157=true:=by kernel_rfl
theorem hb_158:hasBody Tryz.prog 158=true:=by kernel_rfl
theorem hb_159:hasBody Tryz.prog 159=true:=by kernel_rfl
theorem hb_160:hasBody Tryz.prog 160=true:=by kernel_rfl
theorem hb_161:hasBody Tryz.prog 161=true:=by kernel_rfl
theorem hb_164:hasBody Tryz.prog 164=true:=by kernel_rfl
theorem hb_165:hasBody Tryz.prog 165=true:=by kernel_rfl
theorem hb_166:hasBody Tryz.prog 166=true:=by kernel_rfl
theorem hb_4:hasBody Tryz.prog 4=true:=by kernel_rfl
theorem hb_62:hasBody Tryz.prog 62=true:=by kernel_rfl
theorem hb_104:hasBody Tryz.prog 104=true:=by kernel_rfl
theorem hb_132:hasBody Tryz.prog 132=true:=by kernel_rfl
theorem hb_153:hasBody Tryz.prog 153=true:=by kernel_rfl
set_option maxRecDepth 20000
theorem all0{p:Program}(h:p=Tryz.prog):szT p 31=some 11∧aggB p 31=true∧zeroT p 36=some [.int .i64 0,.int .i64 0,.int .i64 0,.int .i64 0,.string ⟨#[]⟩,.slice none 0 0]∧szT p 36=some 6∧aggB p 36=true∧kT p 36=8∧fieldsT p 36=some [(0,1),(1,1),(2,1),(3,1),(4,1),(5,1)]∧kT p 38=7∧kT p 3=2∧zeroT p 31=some [.string ⟨#[]⟩,.string ⟨#[]⟩,.slice none 0 0,.slice none 0 0,.slice none 0 0,.string ⟨#[]⟩,.string ⟨#[]⟩,.slice none 0 0,.slice none 0 0,.slice none 0 0,.slice none 0 0]∧fldT p 31 0=some (0,1,false)∧szT p 9=some 1∧aggB p 9=false∧kT p 9=3∧fldT p 31 5=some (5,6,true)∧fldT p 29 0=some (0,1,false)∧kT p 54=5∧fldT p 36 5=some (5,1,false)∧szT p 34=some 1∧aggB p 34=false∧kT p 34=5∧elT p 34=some (6,72)∧elZ p 34=some [.int .i64 0,.int .i64 0,.int .i64 0,.int .i64 0,.string ⟨#[]⟩,.slice none 0 0]∧fldT p 36 4=some (4,1,false)∧fldT p 31 3=some (3,1,false)∧szT p 23=some 1∧aggB p 23=false∧kT p 23=5∧fldT p 31 4=some (4,1,false)∧szT p 24=some 1∧aggB p 24=false∧kT p 24=5∧elT p 54=some (1,1)∧szT p 4=some 1∧aggB p 4=false∧fldT p 31 2=some (2,1,false)∧szT p 22=some 1∧aggB p 22=false∧kT p 22=5∧elT p 23=some (2,40)∧fldT p 59 1=some (1,1,false)∧szT p 25=some 1∧aggB p 25=false∧kT p 25=5∧elT p 24=some (3,48)∧fldT p 61 0=some (0,2,true)∧szT p 29=some 6∧aggB p 29=true∧fldT p 31 1=some (1,1,false)∧fldT p 59 0=some (0,1,false)∧kT p 45=2∧szT p 59=some 2∧aggB p 59=true∧zeroT p 59=some [.string ⟨#[]⟩,.slice none 0 0]∧szT p 61=some 3∧aggB p 61=true∧zeroT p 61=some [.string ⟨#[]⟩,.slice none 0 0,.int .i64 0]∧fldT p 61 1=some (2,1,false)∧szT p 3=some 1∧aggB p 3=false∧fldT p 29 5=some (5,1,false)∧szT p 27=some 1∧aggB p 27=false∧kT p 27=5∧fldT p 36 0=some (0,1,false)∧fldT p 36 1=some (1,1,false)∧fldT p 36 2=some (2,1,false)∧fldT p 36 3=some (3,1,false)∧kT p 31=8∧fieldsT p 31=some [(0,1),(1,1),(2,1),(3,1),(4,1),(5,6)]∧kT p 29=8∧zeroT p 29=some [.string ⟨#[]⟩,.string ⟨#[]⟩,.slice none 0 0,.slice none 0 0,.slice none 0 0,.slice none 0 0]∧fieldsT p 29=some [(0,1),(1,1),(2,1),(3,1),(4,1),(5,1)]∧elT p 25=some (1,16)∧elZ p 25=some [.string ⟨#[]⟩]∧zvT p 45=some (.int .i64 0)∧fldT p 29 4=some (4,1,false)∧szT p 26=some 1∧aggB p 26=false∧kT p 26=5∧elT p 26=some (5,88)∧szT p 91=some 5∧aggB p 91=true∧elT p 27=some (6,128)∧kT p 59=8∧fieldsT p 59=some [(0,1),(1,1)]∧elZ p 23=some [.string ⟨#[]⟩,.slice none 0 0]∧elT p 22=some (2,32)∧szT p 84=some 2∧aggB p 84=true∧zeroT p 84=some [.string ⟨#[]⟩,.string ⟨#[]⟩]∧fldT p 84 0=some (0,1,false)∧fldT p 84 1=some (1,1,false)∧zeroT p 3=some [.int .i64 0]∧kT p 5=2∧fldT p 29 1=some (1,1,false)∧fldT p 29 2=some (2,1,false)∧fldT p 29 3=some (3,1,false)∧kT p 84=8∧strsT p 84=some 2∧fldT p 91 4=some (4,1,false)∧intT p 3=some .i64∧intT p 122=some .u64∧kT p 122=2∧elT p 157=some (1,8)∧elZ p 157=some [.int .i64 0]∧kT p 129=8∧zeroT p 129=some [.int .i64 0]∧fieldsT p 129=some [(0,1)]∧fldT p 91 0=some (0,1,false)∧fldT p 91 2=some (2,1,false)∧fldT p 91 1=some (1,1,false)∧fldT p 91 3=some (3,1,false)∧fieldsT p 84=some [(0,1),(1,1)]∧elZ p 22=some [.string ⟨#[]⟩,.string ⟨#[]⟩]∧kT p 61=8∧fieldsT p 61=some [(0,2),(2,1)]∧elZ p 24=some [.string ⟨#[]⟩,.slice none 0 0,.int .i64 0]∧zeroT p 91=some [.string ⟨#[]⟩,.string ⟨#[]⟩,.int .i64 0,.slice none 0 0,.slice none 0 0]∧kT p 146=2∧intT p 154=some .u32∧kT p 154=2∧kT p 157=5∧intT p 9=none∧intT p 161=none∧kT p 161=5∧u8T p 161=true∧elT p 161=some (1,1)∧szT p 5=some 1∧aggB p 5=false∧intT p 171=some .u64∧kT p 171=2∧zeroT p 171=some [.int .u64 0]∧szT p 171=some 1∧aggB p 171=false∧intT p 5=some .u8∧kT p 156=2∧intT p 156=some .u64∧fldT p 129 0=some (0,1,false)∧elZ p 27=some [.string ⟨#[]⟩,.string ⟨#[]⟩,.slice none 0 0,.slice none 0 0,.slice none 0 0,.slice none 0 0]∧elZ p 26=some [.string ⟨#[]⟩,.string ⟨#[]⟩,.int .i64 0,.slice none 0 0,.slice none 0 0]∧kT p 91=8∧fieldsT p 91=some [(0,1),(1,1),(2,1),(3,1),(4,1)]:=by
 subst h
 (repeat' apply And.intro)<;>kernel_rfl
theorem all:type_of% (all0 rfl):=all0 rfl
theorem w:type_of% (And.intro @w0 @all):=And.intro @w0 @all
end Ty
section
variable {P:Program}{ow:Nat→Bool}{wf:FuncId→Bool}{n:Nat}{Q:Post}{s:Slots}{h:Heap}{f q:Prop}
theorem zI:Nonempty Unit:=⟨()⟩
theorem uu{a b:Prop}(x:a)(y:b):a∧b:=⟨x,y⟩
theorem uR{id:Nat}{ops:List Oper}{K:Slots→Heap→Prop}(W:f)(k:q)(e:f→q→lwn P ow n ops ops K s h:=by(first|(intro W k;simp(maxSteps:=2000000) only[Ty.w,simprocAttr,Option.getD_some,Option.getD_none,List.nil_append,Option.map_some,W];exact k)|(refine fun W (_:Nonempty Unit)=>?_;simp(maxSteps:=2000000) only[Ty.w,simprocAttr,Option.getD_some,Option.getD_none,List.nil_append,Option.map_some,W]))):awp P ow wf n (.region id ops.toArray false) (Post.seq K Q) s h:=a_regionS (e W k)
theorem uQ{id:Nat}{ops:List Oper}{q:(Slots→Heap→Prop)→Prop}(W:f)(k: ∀ K:Slots→Heap→Prop,(∀ s h,Q .normal s h→K s h)→q K)(e: ∀ K:Slots→Heap→Prop,f→q K→lwn P ow n ops ops K s h:=by(intro K;first|(intro W k;simp(maxSteps:=2000000) only[Ty.w,simprocAttr,Option.getD_some,Option.getD_none,List.nil_append,Option.map_some,W];exact k)|(refine fun W (_:Nonempty Unit)=>?_;simp(maxSteps:=2000000) only[Ty.w,simprocAttr,Option.getD_some,Option.getD_none,List.nil_append,Option.map_some,W]))):awp P ow wf n (.region id ops.toArray false) Q s h:=a_region fun K hK=>e K W (k K hK)
theorem uD{id:Nat}{ops:List Oper}{K:Slots→Heap→Prop}(W:f)(k:q)(hd:dOk ow wf ops=true:=by decide+kernel)(e:f→q→drn P ow wf n ops 0 ops [] [] K s h:=by(first|(intro W k;simp(maxSteps:=2000000) only[Ty.w,simprocAttr,Option.getD_some,Option.getD_none,List.nil_append,Option.map_some,W];exact k)|(refine fun W (_:Nonempty Unit)=>?_;simp(maxSteps:=2000000) only[Ty.w,simprocAttr,Option.getD_some,Option.getD_none,List.nil_append,Option.map_some,W]))):awp P ow wf n (.region id ops.toArray true) (Post.seq K Q) s h:=a_drawS hd (e W k)
theorem uE{id:Nat}{ops:List Oper}{q:(Slots→Heap→Prop)→Prop}(W:f)(k: ∀ K:Slots→Heap→Prop,(∀ s h,Q .normal s h→K s h)→q K)(hd:dOk ow wf ops=true:=by decide+kernel)(e: ∀ K:Slots→Heap→Prop,f→q K→drn P ow wf n ops 0 ops [] [] K s h:=by(intro K;first|(intro W k;simp(maxSteps:=2000000) only[Ty.w,simprocAttr,Option.getD_some,Option.getD_none,List.nil_append,Option.map_some,W];exact k)|(refine fun W (_:Nonempty Unit)=>?_;simp(maxSteps:=2000000) only[Ty.w,simprocAttr,Option.getD_some,Option.getD_none,List.nil_append,Option.map_some,W]))):awp P ow wf n (.region id ops.toArray true) Q s h:=a_draw hd fun K hK=>e K W (k K hK)
theorem uT(W:f)(k:q)(e:f→q→Q .ret s h:=by(first|(intro W k;simp(maxSteps:=2000000) only[Ty.w,simprocAttr,Option.getD_some,Option.getD_none,List.nil_append,Option.map_some,W];exact k)|(refine fun W (_:Nonempty Unit)=>?_;simp(maxSteps:=2000000) only[Ty.w,simprocAttr,Option.getD_some,Option.getD_none,List.nil_append,Option.map_some,W]))):awp P ow wf n .ret Q s h:=a_ret (e W k)
theorem uK(k:q)(e:q→Q .normal s h:=by(first|(intro k;(try simp only[pst0,simprocAttr]);exact k)|(refine fun(_:Nonempty Unit)=>?_;simp only[pst0,simprocAttr]))):awp P ow wf n .skip Q s h:=a_skip (e k)
theorem uX{id:Nat}(k:q)(e:q→Q (.exit id) s h:=by(first|(intro k;(try simp only[pst0,simprocAttr]);exact k)|(refine fun(_:Nonempty Unit)=>?_;simp only[pst0,simprocAttr]))):awp P ow wf n (.exit id) Q s h:=a_exit (e k)
theorem uN{K R:Slots→Heap→Prop}(hK: ∀ s h,R s h→K s h)(k:q)(e:q→R s h:=by(first|(intro k;(try simp only[pst0,simprocAttr]);exact k)|(refine fun(_:Nonempty Unit)=>?_;simp only[pst0,simprocAttr]))):K s h:=hK _ _ (e k)
theorem uC{c:Operand}{x y:Code}{b:Bool}(W:f)(h1:b=true→awp P ow wf n x Q s h)(h2:b=false→awp P ow wf n y Q s h)(e:f→pev s c= .sc (.bool b):=by(intro W;(try simp(maxSteps:=2000000) only[Ty.w,simprocAttr,Option.getD_some,Option.getD_none,List.nil_append,Option.map_some,W]);rfl)):awp P ow wf n (.cond c x y) Q s h:=a_cond b (e W) h1 h2
theorem uC1{c:Operand}{x y:Code}{b:Bool}(W:f)(k:q)(e:f→pev s c= .sc (.bool b):=by(intro W;(try simp(maxSteps:=2000000) only[Ty.w,simprocAttr,Option.getD_some,Option.getD_none,List.nil_append,Option.map_some,W]);rfl))(e2:q→awp P ow wf n (bif b then x else y) Q s h:=by(intro k;(first|rw[cond_true]|rw[cond_false]);exact k)):awp P ow wf n (.cond c x y) Q s h:=a_cond b (e W) (fun hb=>by have:=e2 k;rw[hb,cond_true]at this;exact this) (fun hb=>by have:=e2 k;rw[hb,cond_false]at this;exact this)
theorem uB{α:Type}{A:Nat × α→Prop}{ops:List Oper}{kk:Nat}{R:Prop}{l:List (Nat × α)}(W:f)(k:q)(h1:f→ ∀ x∈l,pre ops x.1 kk=true∨A x:=by(intro W;simp only[List.forall_mem_cons,Ty.w,simprocAttr,W]<;>(repeat' apply And.intro)<;>first|trivial|exact .inl (by decide+kernel)))(e:f→q→R:=by(first|(intro W k;(try simp(maxSteps:=2000000) only[Ty.w,simprocAttr,Option.getD_some,Option.getD_none,List.nil_append,Option.map_some,W]);exact k)|(refine fun W (_:Nonempty Unit)=>?_;simp(maxSteps:=2000000) only[Ty.w,simprocAttr,Option.getD_some,Option.getD_none,List.nil_append,Option.map_some,W]))):(∀ x∈l,pre ops x.1 kk=true∨A x)∧R:=a_past2 (h1 W) (e W k)
theorem uU{fn:FuncId}{dst:Option Tmp}{args:List Operand}{ts:Array TypeId}{ty:TypeId}{pos:String}{af:Array Edge}{gd:Option (Nat × Bool)}{ag:List PV}{v:PV}{K:Slots→Heap→Prop}{ops rest:List Oper}(W:f)(hc:PCall P fn ag h fun r h'=>r=v∧h'=h)(k:q)(ha:f→args.map (pev s)=ag:=by(intro W;(try simp only[Ty.w,simprocAttr,W]);try rfl))(e:f→q→lwn P ow n ops rest K (updO s dst v) h:=by(first|(intro W k;simp(maxSteps:=2000000) only[Ty.w,simprocAttr,Option.getD_some,Option.getD_none,List.nil_append,Option.map_some,W];exact k)|(refine fun W (_:Nonempty Unit)=>?_;simp(maxSteps:=2000000) only[Ty.w,simprocAttr,Option.getD_some,Option.getD_none,List.nil_append,Option.map_some,W]))):
  owp P ow {dst:=dst,op:= .call {callee:= .value (.func fn),args:=args.toArray,argTypes:=ts},type:=ty,pos:=pos,after:=af,guard:=gd} (lwp P ow n ops rest K) s h:=owp_useQ hc (ha W) (e W k)
theorem uV{fn:FuncId}{d:Nat}{args:List Operand}{ts:Array TypeId}{ty:TypeId}{pos:String}{af:Array Edge}{gd:Option (Nat × Bool)}{ag:List PV}{v:PV}{ops rest:List Oper}{kk k':Nat}{past:Past}{hist:List (Nat × Heap)}{K:Slots→Heap→Prop}(W:f)(hc:PCall P fn ag h fun r h'=>r=v∧h'=h)(k:q)(ha:f→args.map (pev s)=ag:=by(intro W;(try simp only[Ty.w,simprocAttr,W]);try rfl))
  (e:f→q→drn P ow wf n ops kk rest ((k',{dst:=some d,op:= .call {callee:= .value (.func fn),args:=args.toArray,argTypes:=ts},type:=ty,pos:=pos,after:=af,guard:=gd},s,v)::past) hist K (upd s d v) h:=by(first|(intro W k;simp(maxSteps:=2000000) only[Ty.w,simprocAttr,Option.getD_some,Option.getD_none,List.nil_append,Option.map_some,W];exact k)|(refine fun W (_:Nonempty Unit)=>?_;simp(maxSteps:=2000000) only[Ty.w,simprocAttr,Option.getD_some,Option.getD_none,List.nil_append,Option.map_some,W]))):
  ∃ v,Does P ow {dst:=some d,op:= .call {callee:= .value (.func fn),args:=args.toArray,argTypes:=ts},type:=ty,pos:=pos,after:=af,guard:=gd} (pev s) h v h∧
   drun P ow wf n ops kk rest (pastC P ow ((k',{dst:=some d,op:= .call {callee:= .value (.func fn),args:=args.toArray,argTypes:=ts},type:=ty,pos:=pos,after:=af,guard:=gd},s,v)::past)) hist K (upd s d v) h:=a_dcall0 hc (ha W) (e W k)
theorem uA{fn:FuncId}{d:Nat}{args:List Operand}{ts:Array TypeId}{ty:TypeId}{pos:String}{af:Array Edge}{gd:Option (Nat × Bool)}{ag:List PV}{v:PV}{ops rest:List Oper}{kk k':Nat}{past:Past}{hist:List (Nat × Heap)}{K:Slots→Heap→Prop}{A:PV→Prop}(W:f)(hc:PCall P fn ag h fun r h'=>r=v∧h'=h)(k:q)(ha:f→args.map (pev s)=ag:=by(intro W;(try simp only[Ty.w,simprocAttr,W]);try rfl))(hA:f→A v:=by(intro W;simp only[Ty.w,simprocAttr,W];try trivial))
  (e:f→q→drn P ow wf n ops kk rest ((k',{dst:=some d,op:= .call {callee:= .value (.func fn),args:=args.toArray,argTypes:=ts},type:=ty,pos:=pos,after:=af,guard:=gd},s,v)::past) hist K (upd s d v) h:=by(first|(intro W k;simp(maxSteps:=2000000) only[Ty.w,simprocAttr,Option.getD_some,Option.getD_none,List.nil_append,Option.map_some,W];exact k)|(refine fun W (_:Nonempty Unit)=>?_;simp(maxSteps:=2000000) only[Ty.w,simprocAttr,Option.getD_some,Option.getD_none,List.nil_append,Option.map_some,W]))):
  ∃ v,Does P ow {dst:=some d,op:= .call {callee:= .value (.func fn),args:=args.toArray,argTypes:=ts},type:=ty,pos:=pos,after:=af,guard:=gd} (pev s) h v h∧A v∧
   drun P ow wf n ops kk rest (pastC P ow ((k',{dst:=some d,op:= .call {callee:= .value (.func fn),args:=args.toArray,argTypes:=ts},type:=ty,pos:=pos,after:=af,guard:=gd},s,v)::past)) hist K (upd s d v) h:=a_dcallA hc (ha W) (hA W) (e W k)
theorem uG{fid:FuncId}{fn:Func}{c:Code}{args:List PV}{m:Nat}{rs:Array ResultVar}{K:PV→Heap→Prop}(hf:Tryz.prog.funcs[fid]? =some fn)(h1:fn.ntmps=m)(h2:fn.results=rs)(hh:hasBody Tryz.prog fid=true)(hw:awp Tryz.prog ow wf m c (retPost Tryz.prog rs.toList K) (slots0 args) h)(hb:fn.body=some c:=by rfl)(hn:args.length≤m:=by simp):PCall Tryz.prog fid args h K:=by
 subst h1 h2;exact pcall_body Ty.mixed hf hb hh hn hw
theorem uG0{fid:FuncId}{fn:Func}{c:Code}{args:List PV}{m:Nat}{rs:Array ResultVar}{K:PV→Heap→Prop}(hf:Tryz.prog.funcs[fid]? =some fn)(h1:fn.ntmps=m)(h2:fn.results=rs)(hh:hasBody Tryz.prog fid=true)(hw:awp Tryz.prog (fun _=>false) (fun _=>false) m c (retPost Tryz.prog rs.toList K) (slots0 args) h)(hb:fn.body=some c:=by rfl)(hn:args.length≤m:=by simp):PCall Tryz.prog fid args h K:=uG hf h1 h2 hh hw hb hn
end
end Go.Proofs.YtjeolbgpllbemaaGreat
namespace Go.AM
structure Pm where
 name:ByteArray
 type:ByteArray
inductive Ex where
 |mk(op name:ByteArray)(n:Int)(args:List ByteArray)(kids:List Ex)
inductive Fm where
 |mk(op name:ByteArray)(args:List ByteArray)(params:List Pm)(exprs:List Ex)(kids:List Fm)
abbrev sPV(s:ByteArray):PV:= .sc (.string s)
def strRows(l:List ByteArray):List (List PV):=l.map fun s=>[sPV s]
def pmRow(p:Pm):List PV:=[sPV p.name,sPV p.type]
def pmRows(l:List Pm):List (List PV):=l.map pmRow
theorem pmRows_len(l:List Pm):(pmRows l).length=l.length:=by simp[pmRows]
theorem pmRows_get{l:List Pm}{i:Nat}{p:Pm}(h:l[i]? =some p):(pmRows l)[i]? =some [sPV p.name,sPV p.type]:=by simp[pmRows,h,pmRow]
mutual
def Ex.cells:Ex→List PV
 | .mk op name n args kids=>[sPV op,sPV name,.sc (.int .i64 n),.imm 1 (strRows args),.imm 5 (Ex.rows kids)]
def Ex.rows:List Ex→List (List PV)
 |[]=>[]
 |k::ks=>k.cells::Ex.rows ks
end
mutual
def Fm.cells:Fm→List PV
 | .mk op name args params exprs kids=>[sPV op,sPV name,.imm 1 (strRows args),.imm 2 (pmRows params),.imm 5 (Ex.rows exprs),.imm 6 (Fm.rows kids)]
def Fm.rows:List Fm→List (List PV)
 |[]=>[]
 |k::ks=>k.cells::Fm.rows ks
end
theorem Ex.rows_map: ∀ l:List Ex,Ex.rows l=l.map Ex.cells
 |[]=>rfl
 |k::ks=>by simp[Ex.rows,Ex.rows_map ks]
theorem Fm.rows_map: ∀ l:List Fm,Fm.rows l=l.map Fm.cells
 |[]=>rfl
 |k::ks=>by simp[Fm.rows,Fm.rows_map ks]
def bEq(a b:ByteArray):Bool:=a.data.toList==b.data.toList
def bsEq:List ByteArray→List ByteArray→Bool
 |[],[]=>true
 |a::l,b::m=>bEq a b&&bsEq l m
 |_,_=>false
def pmEq(a b:Pm):Bool:=bEq a.name b.name&&bEq a.type b.type
def pmsEq:List Pm→List Pm→Bool
 |[],[]=>true
 |a::l,b::m=>pmEq a b&&pmsEq l m
 |_,_=>false
mutual
def Ex.same:Ex→Ex→Bool
 | .mk op name n args kids,.mk op' name' n' args' kids'=>bEq op op'&&bEq name name'&&n==n'&&bsEq args args'&&Ex.sames kids kids'
def Ex.sames:List Ex→List Ex→Bool
 |[],[]=>true
 |a::l,b::m=>a.same b&&Ex.sames l m
 |_,_=>false
end
mutual
def Fm.same:Fm→Fm→Bool
 | .mk op name args params exprs kids,.mk op' name' args' params' exprs' kids'=>bEq op op'&&bEq name name'&&bsEq args args'&&pmsEq params params'&&Ex.sames exprs exprs'&&Fm.sames kids kids'
def Fm.sames:List Fm→List Fm→Bool
 |[],[]=>true
 |a::l,b::m=>a.same b&&Fm.sames l m
 |_,_=>false
end
theorem Ex.rows_len(l:List Ex):(Ex.rows l).length=l.length:=by simp[Ex.rows_map]
theorem Fm.rows_len(l:List Fm):(Fm.rows l).length=l.length:=by simp[Fm.rows_map]
theorem Ex.rows_get{l:List Ex}{i:Nat}{k:Ex}(h:l[i]? =some k):(Ex.rows l)[i]? =some k.cells:=by simp[Ex.rows_map,h]
theorem Fm.rows_get{l:List Fm}{i:Nat}{k:Fm}(h:l[i]? =some k):(Fm.rows l)[i]? =some k.cells:=by simp[Fm.rows_map,h]
theorem Ex.ind{C:Ex→Prop}(hC: ∀ op name n args kids,(∀ k∈kids,C k)→C (.mk op name n args kids)): ∀ e,C e
 | .mk op name n args kids=>hC op name n args kids fun k hk=>Ex.ind hC k
termination_by e=>SizeOf.sizeOf e
decreasing_by
 have:=List.sizeOf_lt_of_mem hk;simp only[Ex.mk.sizeOf_spec];omega
theorem Fm.ind{C:Fm→Prop}(hC: ∀ op name args params exprs kids,(∀ k∈kids,C k)→C (.mk op name args params exprs kids)): ∀ f,C f
 | .mk op name args params exprs kids=>hC op name args params exprs kids fun k hk=>Fm.ind hC k
termination_by f=>SizeOf.sizeOf f
decreasing_by
 have:=List.sizeOf_lt_of_mem hk;simp only[Fm.mk.sizeOf_spec];omega
theorem Ex.sames_len: ∀ {l m:List Ex},¬ l.length=m.length→Ex.sames l m=false
 |[],[],h=>by simp at h
 |[],_::_,_=>rfl
 |_::_,[],_=>rfl
 |a::l,b::m,h=>by simp only[Ex.sames,Ex.sames_len (l:=l) (m:=m) (by simpa using h),Bool.and_false]
theorem Fm.sames_len: ∀ {l m:List Fm},¬ l.length=m.length→Fm.sames l m=false
 |[],[],h=>by simp at h
 |[],_::_,_=>rfl
 |_::_,[],_=>rfl
 |a::l,b::m,h=>by simp only[Fm.sames,Fm.sames_len (l:=l) (m:=m) (by simpa using h),Bool.and_false]
def bigN:Nat:=1152921504606846976
mutual
def Ex.ok:Ex→Prop
 | .mk op name n args kids=>op.size≤bigN∧name.size≤bigN∧(-9223372036854775808≤n∧n≤9223372036854775807)∧(args.length≤bigN∧ ∀ a∈args,a.size≤bigN)∧kids.length≤bigN∧Ex.oks kids
def Ex.oks:List Ex→Prop
 |[]=>True
 |k::ks=>k.ok∧Ex.oks ks
end
def Pm.ok(p:Pm):Prop:=p.name.size≤bigN∧p.type.size≤bigN
mutual
def Fm.ok:Fm→Prop
 | .mk op name args params exprs kids=>op.size≤bigN∧name.size≤bigN∧(args.length≤bigN∧ ∀ a∈args,a.size≤bigN)∧(params.length≤bigN∧ ∀ p∈params,p.ok)∧(exprs.length≤bigN∧Ex.oks exprs)∧kids.length≤bigN∧Fm.oks kids
def Fm.oks:List Fm→Prop
 |[]=>True
 |k::ks=>k.ok∧Fm.oks ks
end
theorem Ex.oks_iff:{l:List Ex}→(Ex.oks l↔ ∀ k∈l,k.ok)
 |[]=>by simp[Ex.oks]
 |k::ks=>by simp[Ex.oks,Ex.oks_iff (l:=ks)]
theorem Fm.oks_iff:{l:List Fm}→(Fm.oks l↔ ∀ k∈l,k.ok)
 |[]=>by simp[Fm.oks]
 |k::ks=>by simp[Fm.oks,Fm.oks_iff (l:=ks)]
structure Grow(h h':Heap):Prop where
 le:h.next≤h'.next
 old: ∀ id,id<h.next→h'.obj id=h.obj id
theorem Grow.refl(h:Heap):Grow h h:=⟨Nat.le_refl _,fun _ _=>rfl⟩
theorem Grow.new{h h':Heap}(g:Grow h h')(o:AObj):Grow h (h'.new o):=
 ⟨Nat.le_trans g.le (by simp[Heap.new]),fun id hid=>by simp only[Heap.new];rw[if_neg (by have:=g.le;omega)];exact g.old id hid⟩
theorem Grow.set{h h':Heap}(g:Grow h h'){id:Nat}(hid:h.next≤id)(o:AObj):Grow h (h'.set id o):=
 ⟨g.le,fun i hi=>by simp only[Heap.set];rw[if_neg (by omega)];exact g.old i hi⟩
theorem Grow.kill{h h':Heap}(g:Grow h h'){id:Nat}(hid:h.next≤id):Grow h (h'.kill id):=
 ⟨g.le,fun i hi=>by simp only[Heap.kill];rw[if_neg (by omega)];exact g.old i hi⟩
theorem Grow.trans{h h' h2:Heap}(g:Grow h h')(k:Grow h' h2):Grow h h2:=
 ⟨Nat.le_trans g.le k.le,fun i hi=>by rw[k.old i (by have:=g.le;omega)];exact g.old i hi⟩
theorem PCall.quiet{P:Program}{f:FuncId}{args:List PV}{h:Heap}{v:Value}(hb:hasBody P f=true)(hc:PCall P f args h fun r h'=>r= .sc v∧Grow h h'):PCall P f args h fun r h'=>r= .sc v∧h'=h:=by
 refine pcall_wf hb fun hw=>PCall.drop (hc.mono ?_);rintro r h' ⟨rfl,g⟩;refine⟨.sc v,h,⟨rfl,rfl⟩,by simp only[FrzTo],Nat.le_refl _,fun id o ho=>?_⟩;have hid:=hw id (by rw[ho];try rfl);exact⟨by rw[g.old id hid];exact ho,hid,.inl ho⟩
theorem owp_useV{P:Program}{ow:Nat→Bool}{n:Nat}{s:Slots}{h:Heap}{f:FuncId}{fo:Operand}{dst:Option Tmp}{args:List Operand}{ts:Array TypeId}{ty:TypeId}{pos:String}{af:Array Edge}{gd:Option (Nat × Bool)}{ags:List PV}{v:PV}{K:Slots→Heap→Prop}{ops rest:List Oper}
  (hf:pev s fo= .sc (.func (.func f) #[] #[]))(hc:PCall P f ags h fun r h'=>r=v∧h'=h)(ha:args.map (pev s)=ags)(hk:lwn P ow n ops rest K (updO s dst v) h):
  owp P ow {dst:=dst,op:= .call {callee:= .value fo,args:=args.toArray,argTypes:=ts},type:=ty,pos:=pos,after:=af,guard:=gd} (lwp P ow n ops rest K) s h:=by
 unfold owp;simp only[callee,hf,and_self,if_true];rw[ha];exact hc.mono fun r h' hr=>by rw[hr.1,hr.2];exact lwn_lwp _ _ _ hk
end Go.AM
namespace Go.Proofs.YtjeolbgpllbemaaGreat
open Go.AM
set_option maxHeartbeats 2000000
set_option maxRecDepth 20000
def words:List ByteArray:=[⟨#[97,110,100]⟩,⟨#[111,114]⟩,⟨#[110,111,116]⟩,⟨#[105,109,112,108,121]⟩,⟨#[102,111,114,97,108,108]⟩,⟨#[101,120,105,115,116,115]⟩,⟨#[119,104,101,110]⟩,⟨#[97,115,115,105,103,110]⟩,⟨#[105,110,99,114,101,97,115,101]⟩,⟨#[100,101,99,114,101,97,115,101]⟩,⟨#[111,98,106,101,99,116]⟩]
theorem words_len:words.length=11:=rfl
def idxM(l:List ByteArray)(s:ByteArray):Int:=match l.findIdx? (fun w=>bEq s w)with
 |some i=>i
 |none=> -1
theorem strRows_get{l:List ByteArray}{i:Nat}{w:ByteArray}(h:l[i]? =some w):(strRows l)[i]? =some [sPV w]:=by simp[strRows,h]
theorem strRows_len(l:List ByteArray):(strRows l).length=l.length:=by simp[strRows]
theorem index_c{h:Heap}{l:List ByteArray}{s:ByteArray}(hl:l.length≤9223372036854775807):PCall Tryz.prog 77 [.imm 1 (strRows l),sPV s] h fun r h'=>r= .sc (.int .i64 (idxM l s))∧h'=h:=by
 have hlen:=strRows_len l;refine uG0 Tryz.func77 Tryz.ntmps77 Tryz.results77 Ty.hb_77 ?_;repeat'(first|refine a_seq fun K hK=>?_|refine a_block ?_|refine uR hlen ?_|(refine uN hK ?_;clear hK)|apply zI)
 refine a_loop (fun m S h'=>h'=h∧S 0= .imm 1 (strRows l)∧S 1=sPV s∧S 7= .sc (.int .i64 l.length)∧ ∃ k:Nat,S 8= .sc (.int .i64 k)∧k≤l.length∧m=l.length-k∧ ∀ (i:Nat)(w:ByteArray),i<k→l[i]? =some w→bEq s w=false) l.length ?_ ?_
 ·simp only[Ty.w,simprocAttr];exact⟨0,rfl,by omega,rfl,by omega⟩
 ·rintro m S h' ⟨rfl,g0,g1,g7,k,g8,hk,rfl,hall⟩;by_cases hlt:k<l.length
  ·have hd:decide ((k:Int)<(l.length:Int))=true:=(by simp;omega);have w7:IntKind.i64.wrap ((k:Int)+1)=k+1:=(by rw[wrap64 (by omega) (by omega)]);obtain⟨w,hx⟩: ∃ w,l[k]? =some w:=⟨l[k],List.getElem?_eq_getElem hlt⟩;have hr:=strRows_get hx;cases he:bEq s w with
   |true=>
    have he':=he;unfold bEq at he';replace zz:=uu g0 (uu g1 (uu g7 (uu g8 (uu hd (uu hr he')))));(repeat'(first|refine a_seq fun K hK=>?_|refine uR zz ?_|refine uT zz ?_|refine uK ?_|refine uC1 zz ?_|(refine uN hK ?_;clear hK)|apply zI));have:l.findIdx? (fun w=>bEq s w)=some k:=by
     rw[List.findIdx?_eq_some_iff_getElem];refine⟨hlt,?_,fun j hj=>?_⟩
     ·rw [List.getElem?_eq_getElem hlt]at hx;simp only[Option.some.injEq]at hx;rw[hx];exact he
     ·rw [hall j l[j] hj (List.getElem?_eq_getElem (by omega))];simp
    simp only[idxM,this]
   |false=>
    have he':=he;unfold bEq at he';replace zz:=uu g0 (uu g1 (uu g7 (uu g8 (uu hd (uu hr (uu he' w7))))));(repeat'(first|refine a_seq fun K hK=>?_|refine a_block ?_|refine uR zz ?_|refine uK ?_|refine uC1 zz ?_|(refine uN hK ?_;clear hK)|apply zI));refine⟨l.length-(k+1),by omega,k+1,by simp,by omega,rfl,fun i w2 hi hw=>?_⟩;by_cases hik:i=k
    ·subst hik;rw[hx]at hw;simp at hw;rw[← hw];exact he
    ·exact hall i w2 (by omega) hw
  ·have hd:decide ((k:Int)<(l.length:Int))=false:=(by simp;omega);replace zz:=uu g0 (uu g1 (uu g7 (uu g8 hd)));(repeat'(first|refine a_seq fun K hK=>?_|refine uR zz ?_|refine uT zz ?_|refine uX ?_|refine uC1 zz ?_|(refine uN hK ?_;clear hK)|(clear hK;refine uN hK ?_;clear hK)|apply zI));have:l.findIdx? (fun w=>bEq s w)=none:=by
    rw[List.findIdx?_eq_none_iff];intro w hw;obtain⟨i,hi⟩:=List.getElem?_of_mem hw;have:i<l.length:=(List.getElem?_eq_some_iff.1 hi).1;exact hall i w (by omega) hi
   simp only[idxM,this]
theorem idxM_any(l:List ByteArray)(s:ByteArray):decide (idxM l s≥0)=l.any (fun w=>bEq s w):=by
 unfold idxM;cases h:l.findIdx? (fun w=>bEq s w)with
 |none=>
  rw[List.findIdx?_eq_none_iff]at h;have:l.any (fun w=>bEq s w)=false:=by simpa using h
  rw[this];try rfl
 |some i=>
  rw[List.findIdx?_eq_some_iff_getElem]at h;obtain⟨hi,h1,_⟩:=h;have:l.any (fun w=>bEq s w)=true:=List.any_eq_true.2 ⟨l[i],List.getElem_mem hi,h1⟩;rw[this];simp
theorem contains_c{h:Heap}{l:List ByteArray}{s:ByteArray}(hl:l.length≤9223372036854775807):PCall Tryz.prog 101 [.imm 1 (strRows l),sPV s] h fun r h'=>r= .sc (.bool (l.any fun w=>bEq s w))∧h'=h:=by
 refine uG0 Tryz.func101 Tryz.ntmps101 Tryz.results101 Ty.hb_101 ?_;repeat'(first|refine a_seq fun K hK=>?_|refine uR trivial ?_|(refine uN hK ?_;clear hK)|apply zI)
 refine uU trivial (index_c (l:=l) (s:=s) hl) ?_;repeat'(first|refine uT trivial ?_|(refine uN hK ?_;clear hK)|apply zI)
 rw[← idxM_any]
theorem reserved_c{h:Heap}:PCall Tryz.prog 102 [] h fun r h'=>r= .imm 1 (strRows words)∧h'=h:=by
 refine uG0 Tryz.func102 Tryz.ntmps102 Tryz.results102 Ty.hb_102 ?_;repeat'(first|refine a_seq fun K hK=>?_|refine uR trivial ?_|refine uT trivial ?_|(refine uN hK ?_;clear hK)|apply zI)
 rfl
theorem rreserved_c{h:Heap}{s:ByteArray}:PCall Tryz.prog 65 [sPV s] h fun r h'=>r= .sc (.bool (words.any fun w=>bEq s w))∧h'=h:=by
 refine uG0 Tryz.func65 Tryz.ntmps65 Tryz.results65 Ty.hb_65 ?_;repeat'(first|refine a_seq fun K hK=>?_|refine a_block ?_|refine uR trivial ?_|(refine uN hK ?_;clear hK)|apply zI)
 refine a_loop (fun m S h'=>h'=h∧S 0=sPV s∧S 3= .imm 1 (strRows words)∧ ∃ k:Nat,S 4= .sc (.int .i64 k)∧k≤11∧m=11-k∧ ∀ (i:Nat)(w:ByteArray),i<k→words[i]? =some w→bEq s w=false) 11 ?_ ?_
 ·simp only[Ty.w,simprocAttr];refine⟨rfl,0,rfl,by omega,rfl,by omega⟩
 ·rintro m S h' ⟨rfl,g0,g3,k,g4,hk,rfl,hall⟩;have hlen:(strRows words).length=11:=rfl;by_cases hlt:k<11
  ·have hd:decide ((k:Int)<11)=true:=(by simp;omega);have w7:IntKind.i64.wrap ((k:Int)+1)=k+1:=(by rw[wrap64 (by omega) (by omega)]);obtain⟨w,hx⟩: ∃ w,words[k]? =some w:=⟨words[k],List.getElem?_eq_getElem (by rw[words_len];exact hlt)⟩;have hr:=strRows_get hx;cases he:bEq s w with
   |true=>
    have he':(w.data.toList==s.data.toList)=true:=(by rw[BEq.comm];exact he);replace zz:=uu g0 (uu g3 (uu g4 (uu hlen (uu hd (uu hr he')))));(repeat'(first|refine a_seq fun K hK=>?_|refine uR zz ?_|refine uT zz ?_|refine uK ?_|refine uC1 zz ?_|(refine uN hK ?_;clear hK)|apply zI));rw[List.any_eq_true.2 ⟨w,List.mem_of_getElem? hx,he⟩]
   |false=>
    have he':(w.data.toList==s.data.toList)=false:=(by rw[BEq.comm];exact he);replace zz:=uu g0 (uu g3 (uu g4 (uu hlen (uu hd (uu hr (uu he' w7))))));(repeat'(first|refine a_seq fun K hK=>?_|refine a_block ?_|refine uR zz ?_|refine uK ?_|refine uC1 zz ?_|(refine uN hK ?_;clear hK)|apply zI));refine⟨11-(k+1),by omega,k+1,by simp,by omega,rfl,fun i w2 hi hw=>?_⟩;by_cases hik:i=k
    ·subst hik;rw[hx]at hw;simp at hw;rw[← hw];exact he
    ·exact hall i w2 (by omega) hw
  ·have hd:decide ((k:Int)<11)=false:=(by simp;omega);replace zz:=uu g0 (uu g3 (uu g4 (uu hlen hd)));(repeat'(first|refine a_seq fun K hK=>?_|refine uR zz ?_|refine uT zz ?_|refine uX ?_|refine uC1 zz ?_|(refine uN hK ?_;clear hK)|(clear hK;refine uN hK ?_;clear hK)|apply zI));have:words.any (fun w=>bEq s w)=false:=by
    rw[List.any_eq_false];intro w hw;obtain⟨i,hi⟩:=List.getElem?_of_mem hw;have:i<words.length:=(List.getElem?_eq_some_iff.1 hi).1;rw[words_len]at this;rw[hall i w (by omega) hi];simp
   rw[this]
def letB(c:UInt8):Bool:=decide (97≤c.toNat)&&decide (c.toNat≤122)
def midB(c:UInt8):Bool:=letB c||(decide (48≤c.toNat)&&decide (c.toNat≤57))||decide (c.toNat=45)||decide (c.toNat=95)
def okAt(i:Nat)(c:UInt8):Bool:=letB c||(decide (i≠0)&&midB c)
def bytesOkB:List UInt8→Bool
 |[]=>true
 |c::l=>letB c&&l.all midB
def nameB(s:ByteArray):Bool:=bytesOkB s.data.toList&&decide (0<s.size)&&decide (s.size≤32)&&!(words.any fun w=>bEq s w)
def varB(s:ByteArray):Bool:=decide (2≤s.size)&&decide (s.size≤32)&&(match s.data.toList[0]? with|some c=>decide (c.toNat=63)|none=>false)&&nameB (s.extract 1 s.size)
theorem ba_get(s:ByteArray)(i:Nat):s[i]? =s.data.toList[i]?:=by
 rw[getElem?_def];by_cases hi:i<s.size
 ·rw [dif_pos hi,List.getElem?_eq_getElem (by simpa using hi)];rfl
 ·rw [dif_neg hi,List.getElem?_eq_none (by simp;omega)]
theorem letB_mid{c:UInt8}(h:letB c=true):midB c=true:=by simp[midB,h]
theorem bytesOk_true{l:List UInt8}(h: ∀ (j:Nat)(c:UInt8),l[j]? =some c→okAt j c=true):bytesOkB l=true:=by
 cases l with
 |nil=>rfl
 |cons c l=>
  simp only[bytesOkB,Bool.and_eq_true,List.all_eq_true];refine⟨by simpa[okAt]using h 0 c rfl,fun x hx=>?_⟩;obtain⟨i,hi⟩:=List.getElem?_of_mem hx;have:=h (i+1) x (by simpa using hi);simp only[okAt,Bool.or_eq_true,Bool.and_eq_true]at this;exact this.elim letB_mid (·.2)
theorem bytesOk_false{l:List UInt8}{j:Nat}{c:UInt8}(hj:l[j]? =some c)(h:okAt j c=false):bytesOkB l=false:=by
 cases l with
 |nil=>simp at hj
 |cons d l=>
  cases j with
  |zero=>
   simp at hj;subst hj;simp only[okAt]at h;simp at h;simp[bytesOkB,h]
  |succ j=>
   simp at hj;have hm:midB c=false:=(by simp[okAt]at h;exact h.2);have:l.all midB=false:=(by rw[List.all_eq_false];exact⟨c,List.mem_of_getElem? hj,by simp[hm]⟩);simp[bytesOkB,this]
end Go.Proofs.YtjeolbgpllbemaaGreat
namespace Go.Proofs.YtjeolbgpllbemaaGreat
open Go.AM
set_option maxHeartbeats 800000
set_option maxRecDepth 20000
theorem byte_cls(c:UInt8):(letB c=true∧decide ((c.toNat:Int)≥97)=true∧decide ((c.toNat:Int)≤122)=true)∨
  (letB c=false∧decide ((c.toNat:Int)≥97)=false)∨(letB c=false∧midB c=false∧decide ((c.toNat:Int)≥97)=true∧decide ((c.toNat:Int)≤122)=false∧decide ((c.toNat:Int)<48)=false∧decide ((c.toNat:Int)>57)=true∧((c.toNat:Int) !=45)=true∧((c.toNat:Int) !=95)=true):=by
 by_cases h1:97≤c.toNat
 ·by_cases h2:c.toNat≤122
  ·exact .inl ⟨by simp[letB,h1,h2],by simp;omega,by simp;omega⟩
  ·refine .inr (.inr ⟨by simp[letB,h1,h2],by simp[midB,letB];omega,by simp;omega,by simp;omega,by simp;omega,by simp;omega,by simp;omega,by simp;omega⟩)
 ·exact .inr (.inl ⟨by simp[letB,h1],by simp;omega⟩)
theorem byte_cls2{c:UInt8}(h:decide ((c.toNat:Int)≥97)=false):
  (midB c=true∧decide ((c.toNat:Int)<48)=true∧((c.toNat:Int) !=45)=false)∨
  (midB c=false∧decide ((c.toNat:Int)<48)=true∧((c.toNat:Int) !=45)=true∧((c.toNat:Int) !=95)=true)∨
  (midB c=true∧decide ((c.toNat:Int)<48)=false∧decide ((c.toNat:Int)>57)=false)∨
  (midB c=true∧decide ((c.toNat:Int)<48)=false∧decide ((c.toNat:Int)>57)=true∧((c.toNat:Int) !=45)=true∧((c.toNat:Int) !=95)=false)∨
  (midB c=false∧decide ((c.toNat:Int)<48)=false∧decide ((c.toNat:Int)>57)=true∧((c.toNat:Int) !=45)=true∧((c.toNat:Int) !=95)=true):=by
 simp at h;by_cases h1:c.toNat<48
 ·by_cases h2:c.toNat=45
  ·exact .inl ⟨by simp[midB,h2],by simp;omega,by simp;omega⟩
  ·exact .inr (.inl ⟨by simp[midB,letB];omega,by simp;omega,by simp;omega,by simp;omega⟩)
 ·by_cases h2:c.toNat≤57
  ·exact .inr (.inr (.inl ⟨by simp[midB,letB];omega,by simp;omega,by simp;omega⟩))
  ·by_cases h3:c.toNat=95
   ·exact .inr (.inr (.inr (.inl ⟨by simp[midB,h3],by simp;omega,by simp;omega,by simp;omega,by simp;omega⟩)))
   ·exact .inr (.inr (.inr (.inr ⟨by simp[midB,letB];omega,by simp;omega,by simp;omega,by simp;omega,by simp;omega⟩)))
theorem byte_cls3(c:UInt8):(midB c=true∧decide ((c.toNat:Int)<97)=false∧decide ((c.toNat:Int)>122)=false)∨
  (midB c=false∧decide ((c.toNat:Int)<97)=false∧decide ((c.toNat:Int)>122)=true∧decide ((c.toNat:Int)<48)=false∧decide ((c.toNat:Int)>57)=true∧((c.toNat:Int) !=45)=true∧((c.toNat:Int) !=95)=true)∨
  (decide ((c.toNat:Int)<97)=true∧decide ((c.toNat:Int)≥97)=false):=by
 by_cases h1:97≤c.toNat
 ·by_cases h2:c.toNat≤122
  ·exact .inl ⟨by simp[midB,letB,h1,h2],by simp;omega,by simp;omega⟩
  ·exact .inr (.inl ⟨by simp[midB,letB];omega,by simp;omega,by simp;omega,by simp;omega,by simp;omega,by simp;omega,by simp;omega⟩)
 ·exact .inr (.inr ⟨by simp;omega,by simp;omega⟩)
theorem fname_c{h:Heap}{s:ByteArray}(hs:s.size≤9223372036854775807):PCall Tryz.prog 59 [sPV s] h fun r h'=>r= .sc (.bool (nameB s))∧h'=h:=by
 have hsl:s.data.toList.length=s.size:=by rw[Array.length_toList];try rfl
 refine uG0 Tryz.func59 Tryz.ntmps59 Tryz.results59 Ty.hb_59 ?_;repeat'(first|refine a_seq fun K hK=>?_|refine a_block ?_|refine uR trivial ?_|(refine uN hK ?_;clear hK)|apply zI)
 refine a_loop (fun m S h'=>h'=h∧S 0=sPV s∧S 7= .sc (.int .i64 s.size)∧ ∃ k:Nat,S 8= .sc (.int .i64 k)∧k≤s.size∧m=s.size-k∧ ∀ (i:Nat)(c:UInt8),i<k→s.data.toList[i]? =some c→okAt i c=true) s.size ?_ ?_
 ·simp only[Ty.w,simprocAttr];exact⟨0,rfl,by omega,rfl,by omega⟩
 ·rintro m S h' ⟨rfl,g0,g7,k,g8,hk,rfl,hall⟩;by_cases hlt:k<s.size
  ·have hd:decide ((k:Int)<(s.size:Int))=true:=(by simp;omega);have w7:IntKind.i64.wrap ((k:Int)+1)=k+1:=(by rw[wrap64 (by omega) (by omega)]);obtain⟨c,hx⟩: ∃ c,s.data.toList[k]? =some c:=⟨_,List.getElem?_eq_getElem (by omega)⟩;have hr:s[k]? =some c:=(by rw[ba_get];exact hx);have bad:okAt k c=false→nameB s=false:=fun e=>(by simp[nameB,bytesOk_false hx e]);have good:okAt k c=true→ ∃ m',m'<s.size-k∧ ∃ k':Nat,(k:Int)+1=k'∧k'≤s.size∧m'=s.size-k'∧ ∀ (i:Nat)(c:UInt8),i<k'→s.data.toList[i]? =some c→okAt i c=true:=fun e=>by
    refine⟨s.size-(k+1),by omega,k+1,by simp,by omega,rfl,fun i c2 hi hw=>?_⟩;by_cases hik:i=k
    ·subst hik;rw[hx]at hw;simp at hw;rw[← hw];exact e
    ·exact hall i c2 (by omega) hw
   (try clear zz);clear hall;have fin1: ∀ {e:Bool},okAt k c=false→e=false→PV.sc (.bool e)= .sc (.bool (nameB s)):=fun h1 h2=>(by rw[h2,bad h1]);rcases byte_cls c with⟨l1,c1,c2⟩|⟨l1,c1⟩|⟨l1,m1,c1,c2,c3,c4,c5,c6⟩
   ·replace zz:=uu g0 (uu g7 (uu g8 (uu hd (uu hr (uu w7 (uu c1 c2))))));(repeat'(first|refine a_seq fun K hK=>?_|refine a_block ?_|refine uR zz ?_|refine uK ?_|refine uC1 zz ?_|(refine uN hK ?_;clear hK)|apply zI));have:=good (by simp[okAt,l1]);simpa using this
   ·cases k0:((k:Int)==0)with
    |true=>
     have hk0:k=0:=(by simpa using k0);have hbad:=bad (by simp[okAt,l1,hk0]);replace zz:=uu g0 (uu g7 (uu g8 (uu hd (uu hr (uu w7 (uu c1 k0))))));(repeat'(first|refine a_seq fun K hK=>?_|refine uR zz ?_|refine uT zz ?_|refine uK ?_|refine uC1 zz ?_|(refine uN hK ?_;clear hK)|apply zI));rw[hbad]
    |false=>
     have hk0:k≠0:=(by simpa using k0);rcases byte_cls2 c1 with⟨m1,c3,c5⟩|⟨m1,c3,c5,c6⟩|⟨m1,c3,c4⟩|⟨m1,c3,c4,c5,c6⟩|⟨m1,c3,c4,c5,c6⟩
     ·replace zz:=uu g0 (uu g7 (uu g8 (uu hd (uu hr (uu w7 (uu c1 (uu k0 (uu c3 c5))))))));(repeat'(first|refine a_seq fun K hK=>?_|refine a_block ?_|refine uR zz ?_|refine uK ?_|refine uC1 zz ?_|(refine uN hK ?_;clear hK)|apply zI));have:=good (by simp[okAt,m1,hk0]);simpa using this
     ·have hbad:=bad (by simp[okAt,l1,m1]);replace zz:=uu g0 (uu g7 (uu g8 (uu hd (uu hr (uu w7 (uu c1 (uu k0 (uu c3 (uu c5 c6)))))))));(repeat'(first|refine a_seq fun K hK=>?_|refine uR zz ?_|refine uT zz ?_|refine uK ?_|refine uC1 zz ?_|(refine uN hK ?_;clear hK)|apply zI));rw[hbad]
     ·replace zz:=uu g0 (uu g7 (uu g8 (uu hd (uu hr (uu w7 (uu c1 (uu k0 (uu c3 c4))))))));(repeat'(first|refine a_seq fun K hK=>?_|refine a_block ?_|refine uR zz ?_|refine uK ?_|refine uC1 zz ?_|(refine uN hK ?_;clear hK)|apply zI));have:=good (by simp[okAt,m1,hk0]);simpa using this
     ·replace zz:=uu g0 (uu g7 (uu g8 (uu hd (uu hr (uu w7 (uu c1 (uu k0 (uu c3 (uu c4 (uu c5 c6))))))))));(repeat'(first|refine a_seq fun K hK=>?_|refine a_block ?_|refine uR zz ?_|refine uK ?_|refine uC1 zz ?_|(refine uN hK ?_;clear hK)|apply zI));have:=good (by simp[okAt,m1,hk0]);simpa using this
     ·have hbad:=bad (by simp[okAt,l1,m1]);replace zz:=uu g0 (uu g7 (uu g8 (uu hd (uu hr (uu w7 (uu c1 (uu k0 (uu c3 (uu c4 (uu c5 c6))))))))));(repeat'(first|refine a_seq fun K hK=>?_|refine uR zz ?_|refine uT zz ?_|refine uK ?_|refine uC1 zz ?_|(refine uN hK ?_;clear hK)|apply zI));rw[hbad]
   ·have hbad:=bad (by simp[okAt,l1,m1]);cases k0:((k:Int)==0)with
    |true=>
     replace zz:=uu g0 (uu g7 (uu g8 (uu hd (uu hr (uu w7 (uu c1 (uu c2 k0)))))));(repeat'(first|refine a_seq fun K hK=>?_|refine uR zz ?_|refine uT zz ?_|refine uK ?_|refine uC1 zz ?_|(refine uN hK ?_;clear hK)|apply zI));rw[hbad]
    |false=>
     replace zz:=uu g0 (uu g7 (uu g8 (uu hd (uu hr (uu w7 (uu c1 (uu c2 (uu k0 (uu c3 (uu c4 (uu c5 c6)))))))))));(repeat'(first|refine a_seq fun K hK=>?_|refine uR zz ?_|refine uT zz ?_|refine uK ?_|refine uC1 zz ?_|(refine uN hK ?_;clear hK)|apply zI));rw[hbad]
  ·have hd:decide ((k:Int)<(s.size:Int))=false:=(by simp;omega);have hok:bytesOkB s.data.toList=true:=bytesOk_true fun j c hj=>hall j c (by have:=(List.getElem?_eq_some_iff.1 hj).1;omega) hj;(try clear zz);clear hall;have hn:nameB s=(!(s.data.toList==(#[]:Array UInt8).toList)&&decide ((s.size:Int)≤32)&&!(words.any fun w=>bEq s w)):=by
    have e1:decide (0<s.size)=!(s.data.toList==(#[]:Array UInt8).toList):=by
     rw[← hsl];cases s.data.toList<;>simp
    have e2:decide ((s.size:Int)≤32)=decide (s.size≤32):=by
     exact decide_eq_decide.2 (by omega)
    simp only[nameB,hok,Bool.true_and,e1,e2]
   cases b1:(s.data.toList==(#[]:Array UInt8).toList)with
   |true=>
    replace zz:=uu g0 (uu g7 (uu g8 (uu hd b1)));(repeat'(first|refine a_seq fun K hK=>?_|refine uR zz ?_|refine uT zz ?_|refine uX ?_|refine uC1 zz ?_|(refine uN hK ?_;clear hK)|(clear hK;refine uN hK ?_;clear hK)|apply zI));rw[hn,b1];try rfl
   |false=>
    cases b2:decide ((s.size:Int)≤32)with
    |false=>
     replace zz:=uu g0 (uu g7 (uu g8 (uu hd (uu b1 b2))));(repeat'(first|refine a_seq fun K hK=>?_|refine uR zz ?_|refine uT zz ?_|refine uX ?_|refine uC1 zz ?_|(refine uN hK ?_;clear hK)|(clear hK;refine uN hK ?_;clear hK)|apply zI));rw[hn,b1,b2];try rfl
    |true=>
     replace zz:=uu g0 (uu g7 (uu g8 (uu hd (uu b1 b2))));(repeat'(first|refine a_seq fun K hK=>?_|refine uR zz ?_|refine uX ?_|refine uC1 zz ?_|(refine uN hK ?_;clear hK)|(clear hK;refine uN hK ?_;clear hK)|apply zI));have hwl:words.length≤9223372036854775807:=(by rw[words_len];omega);refine uU trivial (reserved_c) ?_;refine uU (uu b1 (uu b2 g0)) (contains_c (l:=words) (s:=s) hwl) ?_;(repeat'(first|refine uT (uu g0 (uu b1 b2)) ?_|(refine uN hK ?_;clear hK)|apply zI));rw[hn,b1,b2];try rfl
theorem fvariable_c{h:Heap}{s:ByteArray}(hs:s.size≤9223372036854775807):PCall Tryz.prog 134 [sPV s] h fun r h'=>r= .sc (.bool (varB s))∧h'=h:=by
 cases b1:decide ((s.size:Int)>1)with
 |false=>
  have:varB s=false:=by simp at b1;simp[varB];omega
  refine uG0 Tryz.func134 Tryz.ntmps134 Tryz.results134 Ty.hb_134 ?_;repeat'(first|refine a_seq fun K hK=>?_|refine uR b1 ?_|refine uT b1 ?_|(refine uN hK ?_;clear hK)|apply zI)
  rw[this]
 |true=>
  cases b2:decide ((s.size:Int)≤32)with
  |false=>
   have:varB s=false:=(by simp at b2;simp[varB];omega);refine uG0 Tryz.func134 Tryz.ntmps134 Tryz.results134 Ty.hb_134 ?_;replace zz:=uu b1 b2;(repeat'(first|refine a_seq fun K hK=>?_|refine uR zz ?_|refine uT zz ?_|(refine uN hK ?_;clear hK)|apply zI));rw[this]
  |true=>
   simp at b1 b2;have hsl:s.data.toList.length=s.size:=(by rw[Array.length_toList];try rfl);obtain⟨c,hx⟩: ∃ c,s.data.toList[0]? =some c:=⟨_,List.getElem?_eq_getElem (by omega)⟩;have hr:s[0]? =some c:=(by rw[ba_get];exact hx);have d1:decide ((s.size:Int)>1)=true:=(by simp;omega);have d2:decide ((s.size:Int)≤32)=true:=(by simp;omega);have q1:(1:Int)≤(s.size:Int):=(by omega);have hv:varB s=(decide (c.toNat=63)&&nameB (s.extract 1 s.size)):=by
    have e1:decide (2≤s.size)=true:=(by simp;omega);have e2:decide (s.size≤32)=true:=(by simp;omega);simp only[varB,e1,e2,hx,Bool.true_and]
   cases b3:((c.toNat:Int)==63)with
   |false=>
    have:¬ c.toNat=63:=(by simp at b3;omega);refine uG0 Tryz.func134 Tryz.ntmps134 Tryz.results134 Ty.hb_134 ?_;replace zz:=uu d1 (uu d2 (uu hr b3));(repeat'(first|refine a_seq fun K hK=>?_|refine uR zz ?_|refine uT zz ?_|(refine uN hK ?_;clear hK)|apply zI));rw[hv];simp[this]
   |true=>
    have:c.toNat=63:=(by simp at b3;omega);refine uG0 Tryz.func134 Tryz.ntmps134 Tryz.results134 Ty.hb_134 ?_;have hsz:(s.extract 1 s.size).size≤9223372036854775807:=(by simp;omega);replace zz:=uu d1 (uu d2 (uu hr (uu b3 (uu q1 @Int.le_refl))));(repeat'(first|refine a_seq fun K hK=>?_|refine uR zz ?_|(refine uN hK ?_;clear hK)|apply zI));refine uU zz (fname_c (s:=s.extract 1 s.size) hsz) ?_;(repeat'(first|refine uT (uu d1 (uu d2 b3)) ?_|(refine uN hK ?_;clear hK)|apply zI));rw[hv,this];try rfl
theorem rname_c{h:Heap}{s:ByteArray}(hs:s.size≤9223372036854775807):PCall Tryz.prog 31 [sPV s] h fun r h'=>r= .sc (.bool (nameB s))∧h'=h:=by
  have hsl:s.data.toList.length=s.size:=by rw[Array.length_toList];try rfl
  cases b1:decide ((s.size:Int)<1)with
  |true=>
    have:nameB s=false:=(by simp at b1;simp[nameB];intros;omega);refine uG0 Tryz.func31 Tryz.ntmps31 Tryz.results31 Ty.hb_31 ?_;(repeat'(first|refine a_seq fun K hK=>?_|refine uR b1 ?_|refine uT b1 ?_|(refine uN hK ?_;clear hK)|apply zI));rw[this]
  |false=>
    cases b2:decide ((s.size:Int)>32)with
    |true=>
      have : nameB s = false := by simp at b2; have : ¬ s.size ≤ 32 := by omega
                                   simp[nameB,this]
      refine uG0 Tryz.func31 Tryz.ntmps31 Tryz.results31 Ty.hb_31 ?_;replace zz:=uu b1 b2;(repeat'(first|refine a_seq fun K hK=>?_|refine uR zz ?_|refine uT zz ?_|(refine uN hK ?_;clear hK)|apply zI));rw[this]
    |false=>
      have b1':=b1;have b2':=b2;simp at b1' b2';obtain⟨c,hx⟩: ∃ c,s.data.toList[0]? =some c:=⟨_,List.getElem?_eq_getElem (by omega)⟩;have hr:s[0]? =some c:=(by rw[ba_get];exact hx);cases b3:decide ((c.toNat:Int)<97)with
      |true=>
        have:letB c=false:=(by simp at b3;simp[letB];omega);have:nameB s=false:=(by simp[nameB,bytesOk_false hx (by simp[okAt,this])]);refine uG0 Tryz.func31 Tryz.ntmps31 Tryz.results31 Ty.hb_31 ?_;replace zz:=uu b1 (uu b2 (uu b3 hr));(repeat'(first|refine a_seq fun K hK=>?_|refine uR zz ?_|refine uT zz ?_|(refine uN hK ?_;clear hK)|apply zI));rw[this]
      |false=>
        cases b4:decide ((c.toNat:Int)>122)with
        |true=>
          have:letB c=false:=(by simp at b4;simp[letB];omega);have:nameB s=false:=(by simp[nameB,bytesOk_false hx (by simp[okAt,this])]);refine uG0 Tryz.func31 Tryz.ntmps31 Tryz.results31 Ty.hb_31 ?_;replace zz:=uu b1 (uu b2 (uu b3 (uu b4 hr)));(repeat'(first|refine a_seq fun K hK=>?_|refine uR zz ?_|refine uT zz ?_|(refine uN hK ?_;clear hK)|apply zI));rw[this]
        |false=>
          have hlet:letB c=true:=(by simp at b3 b4;simp[letB];omega);refine uG0 Tryz.func31 Tryz.ntmps31 Tryz.results31 Ty.hb_31 ?_;replace zz:=uu b1 (uu b2 (uu b3 (uu b4 hr)));(repeat'(first|refine a_seq fun K hK=>?_|refine uR zz ?_|(refine uN hK ?_;clear hK)|apply zI));cases b5:(words.any fun w=>bEq s w)with
          |true=>
            have:nameB s=false:=(by simp[nameB,b5]);replace zz:=uu b1 (uu b2 (uu b3 (uu b4 hr)));refine uU zz (rreserved_c (s:=s)) ?_;(repeat'(first|refine a_seq fun K hK=>?_|refine uR b5 ?_|refine uT b5 ?_|refine uC1 b5 ?_|(refine uN hK ?_;clear hK)|apply zI));rw[this]
          |false=>
            replace zz:=uu b1 (uu b2 (uu b3 (uu b4 hr)));refine uU zz (rreserved_c (s:=s)) ?_;(repeat'(first|refine a_seq fun K hK=>?_|refine a_block ?_|refine uR b5 ?_|refine uK ?_|refine uC1 b5 ?_|(refine uN hK ?_;clear hK)|apply zI));refine a_loop (fun m S h'=>h'=h∧S 0=sPV s∧ ∃ k:Nat,S 3= .sc (.int .i64 k)∧k≤s.size∧m=s.size-k∧ ∀ (i:Nat)(c:UInt8),i<k→s.data.toList[i]? =some c→midB c=true) s.size ?_ ?_
            · simp only [Ty.w, simprocAttr];exact⟨0,rfl,by omega,rfl,by omega⟩
            · rintro m S h' ⟨rfl, g0, k, g3, hk, rfl, hall⟩;by_cases hlt:k<s.size
              · have hd : decide ((k : Int) < (s.size : Int)) = true := (by simp; omega);have w7:IntKind.i64.wrap ((k:Int)+1)=k+1:=(by rw[wrap64 (by omega) (by omega)]);obtain⟨d,hx2⟩: ∃ d,s.data.toList[k]? =some d:=⟨_,List.getElem?_eq_getElem (by omega)⟩;have hr2:s[k]? =some d:=(by rw[ba_get];exact hx2);have bad:midB d=false→nameB s=false:=fun e=>by
                  by_cases hk0:k=0
                  · subst hk0;rw[hx]at hx2;simp at hx2;subst hx2;rw[letB_mid hlet]at e;simp at e
                  · simp[nameB,bytesOk_false hx2 (by simp[okAt,e];cases hl:letB d<;>simp;rw[letB_mid hl]at e;simp at e)]
                have good:midB d=true→ ∃ m',m'<s.size-k∧ ∃ k':Nat,(k:Int)+1=k'∧k'≤s.size∧m'=s.size-k'∧ ∀ (i:Nat)(c:UInt8),i<k'→s.data.toList[i]? =some c→midB c=true:=fun e=>by
                  refine⟨s.size-(k+1),by omega,k+1,by simp,by omega,rfl,fun i c2 hi hw=>?_⟩;by_cases hik:i=k
                  · subst hik;rw[hx2]at hw;simp at hw;rw[← hw];exact e
                  · exact hall i c2 (by omega) hw
                (try clear zz);clear hall;rcases byte_cls3 d with⟨m1,c1,c2⟩|⟨m1,c1,c2,c3,c4,c5,c6⟩|⟨c1,c2⟩
                · replace zz := uu g0 (uu g3 (uu hd (uu hr2 (uu w7 (uu c1 c2)))));(repeat'(first|refine a_seq fun K hK=>?_|refine a_block ?_|refine uR zz ?_|refine uK ?_|refine uC1 zz ?_|(refine uN hK ?_;clear hK)|apply zI));have:=good m1;simpa using this
                · have hbad := bad m1;replace zz:=uu g0 (uu g3 (uu hd (uu hr2 (uu w7 (uu c1 (uu c2 (uu c3 (uu c4 (uu c5 c6)))))))));(repeat'(first|refine a_seq fun K hK=>?_|refine uR zz ?_|refine uT zz ?_|refine uK ?_|refine uC1 zz ?_|(refine uN hK ?_;clear hK)|apply zI));rw[hbad]
                · rcases byte_cls2 c2 with ⟨m1, c3, c5⟩ | ⟨m1, c3, c5, c6⟩ | ⟨m1, c3, c4⟩ | ⟨m1, c3, c4, c5, c6⟩ | ⟨m1, c3, c4, c5, c6⟩
                  · replace zz := uu g0 (uu g3 (uu hd (uu hr2 (uu w7 (uu c1 (uu c3 c5))))));(repeat'(first|refine a_seq fun K hK=>?_|refine a_block ?_|refine uR zz ?_|refine uK ?_|refine uC1 zz ?_|(refine uN hK ?_;clear hK)|apply zI));have:=good m1;simpa using this
                  · have hbad := bad m1;replace zz:=uu g0 (uu g3 (uu hd (uu hr2 (uu w7 (uu c1 (uu c3 (uu c5 c6)))))));(repeat'(first|refine a_seq fun K hK=>?_|refine uR zz ?_|refine uT zz ?_|refine uK ?_|refine uC1 zz ?_|(refine uN hK ?_;clear hK)|apply zI));rw[hbad]
                  · replace zz := uu g0 (uu g3 (uu hd (uu hr2 (uu w7 (uu c1 (uu c3 c4))))));(repeat'(first|refine a_seq fun K hK=>?_|refine a_block ?_|refine uR zz ?_|refine uK ?_|refine uC1 zz ?_|(refine uN hK ?_;clear hK)|apply zI));have:=good m1;simpa using this
                  · replace zz := uu g0 (uu g3 (uu hd (uu hr2 (uu w7 (uu c1 (uu c3 (uu c4 (uu c5 c6))))))));(repeat'(first|refine a_seq fun K hK=>?_|refine a_block ?_|refine uR zz ?_|refine uK ?_|refine uC1 zz ?_|(refine uN hK ?_;clear hK)|apply zI));have:=good m1;simpa using this
                  · have hbad := bad m1;replace zz:=uu g0 (uu g3 (uu hd (uu hr2 (uu w7 (uu c1 (uu c3 (uu c4 (uu c5 c6))))))));(repeat'(first|refine a_seq fun K hK=>?_|refine uR zz ?_|refine uT zz ?_|refine uK ?_|refine uC1 zz ?_|(refine uN hK ?_;clear hK)|apply zI));rw[hbad]
              · have hd : decide ((k : Int) < (s.size : Int)) = false := (by simp; omega);have hok:bytesOkB s.data.toList=true:=by
                  refine bytesOk_true fun j d hj=>?_;by_cases hj0:j=0
                  · subst hj0;rw[hx]at hj;simp at hj;subst hj;simp[okAt,hlet]
                  · simp[okAt,hj0,hall j d (by have:=(List.getElem?_eq_some_iff.1 hj).1;omega) hj]
                have hn:nameB s=true:=by
                  have e1:decide (0<s.size)=true:=(by simp;omega);have e2:decide (s.size≤32)=true:=(by simp;omega);simp only[nameB,hok,b5,e1,e2];rfl
                (try clear zz);clear hall;replace zz:=uu g0 (uu g3 hd);(repeat'(first|refine a_seq fun K hK=>?_|refine uR zz ?_|refine uT zz ?_|refine uX ?_|refine uC1 zz ?_|(refine uN hK ?_;clear hK)|(clear hK;refine uN hK ?_;clear hK)|apply zI));rw[hn]
theorem rvariable_c{h:Heap}{s:ByteArray}(hs:s.size≤9223372036854775807):PCall Tryz.prog 66 [sPV s] h fun r h'=>r= .sc (.bool (varB s))∧h'=h:=by
 cases b1:decide ((s.size:Int)≥2)with
 |false=>
  have:varB s=false:=by simp at b1;simp[varB];omega
  refine uG0 Tryz.func66 Tryz.ntmps66 Tryz.results66 Ty.hb_66 ?_;repeat'(first|refine a_seq fun K hK=>?_|refine uR b1 ?_|refine uT b1 ?_|(refine uN hK ?_;clear hK)|apply zI)
  rw[this]
 |true=>
  cases b2:decide ((s.size:Int)≤32)with
  |false=>
   have:varB s=false:=(by simp at b2;simp[varB];omega);refine uG0 Tryz.func66 Tryz.ntmps66 Tryz.results66 Ty.hb_66 ?_;replace zz:=uu b1 b2;(repeat'(first|refine a_seq fun K hK=>?_|refine uR zz ?_|refine uT zz ?_|(refine uN hK ?_;clear hK)|apply zI));rw[this]
  |true=>
   simp at b1 b2;have hsl:s.data.toList.length=s.size:=(by rw[Array.length_toList];try rfl);obtain⟨c,hx⟩: ∃ c,s.data.toList[0]? =some c:=⟨_,List.getElem?_eq_getElem (by omega)⟩;have hr:s[0]? =some c:=(by rw[ba_get];exact hx);have d1:decide ((s.size:Int)≥2)=true:=(by simp;omega);have d2:decide ((s.size:Int)≤32)=true:=(by simp;omega);have q1:(1:Int)≤(s.size:Int):=(by omega);have hv:varB s=(decide (c.toNat=63)&&nameB (s.extract 1 s.size)):=by
    have e1:decide (2≤s.size)=true:=(by simp;omega);have e2:decide (s.size≤32)=true:=(by simp;omega);simp only[varB,e1,e2,hx,Bool.true_and]
   cases b3:((c.toNat:Int)==63)with
   |false=>
    have:¬ c.toNat=63:=(by simp at b3;omega);refine uG0 Tryz.func66 Tryz.ntmps66 Tryz.results66 Ty.hb_66 ?_;replace zz:=uu d1 (uu d2 (uu hr b3));(repeat'(first|refine a_seq fun K hK=>?_|refine uR zz ?_|refine uT zz ?_|(refine uN hK ?_;clear hK)|apply zI));rw[hv];simp[this]
   |true=>
    have:c.toNat=63:=(by simp at b3;omega);refine uG0 Tryz.func66 Tryz.ntmps66 Tryz.results66 Ty.hb_66 ?_;have hsz:(s.extract 1 s.size).size≤9223372036854775807:=(by simp;omega);replace zz:=uu d1 (uu d2 (uu hr (uu b3 (uu q1 @Int.le_refl))));(repeat'(first|refine a_seq fun K hK=>?_|refine uR zz ?_|(refine uN hK ?_;clear hK)|apply zI));refine uU zz (rname_c (s:=s.extract 1 s.size) hsz) ?_;(repeat'(first|refine uT (uu d1 (uu d2 b3)) ?_|(refine uN hK ?_;clear hK)|apply zI));rw[hv,this];try rfl
end Go.Proofs.YtjeolbgpllbemaaGreat
namespace Go.AM
inductive Sx where
 |mk(kind value line col:Int)(text:ByteArray)(kids:List Sx)
mutual
def Sx.cells:Sx→List PV
 | .mk kind value line col text kids=>[.sc (.int .i64 kind),.sc (.int .i64 value),.sc (.int .i64 line),.sc (.int .i64 col),sPV text,.imm 6 (Sx.rows kids)]
def Sx.rows:List Sx→List (List PV)
 |[]=>[]
 |k::ks=>k.cells::Sx.rows ks
end
theorem Sx.rows_map: ∀ l:List Sx,Sx.rows l=l.map Sx.cells
 |[]=>rfl
 |k::ks=>by simp[Sx.rows,Sx.rows_map ks]
theorem Sx.rows_len(l:List Sx):(Sx.rows l).length=l.length:=by simp[Sx.rows_map]
theorem Sx.rows_get{l:List Sx}{i:Nat}{k:Sx}(h:l[i]? =some k):(Sx.rows l)[i]? =some k.cells:=by simp[Sx.rows_map,h]
theorem Sx.ind{C:Sx→Prop}(hC: ∀ kind value line col text kids,(∀ k∈kids,C k)→C (.mk kind value line col text kids)): ∀ e,C e
 | .mk kind value line col text kids=>hC kind value line col text kids fun k hk=>Sx.ind hC k
termination_by e=>SizeOf.sizeOf e
decreasing_by
 have:=List.sizeOf_lt_of_mem hk;simp only[Sx.mk.sizeOf_spec];omega
mutual
def Sx.ok:Sx→Prop
 | .mk kind value line col text kids=>(-9223372036854775808≤kind∧kind≤9223372036854775807)∧(-9223372036854775808≤value∧value≤9223372036854775807)∧text.size≤bigN∧kids.length≤bigN∧Sx.oks kids
def Sx.oks:List Sx→Prop
 |[]=>True
 |k::ks=>k.ok∧Sx.oks ks
end
theorem Sx.oks_iff:{l:List Sx}→(Sx.oks l↔ ∀ k∈l,k.ok)
 |[]=>by simp[Sx.oks]
 |k::ks=>by simp[Sx.oks,Sx.oks_iff (l:=ks)]
end Go.AM
namespace Go.Proofs.YtjeolbgpllbemaaGreat
open Go.AM
def digB(c:UInt8):Bool:=decide (48≤c.toNat)&&decide (c.toNat≤57)
def signs:List UInt8:=[45,95,63,58,60,62,61,43,42]
def wB(c:UInt8):Bool:=letB c||digB c||signs.contains c
def upB(c:UInt8):Bool:=decide (65≤c.toNat)&&decide (c.toNat≤90)
def lowB(c:UInt8):Option UInt8:=if upB c then some (c+32)else if wB c then some c else none
def lowL:List UInt8→Option (List UInt8)
 |[]=>some []
 |c::l=>match lowB c with
  |some d=>(lowL l).map (d::·)
  |none=>none
def lowS(s:ByteArray):ByteArray × Bool:=if 0<s.size∧s.size≤32 then(match lowL s.data.toList with|some l=>(⟨l.toArray⟩,true)|none=>(⟨#[]⟩,false))else(⟨#[]⟩,false)
def trimB(s:ByteArray):ByteArray:=match s.data.toList with
 |45::l=>⟨l.toArray⟩
 |_=>s
def numB(s:ByteArray):Bool:=(trimB s).data.toList.all digB&&decide (0<(trimB s).size)
def wordB(s:ByteArray):Bool:=(lowS s).2&&bEq (lowS s).1 s&&!(numB (lowS s).1)
mutual
def svalid:Sx→Nat→Nat→Bool × Nat
 | .mk kind value _ _ text kids,d,n=>
  if n+1>4096 then(false,n+1)
  else if kind=1 then(wordB text&&decide (value=0)&&kids.isEmpty,n+1)
  else if kind=2 then(bEq text ⟨#[]⟩&&kids.isEmpty&&decide (-1099511627776≤value)&&decide (value≤1099511627776),n+1)
  else if kind=3 then(if bEq text ⟨#[]⟩=true∧value=0∧d≠32 then svalids kids (d+1) (n+1)else(false,n+1))
  else(false,n+1)
def svalids:List Sx→Nat→Nat→Bool × Nat
 |[],_,n=>(true,n)
 |k::ks,d,n=>match svalid k d n with
  |(true,n')=>svalids ks d n'
  |(false,n')=>(false,n')
end
end Go.Proofs.YtjeolbgpllbemaaGreat
namespace Go.AM
def vEq:Value→Value→Bool
 | .int k a,.int k' b=>decide (k=k')&&decide (a=b)
 | .bool a,.bool b=>a==b
 | .string a,.string b=>decide (a.data.toList=b.data.toList)
 | .nilIface,.nilIface=>true
 | .pointer none,.pointer none=>true
 | .map none,.map none=>true
 | .slice none n m,.slice none n' m'=>decide (n=n')&&decide (m=m')
 | .func (.func f) a b,.func (.func f') a' b'=>decide (f=f')&&decide (a.size=0)&&decide (b.size=0)&&decide (a'.size=0)&&decide (b'.size=0)
 | .iface t v,.iface u x=>decide (t=u)&&vEq v x
 |_,_=>false
mutual
def pvEq:PV→PV→Bool
 | .sc v,.sc u=>vEq v u
 | .ptr a b c,.ptr a' b' c'=>decide (a=a')&&decide (b=b')&&decide (c=c')
 | .own a b c,.own a' b' c'=>decide (a=a')&&decide (b=b')&&decide (c=c')
 | .mp a,.mp b=>decide (a=b)
 | .emp,.emp=>true
 | .cptr l,.cptr l'=>pvEqL l l'
 | .agg l,.agg l'=>pvEqL l l'
 | .tup l,.tup l'=>pvEqL l l'
 | .fn f a b,.fn f' a' b'=>decide (f=f')&&pvEqL a a'&&pvEqL b b'
 | .ab k a b c d,.ab k' a' b' c' d'=>decide (k=k')&&decide (a=a')&&decide (b=b')&&decide (c=c')&&decide (d=d')
 | .imm z r,.imm z' r'=>decide (z=z')&&pvEqR r r'
 |_,_=>false
def pvEqL:List PV→List PV→Bool
 |[],[]=>true
 |a::l,b::l'=>pvEq a b&&pvEqL l l'
 |_,_=>false
def pvEqR:List (List PV)→List (List PV)→Bool
 |[],[]=>true
 |a::l,b::l'=>pvEqL a b&&pvEqR l l'
 |_,_=>false
end
abbrev CallR:=FuncId→List PV→Heap→Option (PV × Bool × Heap)
section
variable (P:Program)(wf:FuncId→Bool)(own:FuncId→Nat→Bool)(ext:FuncId→List PV→Option PV)
def xop(call:CallR)(ow:Nat→Bool)(o:Oper)(ρ:Operand→PV)(h:Heap):Option (PV × Bool × Heap):=
 match callee ρ o.op with
 |some (f,args)=>call f args h
 |none=>match eff P (o.dst.any ow) o.op ρ h with
  |some (v,h')=>some (v,!(isW ow wf o),h')
  |none=>none
def xagain(call:CallR)(ow:Nat→Bool)(o:Oper)(ρ:Operand→PV)(h:Heap)(v:PV):Bool:=
 match xop P wf call ow o ρ h with
 |some (v',q,_)=>q&&pvEq v' v
 |none=>false
def xl(call:CallR)(ow:Nat→Bool)(n:Nat)(ops:List Oper):List Oper→Slots→Bool→Heap→Option (Slots × Bool × Heap)
 |[],s,q,h=>some (s,q,h)
 | o :: rest, s, q, h => if o.dst.all (fun d => decide (d < n)) = true then
   match wantedB ops s o with
   |none=>none
   |some false=>xl call ow n ops rest (updO s o.dst (.sc undef)) q h
   |some true=>match xop P wf call ow o (pev s) h with
    |some (v,q',h')=>xl call ow n ops rest (updO s o.dst v) (q&&q') h'
    |none=>none
  else none
def xd(call:CallR)(ow:Nat→Bool)(n:Nat)(ops:List Oper):Nat→List Oper→List (Nat × Oper × Slots × PV)→List (Nat × Heap)→Slots→Bool→Heap→Option (Slots × Bool × Heap)
 |_,[],_,_,s,q,h=>some (s,q,h)
 | k, o :: rest, past, hist, s, q, h => if o.dst.all (fun d => decide (d < n)) = true then
   match wantedB ops s o with
   |none=>none
   |some false=>xd call ow n ops (k+1) rest past hist (updO s o.dst (.sc undef)) q h
   |some true=>match xop P wf call ow o (pev s) h with
    |none=>none
    |some (v,q',h')=>
     if isW ow wf o=true then
      (if past.all (fun x=>pre ops x.1 k||xagain P wf call ow x.2.1 (pev x.2.2.1) h' x.2.2.2)=true then xd call ow n ops (k+1) rest past ((k,h)::hist) (updO s o.dst v) (q&&q') h' else none)
     else if q'=true then
      (if hist.all (fun x=>pre ops x.1 k||xagain P wf call ow o (pev s) x.2 v)=true then xd call ow n ops (k+1) rest ((k,o,s,v)::past) hist (updO s o.dst v) q h else none)
     else none
  else none
def xc(call:CallR)(ow:Nat→Bool)(n:Nat):Nat→Code→Slots→Bool→Heap→Option (Exit × Slots × Bool × Heap)
 |0,_,_,_,_=>none
 |k+1,c,s,q,h=>match c with
  | .skip=>some (.normal,s,q,h)
  | .region _ ops true=>if dOk ow wf ops.toList=true then(xd P wf call ow n ops.toList 0 ops.toList [] [] s q h).map (Exit.normal,·)else none
  | .region _ ops false=>(xl P wf call ow n ops.toList ops.toList s q h).map (Exit.normal,·)
  | .seq a b=>match xc call ow n k a s q h with
   |some (.normal,s',q',h')=>xc call ow n k b s' q' h'
   |r=>r
  | .cond c x y=>match pev s c with
   | .sc (.bool true)=>xc call ow n k x s q h
   | .sc (.bool false)=>xc call ow n k y s q h
   |_=>none
  | .block id c=>match xc call ow n k c s q h with
   |some (.exit id',s',q',h')=>some (if id'=id then .normal else .exit id',s',q',h')
   |r=>r
  | .loop c=>match xc call ow n k c s q h with
   |some (.normal,s',q',h')=>xc call ow n k (.loop c) s' q' h'
   |r=>r
  | .exit id=>some (.exit id,s,q,h)
  | .ret=>some (.ret,s,q,h)
  |_=>none
end
section
variable {P:Program}{wf:FuncId→Bool}{own:FuncId→Nat→Bool}
theorem pcall_indexByte{f:FuncId}{fn:Func}(hf:P.funcs[f]? =some fn)(hname:(fn.name== "runtime.NumGoroutine")=false)(hb:fn.body.isNone=true)(hn:Extern.findNext fn=none)(he:Extern.find fn=some Extern.BytealgIndexByte.indexByte)(s:ByteArray)(c:Int)(h:Heap):
  PCall P f [.sc (.string s),.sc (.int .u8 c)] h (fun r h'=>r= .sc (.int .i64 (firstIdx s c.toNat.toUInt8))∧h'=h):=by
 intro β w vals sm hr
 match vals,hr.len,hr with
 |[x,y],_,hr=>
  simp only[RepL,Rep]at hr;obtain⟨rfl,rfl,_⟩:=hr;exact .inr ⟨_,w,by rw[run_callFunc_extern hf hname hb hn he];simp only[run_indexByte_string];rfl,_,h,β,_,rfl,⟨rfl,rfl⟩,sm,by simp only[RepH,Rep],Ext.refl⟩
end
end Go.AM
namespace Go.Proofs.YtjeolbgpllbemaaGreat
open Go.AM
set_option maxHeartbeats 2000000
set_option maxRecDepth 100000
def ext(f:FuncId)(args:List PV):Option PV:=if f=163 then(match args with|[.sc (.string s),.sc (.int .u8 c)]=>some (.sc (.int .i64 (firstIdx s c.toNat.toUInt8)))|_=>none)else none
theorem ixb_ok:(Tryz.f163.name== "runtime.NumGoroutine")=false∧Tryz.f163.body.isNone=true∧Extern.findNext Tryz.f163=none∧Extern.find Tryz.f163=some Extern.BytealgIndexByte.indexByte:=
 ⟨by kernel_rfl,by kernel_rfl,by kernel_rfl,by kernel_rfl⟩
end Go.Proofs.YtjeolbgpllbemaaGreat
namespace Go.Proofs.YtjeolbgpllbemaaGreat
open Go.AM
set_option maxHeartbeats 2000000
set_option maxRecDepth 20000
theorem PCall.quiet2{P:Program}{f:FuncId}{args:List PV}{h:Heap}{v u:Value}(hb:hasBody P f=true)(hc:PCall P f args h fun r h'=>r= .tup [.sc v,.sc u]∧Grow h h'):PCall P f args h fun r h'=>r= .tup [.sc v,.sc u]∧h'=h:=by
 refine pcall_wf hb fun hw=>PCall.drop (hc.mono ?_);rintro r h' ⟨rfl,g⟩;refine⟨.tup [.sc v,.sc u],h,⟨rfl,rfl⟩,by simp only[FrzTo,FrzL];exact⟨_,rfl,rfl,rfl,trivial⟩,Nat.le_refl _,fun id o ho=>?_⟩;have hid:=hw id (by rw[ho];try rfl);exact⟨by rw[g.old id hid];exact ho,hid,.inl ho⟩
theorem digit_c{h:Heap}{c:UInt8}:PCall Tryz.prog 138 [.sc (.int .u8 c.toNat)] h fun r h'=>r= .sc (.bool (digB c))∧h'=h:=by
 cases b1:decide ((c.toNat:Int)≥48)with
 |false=>
  have:digB c=false:=by simp at b1;simp[digB];omega
  refine uG0 Tryz.func138 Tryz.ntmps138 Tryz.results138 Ty.hb_138 ?_;repeat'(first|refine a_seq fun K hK=>?_|refine uR b1 ?_|refine uT b1 ?_|(refine uN hK ?_;clear hK)|apply zI)
  rw[this]
 |true=>
  have:digB c=decide ((c.toNat:Int)≤57):=by
   simp at b1;have e1:decide (48≤c.toNat)=true:=(by simp;omega);simp only[digB,e1,Bool.true_and];exact decide_eq_decide.2 (by omega)
  refine uG0 Tryz.func138 Tryz.ntmps138 Tryz.results138 Ty.hb_138 ?_;repeat'(first|refine a_seq fun K hK=>?_|refine uR b1 ?_|refine uT b1 ?_|(refine uN hK ?_;clear hK)|apply zI)
  rw[this]
theorem firstIdx_ge(s:ByteArray)(c:UInt8):decide (firstIdx s c≥0)=s.data.toList.contains c:=by
 unfold firstIdx;have hsl:s.data.toList.length=s.size:=by rw[Array.length_toList];try rfl
 have hget: ∀ i,i<s.size→s[i]! =s.data.toList[i]!:=by
  intro i hi;have h1:s[i]? =s.data.toList[i]?:=ba_get s i;rw[getElem!_def,getElem!_def,h1]
 cases hf:(List.range s.size).find? fun i=>s[i]! ==c with
 |none=>
  rw[List.find?_eq_none]at hf;have:s.data.toList.contains c=false:=by
   rw[Bool.eq_false_iff];intro hc;rw[List.contains_iff_mem]at hc;obtain⟨i,hi,he⟩:=List.getElem_of_mem hc;have h2:=hf i (by simp;omega);rw[hget i (by omega),getElem!_pos s.data.toList i hi,he]at h2;simp at h2
  rw[this];try rfl
 |some i=>
  have h1:=List.find?_some hf;have h2:=List.mem_of_find?_eq_some hf;simp at h2;have:s.data.toList.contains c=true:=by
   rw[List.contains_iff_mem];rw[hget i h2]at h1;rw[getElem!_pos s.data.toList i (by omega)]at h1;have:=beq_iff_eq.1 h1;rw[← this];exact List.getElem_mem _
  rw[this];simp
theorem indexByte_c{h:Heap}{s:ByteArray}{c:UInt8}:PCall Tryz.prog 139 [sPV s,.sc (.int .u8 c.toNat)] h fun r h'=>r= .sc (.int .i64 (firstIdx s c))∧h'=h:=by
 have hx:PCall Tryz.prog 163 [sPV s,.sc (.int .u8 c.toNat)] h fun r h'=>r= .sc (.int .i64 (firstIdx s c))∧h'=h:=by
  have:=pcall_indexByte (P:=Tryz.prog) Tryz.func163 ixb_ok.1 ixb_ok.2.1 ixb_ok.2.2.1 ixb_ok.2.2.2 s c.toNat h;simpa using this
 have hy:PCall Tryz.prog 154 [sPV s,.sc (.int .u8 c.toNat)] h fun r h'=>r= .sc (.int .i64 (firstIdx s c))∧h'=h:=by
  refine uG0 Tryz.func154 Tryz.ntmps154 Tryz.results154 Ty.hb_154 ?_;repeat'(first|refine a_seq fun K hK=>?_|refine uR trivial ?_|(refine uN hK ?_;clear hK)|apply zI)
  refine uU trivial (hx) ?_;repeat'(first|refine uT trivial ?_|(refine uN hK ?_;clear hK)|apply zI)
 refine uG0 Tryz.func139 Tryz.ntmps139 Tryz.results139 Ty.hb_139 ?_;repeat'(first|refine a_seq fun K hK=>?_|refine uR trivial ?_|(refine uN hK ?_;clear hK)|apply zI)
 refine uU trivial (hy) ?_;repeat'(first|refine uT trivial ?_|(refine uN hK ?_;clear hK)|apply zI)
theorem ba_ext{a b:ByteArray}(h:a.data.toList=b.data.toList):a=b:=by
 obtain⟨⟨a⟩⟩:=a;obtain⟨⟨b⟩⟩:=b;simp at h;rw[h]
theorem hasPrefix_c{h:Heap}{s:ByteArray}:PCall Tryz.prog 164 [sPV s,sPV ⟨#[45]⟩] h fun r h'=>r= .sc (.bool (match s.data.toList with|45::_=>true|_=>false))∧h'=h:=by
 have hsl:s.data.toList.length=s.size:=by rw[Array.length_toList];try rfl
 have h1:(ByteArray.mk #[45]).size=1:=rfl;cases b1:decide ((s.size:Int)≥1)with
 |false=>
  have:(match s.data.toList with|45::_=>true|_=>false)=false:=by
   simp at b1;have:s.data.toList=[]:=List.eq_nil_of_length_eq_zero (by omega);rw[this]
  refine uG0 Tryz.func164 Tryz.ntmps164 Tryz.results164 Ty.hb_164 ?_;repeat'(first|refine a_seq fun K hK=>?_|((first|refine a_regionS ?_|refine a_ret ?_);simp(maxSteps:=2000000) only[Ty.w,simprocAttr,h1,Int.natCast_one,b1])|(refine hK _ _ ?_;clear hK;(try simp only[pst0,simprocAttr])))
  rw[this]
 |true=>
  have b1':=b1;simp at b1';have q1:(1:Int)≤(s.size:Int):=by omega
  have:(match s.data.toList with|45::_=>true|_=>false)=((s.extract 0 1).data.toList==(#[45]:Array UInt8).toList):=by
   have he:(s.extract 0 1).data.toList=s.data.toList.take 1:=(by simp);rw[he];cases hl:s.data.toList with
   |nil=>rw[hl]at hsl;simp at hsl;omega
   |cons c l=>
    simp only[List.take_succ_cons,List.take_zero];by_cases hc:c=45
    ·subst hc;rfl
    ·have:([c]==(#[45]:Array UInt8).toList)=false:=(by simp[hc]);rw[this];split
     ·rename_i heq;simp at heq;exact absurd heq.1 hc
     ·rfl
  refine uG0 Tryz.func164 Tryz.ntmps164 Tryz.results164 Ty.hb_164 ?_;repeat'(first|refine a_seq fun K hK=>?_|((first|refine a_regionS ?_|refine a_ret ?_);simp(maxSteps:=2000000) only[Ty.w,simprocAttr,h1,Int.natCast_one,b1,q1,Option.getD_some,Option.getD_none,Int.le_refl,Int.toNat_one,Int.toNat_zero])|(refine hK _ _ ?_;clear hK;(try simp only[pst0,simprocAttr])))
  rw[this]
theorem trimPrefix_c{h:Heap}{s:ByteArray}:PCall Tryz.prog 140 [sPV s,sPV ⟨#[45]⟩] h fun r h'=>r=sPV (trimB s)∧h'=h:=by
 have hsl:s.data.toList.length=s.size:=by rw[Array.length_toList];try rfl
 have h1:(ByteArray.mk #[45]).size=1:=rfl;have hy:PCall Tryz.prog 155 [sPV s,sPV ⟨#[45]⟩] h fun r h'=>r=sPV (trimB s)∧h'=h:=by
  cases b1:(match s.data.toList with|45::_=>true|_=>false)with
  |false=>
   have:trimB s=s:=by
    unfold trimB;split
    ·rename_i heq;rw[heq]at b1;simp at b1
    ·rfl
   refine uG0 Tryz.func155 Tryz.ntmps155 Tryz.results155 Ty.hb_155 ?_;(repeat'(first|refine a_seq fun K hK=>?_|refine uR trivial ?_|(refine uN hK ?_;clear hK)|apply zI));refine uU b1 (hasPrefix_c (s:=s)) ?_;(repeat'(first|refine a_seq fun K hK=>?_|refine uR b1 ?_|refine uT b1 ?_|refine uK ?_|refine uC1 b1 ?_|(refine uN hK ?_;clear hK)|apply zI));rw[this]
  |true=>
   have hq: ∃ l,s.data.toList=45::l:=by
    split at b1
    ·rename_i l heq;exact⟨l,heq⟩
    ·simp at b1
   obtain⟨l,hl⟩:=hq;have q1:(1:Int)≤(s.size:Int):=(by rw[hl]at hsl;simp at hsl;omega);have:trimB s=s.extract 1 s.size:=by
    unfold trimB;rw[hl];refine ba_ext ?_;have hl2:=hsl;rw[hl]at hl2;simp at hl2;simp only[ByteArray.data_extract,Array.toList_extract,List.extract_eq_take_drop,hl];rw[List.drop_succ_cons,List.drop_zero,List.take_of_length_le (by omega)]
   refine uG0 Tryz.func155 Tryz.ntmps155 Tryz.results155 Ty.hb_155 ?_;(repeat'(first|refine a_seq fun K hK=>?_|refine uR trivial ?_|(refine uN hK ?_;clear hK)|apply zI));refine uU b1 (hasPrefix_c (s:=s)) ?_;(repeat'(first|refine a_seq fun K hK=>?_|((first|refine a_regionS ?_|refine a_ret ?_);simp(maxSteps:=2000000) only[Ty.w,simprocAttr,b1,h1,Int.natCast_one,q1,Option.getD_some,Option.getD_none,Int.le_refl,Int.toNat_one])|(refine hK _ _ ?_;clear hK;(try simp only[pst0,simprocAttr]))));rw[this]
 refine uG0 Tryz.func140 Tryz.ntmps140 Tryz.results140 Ty.hb_140 ?_;repeat'(first|refine a_seq fun K hK=>?_|refine uR trivial ?_|(refine uN hK ?_;clear hK)|apply zI)
 refine uU trivial (hy) ?_;repeat'(first|refine uT trivial ?_|(refine uN hK ?_;clear hK)|apply zI)
theorem numeric_c{h:Heap}{s:ByteArray}(hs:s.size≤bigN):PCall Tryz.prog 107 [sPV s] h fun r h'=>r= .sc (.bool (numB s))∧h'=h:=by
 have htl:(trimB s).data.toList.length=(trimB s).size:=by rw[Array.length_toList];try rfl
 have hts:(trimB s).size≤bigN:=by
  have hsl:s.data.toList.length=s.size:=by rw[Array.length_toList];try rfl
  unfold trimB;split
  ·rename_i l heq;rw[heq]at hsl;have:(ByteArray.mk l.toArray).size=l.length:=(by simp[ByteArray.size]);simp at hsl;omega
  ·exact hs
 unfold bigN at hts;have hN:numB s=((trimB s).data.toList.all digB&&decide (0<(trimB s).size)):=rfl;have ht:PCall Tryz.prog 140 [sPV s,sPV ⟨#[45]⟩] h fun r h'=>r=sPV (trimB s)∧h'=h:=trimPrefix_c;generalize trimB s=u at htl hts hN ht;rw[hN];try clear zz
 clear hN;refine uG0 Tryz.func107 Tryz.ntmps107 Tryz.results107 Ty.hb_107 ?_;repeat'(first|refine a_seq fun K hK=>?_|refine uR trivial ?_|(refine uN hK ?_;clear hK)|apply zI)
 refine uU trivial (ht) ?_;repeat'(first|refine a_seq fun K hK=>?_|refine a_block ?_|refine uR trivial ?_|(refine uN hK ?_;clear hK)|apply zI)
 refine a_loop (fun m S h'=>h'=h∧S 0=sPV u∧S 7= .sc (.int .i64 u.size)∧ ∃ k:Nat,S 8= .sc (.int .i64 k)∧k≤u.size∧m=u.size-k∧ ∀ (i:Nat)(c:UInt8),i<k→u.data.toList[i]? =some c→digB c=true) u.size ?_ ?_
 ·simp only[Ty.w,simprocAttr];exact⟨0,rfl,by omega,rfl,by omega⟩
 ·rintro m S h' ⟨rfl,g0,g7,k,g8,hk,rfl,hall⟩;by_cases hlt:k<u.size
  ·have hd:decide ((k:Int)<(u.size:Int))=true:=(by simp;omega);have w7:IntKind.i64.wrap ((k:Int)+1)=k+1:=(by rw[wrap64 (by omega) (by omega)]);obtain⟨c,hx⟩: ∃ c,u.data.toList[k]? =some c:=⟨_,List.getElem?_eq_getElem (by omega)⟩;have hr:u[k]? =some c:=(by rw[ba_get];exact hx);cases hg:digB c with
   |false=>
    have:u.data.toList.all digB=false:=(by rw[List.all_eq_false];exact⟨c,List.mem_of_getElem? hx,by simp[hg]⟩);replace zz:=uu g0 (uu g7 (uu g8 (uu hd hr)));(repeat'(first|refine a_seq fun K hK=>?_|refine uR zz ?_|refine uK ?_|refine uC1 zz ?_|(refine uN hK ?_;clear hK)|apply zI));replace zz:=uu g0 (uu g7 (uu g8 (uu hd (uu hr hg))));refine uU zz (digit_c (c:=c)) ?_;replace zz:=uu hg @Bool.not_false;(repeat'(first|refine a_seq fun K hK=>?_|refine uR zz ?_|refine uT zz ?_|(refine uN hK ?_;clear hK)|apply zI));rw[this];try rfl
   |true=>
    replace zz:=uu g0 (uu g7 (uu g8 (uu hd hr)));(repeat'(first|refine a_seq fun K hK=>?_|refine uR zz ?_|refine uK ?_|refine uC1 zz ?_|(refine uN hK ?_;clear hK)|apply zI));replace zz:=uu g0 (uu g7 (uu g8 (uu hd (uu hr hg))));refine uU zz (digit_c (c:=c)) ?_;replace zz:=uu g0 (uu g7 (uu g8 (uu hg (uu w7 @Bool.not_true))));(repeat'(first|refine a_block ?_|refine uR zz ?_|refine uK ?_|(refine uN hK ?_;clear hK)|apply zI));refine⟨u.size-(k+1),by omega,k+1,by simp,by omega,rfl,fun i c2 hi hw=>?_⟩;by_cases hik:i=k
    ·subst hik;rw[hx]at hw;simp at hw;rw[← hw];exact hg
    ·exact hall i c2 (by omega) hw
  ·have hd:decide ((k:Int)<(u.size:Int))=false:=(by simp;omega);have hok:u.data.toList.all digB=true:=by
    rw[List.all_eq_true];intro c hc;obtain⟨i,hi⟩:=List.getElem?_of_mem hc;exact hall i c (by have:=(List.getElem?_eq_some_iff.1 hi).1;omega) hi
   have e1:decide (0<u.size)=!(u.data.toList==(#[]:Array UInt8).toList):=by
    rw[← htl];cases u.data.toList<;>simp
   (try clear zz);clear hall;replace zz:=uu g0 (uu g7 (uu g8 hd));(repeat'(first|refine a_seq fun K hK=>?_|refine uR zz ?_|refine uT zz ?_|refine uX ?_|refine uC1 zz ?_|(refine uN hK ?_;clear hK)|(clear hK;refine uN hK ?_;clear hK)|apply zI));rw[hok,e1];try rfl
end Go.Proofs.YtjeolbgpllbemaaGreat
namespace Go.Proofs.YtjeolbgpllbemaaGreat
open Go.AM
set_option maxHeartbeats 2000000
set_option maxRecDepth 20000
theorem lowL_none{l:List UInt8}{k:Nat}{c:UInt8}(h:l[k]? =some c)(hc:lowB c=none):lowL l=none:=by
 induction l generalizing k with
 |nil=>simp at h
 |cons d l ih=>
  simp only[lowL];cases k with
  |zero=>simp at h;subst h;rw[hc]
  |succ k=>
   simp at h;rw[ih h];cases lowB d<;>simp
theorem lowL_take{l p:List UInt8}{k:Nat}{c d:UInt8}(h:l[k]? =some c)(hc:lowB c=some d)(hp:lowL (l.take k)=some p):lowL (l.take (k+1))=some (p++[d]):=by
 induction l generalizing k p with
 |nil=>simp at h
 |cons e l ih=>
  cases k with
  |zero=>simp at h;subst h;simp[lowL]at hp;subst hp;simp[lowL,hc]
  |succ k=>
   simp at h;simp only[List.take_succ_cons,lowL]at hp⊢;cases he:lowB e with
   |none=>simp[he]at hp
   |some e'=>
    rw[he]at hp;cases hq:lowL (l.take k)with
    |none=>simp[hq]at hp
    |some p'=>
     simp[hq]at hp;subst hp;rw[ih h hq];simp
theorem lowL_len{l p:List UInt8}(h:lowL l=some p):p.length=l.length:=by
 induction l generalizing p with
 |nil=>simp[lowL]at h;subst h;rfl
 |cons e l ih=>
  simp only[lowL]at h;split at h
  ·cases hq:lowL l with
   |none=>simp[hq]at h
   |some p'=>simp[hq]at h;subst h;simp[ih hq]
  ·simp at h
theorem bytesR_len(l:List UInt8):(bytesR l).length=l.length:=by simp[bytesR]
theorem bytesR_get{l:List UInt8}{k:Nat}{c:UInt8}(h:l[k]? =some c):(bytesR l)[k]? =some [.sc (.int .u8 c.toNat)]:=by simp[bytesR,h]
theorem bytesR_set(l:List UInt8)(k:Nat)(c:UInt8):(bytesR l).set k [.sc (.int .u8 c.toNat)]=bytesR (l.set k c):=by simp[bytesR,List.map_set]
structure LowI(h:Heap)(l:List UInt8)(k:Nat)(h':Heap):Prop where
 grow:Grow h h'
 ex: ∃ p,lowL (l.take k)=some p∧h'.obj h.next=some (.arr 1 (bytesR (p++l.drop k)))
theorem LowI.keep{h h':Heap}{l:List UInt8}{k:Nat}{c:UInt8}(i:LowI h l k h')(hc:l[k]? =some c)(hl:lowB c=some c):LowI h l (k+1) h':=by
 obtain⟨p,hp,ho⟩:=i.ex;refine⟨i.grow,p++[c],lowL_take hc hl hp,?_⟩;rw[ho];obtain⟨hk,rfl⟩:=List.getElem?_eq_some_iff.1 hc;rw[List.drop_eq_getElem_cons hk];simp
theorem LowI.put{h h':Heap}{l:List UInt8}{k:Nat}{c d:UInt8}{rows:List (List PV)}(i:LowI h l k h')(hc:l[k]? =some c)(hl:lowB c=some d)(hr:h'.obj h.next=some (.arr 1 rows)):
  LowI h l (k+1) (h'.set h.next (.arr 1 (rows.set k [.sc (.int .u8 d.toNat)]))):=by
 obtain⟨p,hp,ho⟩:=i.ex;refine⟨i.grow.set (Nat.le_refl _) _,p++[d],lowL_take hc hl hp,?_⟩;rw[ho]at hr;simp at hr;subst hr;have hpl:=lowL_len hp;obtain⟨hk,rfl⟩:=List.getElem?_eq_some_iff.1 hc;simp only[Heap.set,if_true,bytesR_set];rw[List.length_take]at hpl;rw[List.set_append_right _ _ (by omega),List.drop_eq_getElem_cons hk,show k-p.length=0 by omega,List.set_cons_zero];simp
theorem u8w(x:Int)(h0:0≤x)(h1:x<256):IntKind.u8.wrap x=x:=by
 unfold IntKind.wrap;simp[IntKind.signed,IntKind.bits];omega
theorem byte_cls5(c:UInt8):
  (upB c=false∧letB c=false∧decide ((c.toNat:Int)≥65)=false∧decide ((c.toNat:Int)≥97)=false)∨
  (upB c=true∧decide ((c.toNat:Int)≥65)=true∧decide ((c.toNat:Int)≤90)=true)∨
  (upB c=false∧letB c=false∧decide ((c.toNat:Int)≥65)=true∧decide ((c.toNat:Int)≤90)=false∧decide ((c.toNat:Int)≥97)=false)∨
  (upB c=false∧letB c=true∧decide ((c.toNat:Int)≥65)=true∧decide ((c.toNat:Int)≤90)=false∧decide ((c.toNat:Int)≥97)=true∧decide ((c.toNat:Int)≤122)=true)∨
  (upB c=false∧letB c=false∧decide ((c.toNat:Int)≥65)=true∧decide ((c.toNat:Int)≤90)=false∧decide ((c.toNat:Int)≥97)=true∧decide ((c.toNat:Int)≤122)=false):=by
 simp only[upB,letB,Bool.and_eq_true,Bool.and_eq_false_iff,decide_eq_true_eq,decide_eq_false_iff_not];omega
theorem lower_c{h:Heap}{s:ByteArray}:PCall Tryz.prog 106 [sPV s] h fun r h'=>r= .tup [sPV (lowS s).1,.sc (.bool (lowS s).2)]∧h'=h:=by
 have hsl:s.data.toList.length=s.size:=by rw[Array.length_toList];try rfl
 refine PCall.quiet2 Ty.hb_106 ?_;cases b1:(s.data.toList==(#[]:Array UInt8).toList)with
 |true=>
  have:lowS s=(⟨#[]⟩,false):=by
   unfold lowS;rw[if_neg];have:s.data.toList=[]:=(by simpa using b1);rw[this]at hsl;simp at hsl;omega
  refine uG0 Tryz.func106 Tryz.ntmps106 Tryz.results106 Ty.hb_106 ?_;repeat'(first|refine a_seq fun K hK=>?_|refine uR b1 ?_|refine uT b1 ?_|(refine uN hK ?_;clear hK)|apply zI)
  rw[this];exact⟨rfl,Grow.refl _⟩
 |false=>
  have hpos:0<s.size:=by
   rcases Nat.eq_zero_or_pos s.size with h0|h0
   ·rw [h0]at hsl;have:=List.eq_nil_of_length_eq_zero hsl;rw[this]at b1;simp at b1
   ·exact h0
  cases b2:decide ((s.size:Int)>32)with
  |true=>
   have:lowS s=(⟨#[]⟩,false):=by
    unfold lowS;rw[if_neg];simp at b2;omega
   refine uG0 Tryz.func106 Tryz.ntmps106 Tryz.results106 Ty.hb_106 ?_;replace zz:=uu b1 b2;(repeat'(first|refine a_seq fun K hK=>?_|refine uR zz ?_|refine uT zz ?_|(refine uN hK ?_;clear hK)|apply zI));rw[this];exact⟨rfl,Grow.refl _⟩
  |false=>
   have h32:s.size≤32:=(by simp at b2;omega);have hsz:s.size≤140737488355328:=(by omega);have hS:lowS s=(match lowL s.data.toList with|some l=>(⟨l.toArray⟩,true)|none=>(⟨#[]⟩,false)):=(by unfold lowS;rw[if_pos ⟨hpos,h32⟩];try rfl);refine uG (ow:=fun t=>t==15) (wf:=fun _=>false) Tryz.func106 Tryz.ntmps106 Tryz.results106 Ty.hb_106 ?_;replace zz:=uu b1 (uu b2 hsz);(repeat'(first|refine a_seq fun K hK=>?_|refine a_block ?_|refine uR zz ?_|refine uK ?_|refine uC1 zz ?_|(refine uN hK ?_;clear hK)|apply zI));refine a_loop (fun m S h'=>S 4= .own h.next 0 s.data.toList.length∧S 16= .own h.next 0 s.data.toList.length∧S 17= .sc (.int .i64 s.data.toList.length)∧ ∃ k:Nat,S 18= .sc (.int .i64 k)∧k≤s.data.toList.length∧m=s.data.toList.length-k∧LowI h s.data.toList k h') s.data.toList.length ?_ ?_
   ·simp only[Ty.w,simprocAttr];refine⟨0,rfl,by omega,rfl,(Grow.refl h).new _,[],rfl,?_⟩;simp[Heap.new]
   ·rintro m S h' ⟨g4,g16,g17,k,g18,hk,rfl,hI⟩;by_cases hlt:k<s.data.toList.length
    ·have hd:decide ((k:Int)<(s.data.toList.length:Int))=true:=(by simp;omega);have w7:IntKind.i64.wrap ((k:Int)+1)=k+1:=(by rw[wrap64 (by omega) (by omega)]);obtain⟨c,hx⟩: ∃ c,s.data.toList[k]? =some c:=⟨_,List.getElem?_eq_getElem hlt⟩;obtain⟨p,hp,ho⟩:=hI.ex;have hpl:=lowL_len hp;rw[List.length_take]at hpl;have hgr:=hI.grow;have hlen:(bytesR (p++s.data.toList.drop k)).length=s.data.toList.length:=(by rw[bytesR_len,List.length_append,List.length_drop];omega);have hr:(bytesR (p++s.data.toList.drop k))[k]? =some [.sc (.int .u8 c.toNat)]:=by
      refine bytesR_get ?_;rw[List.getElem?_append_right (by omega),List.getElem?_drop,show k+(k-p.length)=k by omega];exact hx
     have bad:lowB c=none→PV.tup [.sc (.string ⟨#[]⟩),.sc (.bool false)]= .tup [sPV (lowS s).1,.sc (.bool (lowS s).2)]:=fun e=>(by rw[hS,lowL_none hx e]);generalize hrows:bytesR (p++s.data.toList.drop k)=rows at ho hlen hr;have hho:=ho;rcases byte_cls5 c with⟨hup,hlet,a1,a3⟩|⟨hup,a1,a2⟩|⟨hup,hlet,a1,a2,a3⟩|⟨hup,hlet,a1,a2,a3,a4⟩|⟨hup,hlet,a1,a2,a3,a4⟩
     ·cases hg:digB c with
      |true=>
       have hw:wB c=true:=(by simp[wB,hg]);replace zz:=uu g4 (uu g16 (uu g17 (uu g18 (uu hd (uu hho (uu hlen (uu hr (uu hlt (uu @Nat.zero_add (uu a1 a3))))))))));(repeat'(first|refine a_seq fun K hK=>?_|refine uR zz ?_|refine uK ?_|refine uC1 zz ?_|(refine uN hK ?_;clear hK)|apply zI));replace zz:=uu g4 (uu g16 (uu g17 (uu g18 (uu hd (uu hho (uu hlen (uu hr (uu hlt (uu @Nat.zero_add (uu a1 (uu a3 hg)))))))))));refine uU zz (digit_c (c:=c)) ?_;replace zz:=uu g4 (uu g16 (uu g17 (uu g18 (uu hd (uu hho (uu hlen (uu hr (uu hlt (uu @Nat.zero_add (uu a1 (uu a3 (uu hg w7))))))))))));(repeat'(first|refine a_block ?_|refine uR zz ?_|refine uK ?_|refine uC1 zz ?_|(refine uN hK ?_;clear hK)|apply zI));exact⟨s.data.toList.length-(k+1),by omega,k+1,by simp,by omega,rfl,hI.keep hx (by simp[lowB,hup,hw])⟩
      |false=>
       cases hs2:signs.contains c with
       |true=>
        have hw:wB c=true:=(by simp only[wB,hs2,Bool.or_true]);have hfi:decide (firstIdx ⟨#[45,95,63,58,60,62,61,43,42]⟩ c≥0)=true:=(by rw[firstIdx_ge];exact hs2);replace zz:=uu g4 (uu g16 (uu g17 (uu g18 (uu hd (uu hho (uu hlen (uu hr (uu hlt (uu @Nat.zero_add (uu a1 a3))))))))));(repeat'(first|refine a_seq fun K hK=>?_|refine uR zz ?_|refine uK ?_|refine uC1 zz ?_|(refine uN hK ?_;clear hK)|apply zI));replace zz:=uu g4 (uu g16 (uu g17 (uu g18 (uu hd (uu hho (uu hlen (uu hr (uu hlt (uu @Nat.zero_add (uu a1 (uu a3 hg)))))))))));refine uU zz (digit_c (c:=c)) ?_;(repeat'(first|refine uR zz ?_|refine uC1 zz ?_|(refine uN hK ?_;clear hK)|apply zI));replace zz:=uu g4 (uu g16 (uu g17 (uu g18 (uu hd (uu hho (uu hlen (uu hr (uu hlt (uu @Nat.zero_add (uu a1 (uu a3 (uu hg hfi))))))))))));refine uU zz (indexByte_c (s:=⟨#[45,95,63,58,60,62,61,43,42]⟩) (c:=c)) ?_;replace zz:=uu g4 (uu g16 (uu g17 (uu g18 (uu hd (uu hho (uu hlen (uu hr (uu hlt (uu @Nat.zero_add (uu a1 (uu a3 (uu hg (uu hfi w7)))))))))))));(repeat'(first|refine a_block ?_|refine uR zz ?_|refine uK ?_|(refine uN hK ?_;clear hK)|apply zI));exact⟨s.data.toList.length-(k+1),by omega,k+1,by simp,by omega,rfl,hI.keep hx (by simp[lowB,hup,hw])⟩
       |false=>
        have hw:wB c=false:=(by simp only[wB,hs2,hg,hlet,Bool.or_false]);have hfi:decide (firstIdx ⟨#[45,95,63,58,60,62,61,43,42]⟩ c≥0)=false:=(by rw[firstIdx_ge];exact hs2);replace zz:=uu g4 (uu g16 (uu g17 (uu g18 (uu hd (uu hho (uu hlen (uu hr (uu hlt (uu @Nat.zero_add (uu a1 a3))))))))));(repeat'(first|refine a_seq fun K hK=>?_|refine uR zz ?_|refine uK ?_|refine uC1 zz ?_|(refine uN hK ?_;clear hK)|apply zI));replace zz:=uu g4 (uu g16 (uu g17 (uu g18 (uu hd (uu hho (uu hlen (uu hr (uu hlt (uu @Nat.zero_add (uu a1 (uu a3 hg)))))))))));refine uU zz (digit_c (c:=c)) ?_;(repeat'(first|refine uR zz ?_|refine uC1 zz ?_|(refine uN hK ?_;clear hK)|apply zI));replace zz:=uu g4 (uu g16 (uu g17 (uu g18 (uu hd (uu hho (uu hlen (uu hr (uu hlt (uu @Nat.zero_add (uu a1 (uu a3 (uu hg hfi))))))))))));refine uU zz (indexByte_c (s:=⟨#[45,95,63,58,60,62,61,43,42]⟩) (c:=c)) ?_;(repeat'(first|refine a_seq fun K hK=>?_|refine uR zz ?_|refine uT zz ?_|(refine uN hK ?_;clear hK)|apply zI));exact⟨bad (by simp[lowB,hup,hw]),hgr⟩
     ·have hu:65≤c.toNat∧c.toNat≤90:=(by simpa[upB]using hup);have hadd:(c+32).toNat=c.toNat+32:=(by rw[UInt8.toNat_add];simp;omega);have w1:IntKind.u8.wrap ((c.toNat:Int)+97)=(c.toNat:Int)+97:=u8w _ (by omega) (by omega);have w2:IntKind.u8.wrap ((c.toNat:Int)+97-65)=((c+32).toNat:Int):=(by rw[u8w _ (by omega) (by omega),hadd];omega);replace zz:=uu g4 (uu g16 (uu g17 (uu g18 (uu hd (uu hho (uu hlen (uu hr (uu hlt (uu a1 (uu a2 (uu w1 (uu w2 (uu w7 @Nat.zero_add)))))))))))));(repeat'(first|refine a_seq fun K hK=>?_|refine a_block ?_|refine uR zz ?_|refine uQ zz fun K hK=>?_|refine uK ?_|refine uC1 zz ?_|(refine uN hK ?_;clear hK)|apply zI));exact⟨s.data.toList.length-(k+1),by omega,k+1,by simp,by omega,rfl,hI.put hx (by simp[lowB,hup]) ho⟩
     ·cases hg:digB c with
      |true=>
       have hw:wB c=true:=(by simp[wB,hg]);replace zz:=uu g4 (uu g16 (uu g17 (uu g18 (uu hd (uu hho (uu hlen (uu hr (uu hlt (uu @Nat.zero_add (uu a1 (uu a2 a3)))))))))));(repeat'(first|refine a_seq fun K hK=>?_|refine uR zz ?_|refine uK ?_|refine uC1 zz ?_|(refine uN hK ?_;clear hK)|apply zI));replace zz:=uu g4 (uu g16 (uu g17 (uu g18 (uu hd (uu hho (uu hlen (uu hr (uu hlt (uu @Nat.zero_add (uu a1 (uu a2 (uu a3 hg))))))))))));refine uU zz (digit_c (c:=c)) ?_;replace zz:=uu g4 (uu g16 (uu g17 (uu g18 (uu hd (uu hho (uu hlen (uu hr (uu hlt (uu @Nat.zero_add (uu a1 (uu a2 (uu a3 (uu hg w7)))))))))))));(repeat'(first|refine a_block ?_|refine uR zz ?_|refine uK ?_|refine uC1 zz ?_|(refine uN hK ?_;clear hK)|apply zI));exact⟨s.data.toList.length-(k+1),by omega,k+1,by simp,by omega,rfl,hI.keep hx (by simp[lowB,hup,hw])⟩
      |false=>
       cases hs2:signs.contains c with
       |true=>
        have hw:wB c=true:=(by simp only[wB,hs2,Bool.or_true]);have hfi:decide (firstIdx ⟨#[45,95,63,58,60,62,61,43,42]⟩ c≥0)=true:=(by rw[firstIdx_ge];exact hs2);replace zz:=uu g4 (uu g16 (uu g17 (uu g18 (uu hd (uu hho (uu hlen (uu hr (uu hlt (uu @Nat.zero_add (uu a1 (uu a2 a3)))))))))));(repeat'(first|refine a_seq fun K hK=>?_|refine uR zz ?_|refine uK ?_|refine uC1 zz ?_|(refine uN hK ?_;clear hK)|apply zI));replace zz:=uu g4 (uu g16 (uu g17 (uu g18 (uu hd (uu hho (uu hlen (uu hr (uu hlt (uu @Nat.zero_add (uu a1 (uu a2 (uu a3 hg))))))))))));refine uU zz (digit_c (c:=c)) ?_;(repeat'(first|refine uR zz ?_|refine uC1 zz ?_|(refine uN hK ?_;clear hK)|apply zI));replace zz:=uu g4 (uu g16 (uu g17 (uu g18 (uu hd (uu hho (uu hlen (uu hr (uu hlt (uu @Nat.zero_add (uu a1 (uu a2 (uu a3 (uu hg hfi)))))))))))));refine uU zz (indexByte_c (s:=⟨#[45,95,63,58,60,62,61,43,42]⟩) (c:=c)) ?_;replace zz:=uu g4 (uu g16 (uu g17 (uu g18 (uu hd (uu hho (uu hlen (uu hr (uu hlt (uu @Nat.zero_add (uu a1 (uu a2 (uu a3 (uu hg (uu hfi w7))))))))))))));(repeat'(first|refine a_block ?_|refine uR zz ?_|refine uK ?_|(refine uN hK ?_;clear hK)|apply zI));exact⟨s.data.toList.length-(k+1),by omega,k+1,by simp,by omega,rfl,hI.keep hx (by simp[lowB,hup,hw])⟩
       |false=>
        have hw:wB c=false:=(by simp only[wB,hs2,hg,hlet,Bool.or_false]);have hfi:decide (firstIdx ⟨#[45,95,63,58,60,62,61,43,42]⟩ c≥0)=false:=(by rw[firstIdx_ge];exact hs2);replace zz:=uu g4 (uu g16 (uu g17 (uu g18 (uu hd (uu hho (uu hlen (uu hr (uu hlt (uu @Nat.zero_add (uu a1 (uu a2 a3)))))))))));(repeat'(first|refine a_seq fun K hK=>?_|refine uR zz ?_|refine uK ?_|refine uC1 zz ?_|(refine uN hK ?_;clear hK)|apply zI));replace zz:=uu g4 (uu g16 (uu g17 (uu g18 (uu hd (uu hho (uu hlen (uu hr (uu hlt (uu @Nat.zero_add (uu a1 (uu a2 (uu a3 hg))))))))))));refine uU zz (digit_c (c:=c)) ?_;(repeat'(first|refine uR zz ?_|refine uC1 zz ?_|(refine uN hK ?_;clear hK)|apply zI));replace zz:=uu g4 (uu g16 (uu g17 (uu g18 (uu hd (uu hho (uu hlen (uu hr (uu hlt (uu @Nat.zero_add (uu a1 (uu a2 (uu a3 (uu hg hfi)))))))))))));refine uU zz (indexByte_c (s:=⟨#[45,95,63,58,60,62,61,43,42]⟩) (c:=c)) ?_;(repeat'(first|refine a_seq fun K hK=>?_|refine uR zz ?_|refine uT zz ?_|(refine uN hK ?_;clear hK)|apply zI));exact⟨bad (by simp[lowB,hup,hw]),hgr⟩
     ·replace zz:=uu g4 (uu g16 (uu g17 (uu g18 (uu hd (uu hho (uu hlen (uu hr (uu hlt (uu a1 (uu a2 (uu a3 (uu a4 (uu w7 @Nat.zero_add)))))))))))));(repeat'(first|refine a_seq fun K hK=>?_|refine a_block ?_|refine uR zz ?_|refine uK ?_|refine uC1 zz ?_|(refine uN hK ?_;clear hK)|apply zI));exact⟨s.data.toList.length-(k+1),by omega,k+1,by simp,by omega,rfl,hI.keep hx (by simp[lowB,hup,wB,hlet])⟩
     ·cases hg:digB c with
      |true=>
       have hw:wB c=true:=(by simp[wB,hg]);replace zz:=uu g4 (uu g16 (uu g17 (uu g18 (uu hd (uu hho (uu hlen (uu hr (uu hlt (uu @Nat.zero_add (uu a1 (uu a2 (uu a3 a4))))))))))));(repeat'(first|refine a_seq fun K hK=>?_|refine uR zz ?_|refine uK ?_|refine uC1 zz ?_|(refine uN hK ?_;clear hK)|apply zI));replace zz:=uu g4 (uu g16 (uu g17 (uu g18 (uu hd (uu hho (uu hlen (uu hr (uu hlt (uu @Nat.zero_add (uu a1 (uu a2 (uu a3 (uu a4 hg)))))))))))));refine uU zz (digit_c (c:=c)) ?_;replace zz:=uu g4 (uu g16 (uu g17 (uu g18 (uu hd (uu hho (uu hlen (uu hr (uu hlt (uu @Nat.zero_add (uu a1 (uu a2 (uu a3 (uu a4 (uu hg w7))))))))))))));(repeat'(first|refine a_block ?_|refine uR zz ?_|refine uK ?_|refine uC1 zz ?_|(refine uN hK ?_;clear hK)|apply zI));exact⟨s.data.toList.length-(k+1),by omega,k+1,by simp,by omega,rfl,hI.keep hx (by simp[lowB,hup,hw])⟩
      |false=>
       cases hs2:signs.contains c with
       |true=>
        have hw:wB c=true:=(by simp only[wB,hs2,Bool.or_true]);have hfi:decide (firstIdx ⟨#[45,95,63,58,60,62,61,43,42]⟩ c≥0)=true:=(by rw[firstIdx_ge];exact hs2);replace zz:=uu g4 (uu g16 (uu g17 (uu g18 (uu hd (uu hho (uu hlen (uu hr (uu hlt (uu @Nat.zero_add (uu a1 (uu a2 (uu a3 a4))))))))))));(repeat'(first|refine a_seq fun K hK=>?_|refine uR zz ?_|refine uK ?_|refine uC1 zz ?_|(refine uN hK ?_;clear hK)|apply zI));replace zz:=uu g4 (uu g16 (uu g17 (uu g18 (uu hd (uu hho (uu hlen (uu hr (uu hlt (uu @Nat.zero_add (uu a1 (uu a2 (uu a3 (uu a4 hg)))))))))))));refine uU zz (digit_c (c:=c)) ?_;(repeat'(first|refine uR zz ?_|refine uC1 zz ?_|(refine uN hK ?_;clear hK)|apply zI));replace zz:=uu g4 (uu g16 (uu g17 (uu g18 (uu hd (uu hho (uu hlen (uu hr (uu hlt (uu @Nat.zero_add (uu a1 (uu a2 (uu a3 (uu a4 (uu hg hfi))))))))))))));refine uU zz (indexByte_c (s:=⟨#[45,95,63,58,60,62,61,43,42]⟩) (c:=c)) ?_;replace zz:=uu g4 (uu g16 (uu g17 (uu g18 (uu hd (uu hho (uu hlen (uu hr (uu hlt (uu @Nat.zero_add (uu a1 (uu a2 (uu a3 (uu a4 (uu hg (uu hfi w7)))))))))))))));(repeat'(first|refine a_block ?_|refine uR zz ?_|refine uK ?_|(refine uN hK ?_;clear hK)|apply zI));exact⟨s.data.toList.length-(k+1),by omega,k+1,by simp,by omega,rfl,hI.keep hx (by simp[lowB,hup,hw])⟩
       |false=>
        have hw:wB c=false:=(by simp only[wB,hs2,hg,hlet,Bool.or_false]);have hfi:decide (firstIdx ⟨#[45,95,63,58,60,62,61,43,42]⟩ c≥0)=false:=(by rw[firstIdx_ge];exact hs2);replace zz:=uu g4 (uu g16 (uu g17 (uu g18 (uu hd (uu hho (uu hlen (uu hr (uu hlt (uu @Nat.zero_add (uu a1 (uu a2 (uu a3 a4))))))))))));(repeat'(first|refine a_seq fun K hK=>?_|refine uR zz ?_|refine uK ?_|refine uC1 zz ?_|(refine uN hK ?_;clear hK)|apply zI));replace zz:=uu g4 (uu g16 (uu g17 (uu g18 (uu hd (uu hho (uu hlen (uu hr (uu hlt (uu @Nat.zero_add (uu a1 (uu a2 (uu a3 (uu a4 hg)))))))))))));refine uU zz (digit_c (c:=c)) ?_;(repeat'(first|refine uR zz ?_|refine uC1 zz ?_|(refine uN hK ?_;clear hK)|apply zI));replace zz:=uu g4 (uu g16 (uu g17 (uu g18 (uu hd (uu hho (uu hlen (uu hr (uu hlt (uu @Nat.zero_add (uu a1 (uu a2 (uu a3 (uu a4 (uu hg hfi))))))))))))));refine uU zz (indexByte_c (s:=⟨#[45,95,63,58,60,62,61,43,42]⟩) (c:=c)) ?_;(repeat'(first|refine a_seq fun K hK=>?_|refine uR zz ?_|refine uT zz ?_|(refine uN hK ?_;clear hK)|apply zI));exact⟨bad (by simp[lowB,hup,hw]),hgr⟩
    ·have hd:decide ((k:Int)<(s.data.toList.length:Int))=false:=(by simp;omega);have hke:k=s.data.toList.length:=(by omega);subst hke;obtain⟨p,hp,ho⟩:=hI.ex;rw[List.take_length]at hp;rw[List.drop_length,List.append_nil]at ho;have hpl:=lowL_len hp;have hlen:(bytesR p).length=s.data.toList.length:=(by rw[bytesR_len];exact hpl);have htk:List.take s.data.toList.length (bytesR p)=bytesR p:=(by rw[List.take_of_length_le (by omega)]);have hbr:=byteRow_bytesR p;replace zz:=uu g4 (uu g16 (uu g17 (uu g18 (uu hd (uu ho (uu hlen (uu htk (uu hbr @Nat.zero_add))))))));(repeat'(first|refine a_seq fun K hK=>?_|refine uR zz ?_|refine uT zz ?_|refine uX ?_|refine uC1 zz ?_|(refine uN hK ?_;clear hK)|(clear hK;refine uN hK ?_;clear hK)|(rw[if_pos];rotate_left 1;omega;simp(maxSteps:=2000000) only[Ty.w,simprocAttr,g4,g16,g17,g18,hd,ho,hlen,htk,hbr,Nat.zero_add])|apply zI));rw[hS,hp];exact⟨rfl,hI.grow⟩
end Go.Proofs.YtjeolbgpllbemaaGreat
namespace Go.Proofs.YtjeolbgpllbemaaGreat
open Go.AM
set_option maxHeartbeats 2000000
set_option maxRecDepth 20000
theorem drop_of_get{α:Type}{l:List α}{k:Nat}{a:α}(h:l[k]? =some a):l.drop k=a::l.drop (k+1):=by
 obtain⟨hl,rfl⟩:=List.getElem?_eq_some_iff.1 h;exact List.drop_eq_getElem_cons hl
theorem bsEq_len: ∀ {l m:List ByteArray},¬ l.length=m.length→bsEq l m=false
 |[],[],h=>by simp at h
 |[],_::_,_=>rfl
 |_::_,[],_=>rfl
 |a::l,b::m,h=>by simp only[bsEq,bsEq_len (l:=l) (m:=m) (by simpa using h),Bool.and_false]
theorem pmsEq_len: ∀ {l m:List Pm},¬ l.length=m.length→pmsEq l m=false
 |[],[],h=>by simp at h
 |[],_::_,_=>rfl
 |_::_,[],_=>rfl
 |a::l,b::m,h=>by simp only[pmsEq,pmsEq_len (l:=l) (m:=m) (by simpa using h),Bool.and_false]
theorem rtexts_c{h:Heap}{l m:List ByteArray}(hl:l.length≤bigN)(hm:m.length≤bigN):PCall Tryz.prog 85 [.imm 1 (strRows l),.imm 1 (strRows m)] h fun r h'=>r= .sc (.bool (bsEq l m))∧h'=h:=by
 unfold bigN at hl hm;have hll:=strRows_len l;have hlm:=strRows_len m;refine uG0 Tryz.func85 Tryz.ntmps85 Tryz.results85 Ty.hb_85 ?_;cases hne:((l.length:Int) !=m.length)with
 |true=>
  have:bsEq l m=false:=bsEq_len (by simp at hne;omega);replace zz:=uu hll (uu hlm hne);repeat'(first|refine a_seq fun K hK=>?_|refine uR zz ?_|refine uT zz ?_|(refine uN hK ?_;clear hK)|apply zI)
  rw[this]
 |false=>
  have hlen:l.length=m.length:=by simp at hne;omega
  replace zz:=uu hll (uu hlm hne);repeat'(first|refine a_seq fun K hK=>?_|refine a_block ?_|refine uR zz ?_|refine uK ?_|refine uC1 zz ?_|(refine uN hK ?_;clear hK)|apply zI)
  refine a_loop (fun c S h'=>h'=h∧S 0= .imm 1 (strRows l)∧S 1= .imm 1 (strRows m)∧ ∃ k:Nat,S 5= .sc (.int .i64 k)∧k≤l.length∧c=l.length-k∧bsEq l m=bsEq (l.drop k) (m.drop k)) l.length ?_ ?_
  ·simp only[Ty.w,simprocAttr];exact⟨0,rfl,by omega,rfl,by simp⟩
  ·rintro c S h' ⟨rfl,g0,g1,k,gk,hkl,rfl,hinv⟩;by_cases hlt:k<l.length
   ·have hd:decide ((k:Int)<(l.length:Int))=true:=(by simp;omega);have w7:IntKind.i64.wrap ((k:Int)+1)=k+1:=(by rw[wrap64 (by omega) (by omega)]);obtain⟨a,hx⟩: ∃ a,l[k]? =some a:=⟨_,List.getElem?_eq_getElem hlt⟩;obtain⟨b,hy⟩: ∃ b,m[k]? =some b:=⟨_,List.getElem?_eq_getElem (by omega)⟩;rw[drop_of_get hx,drop_of_get hy]at hinv;simp only[bsEq]at hinv;have hr:=strRows_get hx;have hr2:=strRows_get hy;cases he:(a.data.toList==b.data.toList)with
    |false=>
     simp only[bEq,he,Bool.false_and]at hinv;replace zz:=uu g0 (uu g1 (uu gk (uu hll (uu hlm (uu hd (uu hr (uu hr2 (uu he (uu w7 @Bool.not_false)))))))));(repeat'(first|refine a_seq fun K hK=>?_|refine uR zz ?_|refine uD zz ?_|refine uT zz ?_|refine uK ?_|refine uC1 zz ?_|(refine uN hK ?_;clear hK)|apply zI));rw[hinv]
    |true=>
     simp only[bEq,he,Bool.true_and]at hinv;replace zz:=uu g0 (uu g1 (uu gk (uu hll (uu hlm (uu hd (uu hr (uu hr2 (uu he (uu w7 @Bool.not_true)))))))));(repeat'(first|refine a_seq fun K hK=>?_|refine a_block ?_|refine uR zz ?_|refine uD zz ?_|refine uK ?_|refine uC1 zz ?_|(refine uN hK ?_;clear hK)|apply zI));exact⟨l.length-(k+1),by omega,k+1,by simp,by omega,rfl,hinv⟩
   ·have hd:decide ((k:Int)<(l.length:Int))=false:=(by simp;omega);rw[List.drop_eq_nil_of_le (by omega),List.drop_eq_nil_of_le (by omega)]at hinv;simp only[bsEq]at hinv;replace zz:=uu g0 (uu g1 (uu gk (uu hll hd)));(repeat'(first|refine a_seq fun K hK=>?_|refine uR zz ?_|refine uT zz ?_|refine uX ?_|refine uC1 zz ?_|(refine uN hK ?_;clear hK)|(clear hK;refine uN hK ?_;clear hK)|apply zI));rw[hinv]
theorem rparams_c{h:Heap}{l m:List Pm}(hl:l.length≤bigN)(hm:m.length≤bigN):PCall Tryz.prog 40 [.imm 2 (pmRows l),.imm 2 (pmRows m)] h fun r h'=>r= .sc (.bool (pmsEq l m))∧h'=h:=by
 unfold bigN at hl hm;have hll:=pmRows_len l;have hlm:=pmRows_len m;refine uG0 Tryz.func40 Tryz.ntmps40 Tryz.results40 Ty.hb_40 ?_;cases hne:((l.length:Int) !=m.length)with
 |true=>
  have:pmsEq l m=false:=pmsEq_len (by simp at hne;omega);replace zz:=uu hll (uu hlm hne);repeat'(first|refine a_seq fun K hK=>?_|refine uR zz ?_|refine uT zz ?_|(refine uN hK ?_;clear hK)|apply zI)
  rw[this]
 |false=>
  have hlen:l.length=m.length:=by simp at hne;omega
  replace zz:=uu hll (uu hlm hne);repeat'(first|refine a_seq fun K hK=>?_|refine a_block ?_|refine uR zz ?_|refine uK ?_|refine uC1 zz ?_|(refine uN hK ?_;clear hK)|apply zI)
  refine a_loop (fun c S h'=>h'=h∧S 0= .imm 2 (pmRows l)∧S 1= .imm 2 (pmRows m)∧ ∃ k:Nat,S 5= .sc (.int .i64 k)∧k≤l.length∧c=l.length-k∧pmsEq l m=pmsEq (l.drop k) (m.drop k)) l.length ?_ ?_
  ·simp only[Ty.w,simprocAttr];exact⟨0,rfl,by omega,rfl,by simp⟩
  ·rintro c S h' ⟨rfl,g0,g1,k,gk,hkl,rfl,hinv⟩;by_cases hlt:k<l.length
   ·have hd:decide ((k:Int)<(l.length:Int))=true:=(by simp;omega);have w7:IntKind.i64.wrap ((k:Int)+1)=k+1:=(by rw[wrap64 (by omega) (by omega)]);obtain⟨a,hx⟩: ∃ a,l[k]? =some a:=⟨_,List.getElem?_eq_getElem hlt⟩;obtain⟨b,hy⟩: ∃ b,m[k]? =some b:=⟨_,List.getElem?_eq_getElem (by omega)⟩;rw[drop_of_get hx,drop_of_get hy]at hinv;simp only[pmsEq]at hinv;have hr:=pmRows_get hx;have hr2:=pmRows_get hy;cases he:pmEq a b with
    |false=>
     have he':(a.name.data.toList==b.name.data.toList&&a.type.data.toList==b.type.data.toList)=false:=he;rw[he,Bool.false_and]at hinv;replace zz:=uu g0 (uu g1 (uu gk (uu hll (uu hlm (uu hd (uu hr (uu hr2 (uu he' (uu w7 @Bool.not_false)))))))));(repeat'(first|refine a_seq fun K hK=>?_|refine uR zz ?_|refine uD zz ?_|refine uT zz ?_|refine uK ?_|refine uC1 zz ?_|(refine uN hK ?_;clear hK)|apply zI));rw[hinv]
    |true=>
     have he':(a.name.data.toList==b.name.data.toList&&a.type.data.toList==b.type.data.toList)=true:=he;rw[he,Bool.true_and]at hinv;replace zz:=uu g0 (uu g1 (uu gk (uu hll (uu hlm (uu hd (uu hr (uu hr2 (uu he' (uu w7 @Bool.not_true)))))))));(repeat'(first|refine a_seq fun K hK=>?_|refine a_block ?_|refine uR zz ?_|refine uD zz ?_|refine uK ?_|refine uC1 zz ?_|(refine uN hK ?_;clear hK)|apply zI));exact⟨l.length-(k+1),by omega,k+1,by simp,by omega,rfl,hinv⟩
   ·have hd:decide ((k:Int)<(l.length:Int))=false:=(by simp;omega);rw[List.drop_eq_nil_of_le (by omega),List.drop_eq_nil_of_le (by omega)]at hinv;simp only[pmsEq]at hinv;replace zz:=uu g0 (uu g1 (uu gk (uu hll hd)));(repeat'(first|refine a_seq fun K hK=>?_|refine uR zz ?_|refine uT zz ?_|refine uX ?_|refine uC1 zz ?_|(refine uN hK ?_;clear hK)|(clear hK;refine uN hK ?_;clear hK)|apply zI));rw[hinv]
end Go.Proofs.YtjeolbgpllbemaaGreat
namespace Go.AM
def Tl(h:Heap)(id0 z:Nat)(p:PV)(rows:List (List PV)):Prop:=
 (rows=[]∧(p= .sc (.slice none 0 0)∨p= .emp))∨ ∃ id,id0≤id∧id<h.next∧p= .own id 0 rows.length∧h.obj id=some (.arr z rows)
variable {h:Heap}{id0 z:Nat}{p:PV}{rows:List (List PV)}
theorem Tl.nil:Tl h id0 z (.sc (.slice none 0 0)) []:= .inl ⟨rfl,.inl rfl⟩
theorem Tl.sl(t:Tl h id0 z p rows):Sl h z p rows:=by
 rcases t with⟨rfl,rfl|rfl⟩|⟨id,_,_,rfl,ho⟩
 ·exact Sl.nil
 ·exact Sl.emp
 ·exact Sl.own0 ho
theorem Tl.tail(t:Tl h id0 z p rows): ∃ H,isTail h p=some (H,rows)∧zOk h z p=true∧H.next=h.next∧(∀ j,j<id0→H.obj j=h.obj j)∧(∀ h0,Keep h0 h→h0.next≤id0→Keep h0 H):=by
 rcases t with⟨rfl,rfl|rfl⟩|⟨id,h1,h2,rfl,ho⟩
 ·exact ⟨h,rfl,rfl,rfl,fun _ _=>rfl,fun _ hk _=>hk⟩
 ·exact ⟨h,rfl,rfl,rfl,fun _ _=>rfl,fun _ hk _=>hk⟩
 ·refine ⟨h.kill id,by simp[isTail,ho],by simp[zOk,ho],rfl,fun j hj=>?_,fun h0 hk hn=>keep_kill (by omega) hk⟩;rw[kill_obj,if_neg (by omega)]
theorem Tl.grow{H:Heap}{len:Nat}(hn:id0≤H.next)(hl:len=rows.length):Tl (H.new (.arr z rows)) id0 z (.own H.next 0 len) rows:=
 .inr ⟨H.next,hn,Nat.lt_succ_self _,by rw[hl],by rw[new_obj,if_pos rfl]⟩
theorem Tl.up{h':Heap}(t:Tl h id0 z p rows)(hn:h.next≤h'.next)(ho: ∀ j,id0≤j→j<h.next→h'.obj j=h.obj j):Tl h' id0 z p rows:=by
 rcases t with ht|⟨id,h1,h2,rfl,h3⟩
 ·exact .inl ht
 ·exact .inr ⟨id,h1,by omega,rfl,by rw[ho id h1 h2];exact h3⟩
theorem FrzL_sc{n:Nat}:(l:List PV)→(∀ p∈l, ∃ v,p= .sc v)→FrzL n h l l
 |[],_=>by simp only[FrzL]
 |p::l,hp=>by
  obtain⟨v,hv⟩:=hp p (by simp);simp only[FrzL];exact⟨by rw[hv];simp only[FrzTo],FrzL_sc l (fun q hq=>hp q (by simp[hq]))⟩
theorem FrzR_sc{n:Nat}:(l:List (List PV))→(∀ r∈l, ∀ p∈r, ∃ v,p= .sc v)→FrzR n h l l
 |[],_=>by simp only[FrzR]
 |r::l,hp=>by
  simp only[FrzR];exact⟨FrzL_sc r (hp r (by simp)),FrzR_sc l (fun q hq=>hp q (by simp[hq]))⟩
theorem Tl.frz(t:Tl h id0 z p rows)(hs: ∀ r∈rows, ∀ p∈r, ∃ v,p= .sc v):FrzTo id0 h (.imm z rows) p:=by
 simp only[FrzTo];rcases t with⟨h1,h2⟩|⟨id,h1,h2,rfl,ho⟩
 ·exact .inr (.inl ⟨h1,h2.symm⟩)
 ·refine .inr (.inr ⟨id,0,_,_,rfl,h1,ho,by omega,?_⟩);rw[List.drop_zero,List.take_of_length_le (by omega)];exact FrzR_sc _ hs
theorem owp_useH{P:Program}{ow:Nat→Bool}{n:Nat}{s:Slots}{f:FuncId}{dst:Option Tmp}{args:List Operand}{ts:Array TypeId}{ty:TypeId}{pos:String}{af:Array Edge}{gd:Option (Nat × Bool)}{ags:List PV}{v:PV}{h1:Heap}{K:Slots→Heap→Prop}{ops rest:List Oper}
  (hc:PCall P f ags h fun r h'=>r=v∧h'=h1)(ha:args.map (pev s)=ags)(hk:lwn P ow n ops rest K (updO s dst v) h1):
  owp P ow {dst:=dst,op:= .call {callee:= .value (.func f),args:=args.toArray,argTypes:=ts},type:=ty,pos:=pos,after:=af,guard:=gd} (lwp P ow n ops rest K) s h:=
 owp_useL hc ha fun r h' hr=>by rw[hr.1,hr.2];exact hk
end Go.AM
namespace Go.Proofs.YtjeolbgpllbemaaGreat
open Go.AM
set_option maxHeartbeats 2000000
set_option maxRecDepth 20000
structure GrowX(h:Heap)(id:Nat)(o:AObj)(h':Heap):Prop where
 le:h.next≤h'.next
 old: ∀ i,i<h.next→i≠id→h'.obj i=h.obj i
 at_:h'.obj id=some o
theorem GrowX.new{h h':Heap}{id:Nat}{o o2:AObj}(g:GrowX h id o h')(hid:id<h.next):GrowX h id o (h'.new o2):=
 ⟨Nat.le_trans g.le (by simp[Heap.new]),fun i hi hne=>by simp only[Heap.new];rw[if_neg (by have:=g.le;omega)];exact g.old i hi hne,by simp only[Heap.new];rw[if_neg (by have:=g.le;omega)];exact g.at_⟩
theorem GrowX.set{h h':Heap}{id j:Nat}{o o2:AObj}(g:GrowX h id o h')(hid:id<h.next)(hj:h.next≤j):GrowX h id o (h'.set j o2):=
 ⟨g.le,fun i hi hne=>by simp only[Heap.set];rw[if_neg (by omega)];exact g.old i hi hne,by simp only[Heap.set];rw[if_neg (by omega)];exact g.at_⟩
theorem GrowX.put{h h':Heap}{id:Nat}{o o2:AObj}(g:GrowX h id o h'):GrowX h id o2 (h'.set id o2):=
 ⟨g.le,fun i hi hne=>by simp only[Heap.set];rw[if_neg hne];exact g.old i hi hne,by simp[Heap.set]⟩
theorem GrowX.refl{h:Heap}{id:Nat}{o:AObj}(ho:h.obj id=some o):GrowX h id o h:=⟨Nat.le_refl _,fun _ _ _=>rfl,ho⟩
theorem PCall.quietX{P:Program}{f:FuncId}{args:List PV}{h:Heap}{v:Value}{id:Nat}{o o0:AObj}(hb:hasBody P f=true)(hid:h.obj id=some o0)(hfl:inNO h.next o)(hc:PCall P f args h fun r h'=>r= .sc v∧GrowX h id o h'):
  PCall P f args h fun r h'=>r= .sc v∧h'=h.set id o:=by
 refine pcall_wf hb fun hw=>PCall.drop (hc.mono ?_);rintro r h' ⟨rfl,g⟩;refine⟨.sc v,h.set id o,⟨rfl,rfl⟩,by simp only[FrzTo],Nat.le_refl _,fun i oo ho=>?_⟩;have hlt:=hw id (by rw[hid];try rfl);simp only[Heap.set]at ho;split at ho
 ·rename_i hi;subst hi;simp at ho;subst ho;exact⟨g.at_,hlt,.inr hfl⟩
 ·rename_i hi;have h1:=hw i (by rw[ho];try rfl);exact⟨by rw[g.old i h1 hi];exact ho,h1,.inl ho⟩
theorem lowS_size(s:ByteArray):(lowS s).1.size≤32:=by
 unfold lowS;split
 ·rename_i hc;split
  ·rename_i l hl;have h1:=lowL_len hl;have hsl:s.data.toList.length=s.size:=(by rw[Array.length_toList];try rfl);have:(ByteArray.mk l.toArray).size=l.length:=(by simp[ByteArray.size]);simp only[this];omega
  ·simp [ByteArray.size]
 ·simp [ByteArray.size]
mutual
theorem svalid_le: ∀ (x:Sx)(d n:Nat),(svalid x d n).1=true→(svalid x d n).2≤4096
 | .mk kind value line col text kids,d,n=>by
  unfold svalid;split
  ·simp
  ·rename_i hn;split
   ·intro _;simp only;omega
   ·split
    ·intro _;simp only;omega
    ·split
     ·split
      ·exact svalids_le kids (d+1) (n+1) (by omega)
      ·simp
     ·simp
theorem svalids_le: ∀ (l:List Sx)(d n:Nat),n≤4096→(svalids l d n).1=true→(svalids l d n).2≤4096
 |[],d,n,hn=>by simp[svalids,hn]
 |k::ks,d,n,hn=>by
  unfold svalids;have h1:=svalid_le k d n;split
  ·rename_i n' he;rw[he]at h1;exact svalids_le ks d n' (h1 rfl)
  ·simp
end
theorem natc(n:Nat):((n+1:Nat):Int)=(n:Int)+1:=by simp
def cntO(n:Nat):AObj:= .arr 1 [[.sc (.int .i64 n)]]
theorem valid_c: ∀ (x:Sx),x.ok→ ∀ (d n:Nat),d≤32→n≤4096→ ∀ (id:Nat)(h:Heap),h.obj id=some (cntO n)→
  PCall Tryz.prog 64 [.agg x.cells,.sc (.int .i64 d),.ptr id 0 0] h fun r h'=>r= .sc (.bool (svalid x d n).1)∧h'=h.set id (cntO (svalid x d n).2):=by
 refine Sx.ind ?_;intro kind value line col text kids ih hok d n hd hn id h ho;simp only[Sx.ok]at hok;obtain⟨_,_,ht,hk,hks⟩:=hok;rw[Sx.oks_iff]at hks;have hlen:=Sx.rows_len kids;have wn:IntKind.i64.wrap ((n:Int)+1)=(n:Int)+1:=by rw[wrap64 (by omega) (by omega)]
 refine pcall_wf Ty.hb_64 fun hwf=>?_;have hid:id<h.next:=hwf id (by rw[ho];try rfl)
 refine PCall.quietX Ty.hb_64 ho (by simp[cntO,inNO,inNR,inNL,inN]) ?_;have ho':=ho;simp only[cntO]at ho';have G1:GrowX h id (cntO (n+1)) (h.set id (.arr 1 [[.sc (.int .i64 ((n:Int)+1))]])):=by
  have:=(GrowX.refl ho).put (o2:=cntO (n+1));simp only[cntO,natc]at this⊢;exact this
 unfold svalid;simp only[Sx.cells];cases b0:decide ((n:Int)+1>4096)with
 |true=>
  rw[if_pos (by simp at b0;omega)];refine uG0 Tryz.func64 Tryz.ntmps64 Tryz.results64 Ty.hb_64 ?_;replace zz:=uu ho' (uu wn b0);repeat'(first|refine a_seq fun K hK=>?_|refine uR zz ?_|refine uT zz ?_|(refine uN hK ?_;clear hK)|apply zI)
  first|exact G1|exact⟨rfl,G1⟩
 |false=>
  rw[if_neg (by simp at b0;omega)];cases k1:(kind==1)with
  |true=>
   have hk1:kind=1:=(by simpa using k1);rw[if_pos hk1];have e1:(kids.isEmpty)=((kids.length:Int)==0):=(by cases kids<;>simp;omega);have hlow:=fun h:Heap=>lower_c (h:=h) (s:=text);have hsz:=lowS_size text;have hW:wordB text=((lowS text).2&&((lowS text).1.data.toList==text.data.toList)&&!(numB (lowS text).1)):=rfl;generalize hL:lowS text=L at hlow hsz hW;obtain⟨w,ok⟩:=L;simp only at hlow hsz hW;have hwb:w.size≤bigN:=(by unfold bigN;omega);rw[hW];cases ok with
   |false=>
    refine uG0 Tryz.func64 Tryz.ntmps64 Tryz.results64 Ty.hb_64 ?_;replace zz:=uu ho' (uu wn (uu b0 k1));(repeat'(first|refine a_seq fun K hK=>?_|refine uR zz ?_|refine uK ?_|refine uC1 zz ?_|(refine uN hK ?_;clear hK)|apply zI));refine uU zz (hlow _) ?_;(repeat'(first|refine a_seq fun K hK=>?_|refine uR zz ?_|refine uT zz ?_|(refine uN hK ?_;clear hK)|apply zI));first|exact G1|exact⟨rfl,G1⟩
   |true=>
    cases c1:(w.data.toList==text.data.toList)with
    |false=>
     refine uG0 Tryz.func64 Tryz.ntmps64 Tryz.results64 Ty.hb_64 ?_;replace zz:=uu ho' (uu wn (uu b0 k1));(repeat'(first|refine a_seq fun K hK=>?_|refine uR zz ?_|refine uK ?_|refine uC1 zz ?_|(refine uN hK ?_;clear hK)|apply zI));refine uU zz (hlow _) ?_;replace zz:=uu ho' (uu wn (uu b0 (uu k1 c1)));(repeat'(first|refine a_seq fun K hK=>?_|refine uR zz ?_|refine uT zz ?_|(refine uN hK ?_;clear hK)|apply zI));first|exact G1|exact⟨rfl,G1⟩
    |true=>
     cases c2:numB w with
     |true=>
      refine uG0 Tryz.func64 Tryz.ntmps64 Tryz.results64 Ty.hb_64 ?_;replace zz:=uu ho' (uu wn (uu b0 k1));(repeat'(first|refine a_seq fun K hK=>?_|refine uR zz ?_|refine uK ?_|refine uC1 zz ?_|(refine uN hK ?_;clear hK)|apply zI));refine uU zz (hlow _) ?_;replace zz:=uu ho' (uu wn (uu b0 (uu k1 c1)));(repeat'(first|refine a_seq fun K hK=>?_|refine uR zz ?_|(refine uN hK ?_;clear hK)|apply zI));replace zz:=uu ho' (uu wn (uu b0 (uu k1 (uu c1 (uu c2 @Bool.not_true)))));refine uU zz (numeric_c (s:=w) hwb) ?_;(repeat'(first|refine uT zz ?_|(refine uN hK ?_;clear hK)|apply zI));first|exact G1|exact⟨rfl,G1⟩
     |false=>
      cases c3:(value==0)with
      |false=>
       have c3':decide (value=0)=false:=(by simpa using c3);refine uG0 Tryz.func64 Tryz.ntmps64 Tryz.results64 Ty.hb_64 ?_;replace zz:=uu ho' (uu wn (uu b0 k1));(repeat'(first|refine a_seq fun K hK=>?_|refine uR zz ?_|refine uK ?_|refine uC1 zz ?_|(refine uN hK ?_;clear hK)|apply zI));refine uU zz (hlow _) ?_;replace zz:=uu ho' (uu wn (uu b0 (uu k1 c1)));(repeat'(first|refine a_seq fun K hK=>?_|refine uR zz ?_|(refine uN hK ?_;clear hK)|apply zI));replace zz:=uu ho' (uu wn (uu b0 (uu k1 (uu c1 (uu c2 (uu c3 (uu hlen @Bool.not_false)))))));refine uU zz (numeric_c (s:=w) hwb) ?_;replace zz:=uu ho' (uu wn (uu b0 (uu k1 (uu c1 (uu c2 (uu c3 @Bool.not_false))))));(repeat'(first|refine uT zz ?_|(refine uN hK ?_;clear hK)|apply zI));first|exact G1|exact⟨by simp only[c3',Bool.and_false,Bool.false_and],G1⟩
      |true=>
       have c3':decide (value=0)=true:=(by simpa using c3);refine uG0 Tryz.func64 Tryz.ntmps64 Tryz.results64 Ty.hb_64 ?_;replace zz:=uu ho' (uu wn (uu b0 k1));(repeat'(first|refine a_seq fun K hK=>?_|refine uR zz ?_|refine uK ?_|refine uC1 zz ?_|(refine uN hK ?_;clear hK)|apply zI));refine uU zz (hlow _) ?_;replace zz:=uu ho' (uu wn (uu b0 (uu k1 c1)));(repeat'(first|refine a_seq fun K hK=>?_|refine uR zz ?_|(refine uN hK ?_;clear hK)|apply zI));replace zz:=uu ho' (uu wn (uu b0 (uu k1 (uu c1 (uu c2 (uu c3 (uu hlen @Bool.not_false)))))));refine uU zz (numeric_c (s:=w) hwb) ?_;replace zz:=uu ho' (uu wn (uu b0 (uu k1 (uu c1 (uu c2 (uu c3 (uu @Bool.not_false hlen)))))));(repeat'(first|refine uT zz ?_|(refine uN hK ?_;clear hK)|apply zI));exact⟨by simp only[c3',e1,Bool.not_false,Bool.true_and],G1⟩
  |false=>
   have hk1:¬ kind=1:=(by simpa using k1);rw[if_neg hk1];cases k2:(kind==2)with
   |true=>
    have hk2:kind=2:=(by simpa using k2);rw[if_pos hk2];have e1:(kids.isEmpty)=((kids.length:Int)==0):=(by cases kids<;>simp;omega);cases c1:(text.data.toList==(#[]:Array UInt8).toList)with
    |false=>
     refine uG0 Tryz.func64 Tryz.ntmps64 Tryz.results64 Ty.hb_64 ?_;replace zz:=uu ho' (uu wn (uu b0 (uu k1 (uu k2 c1))));(repeat'(first|refine a_seq fun K hK=>?_|refine uR zz ?_|refine uT zz ?_|refine uK ?_|refine uC1 zz ?_|(refine uN hK ?_;clear hK)|apply zI));first|exact⟨by simp only[bEq,c1,Bool.false_and],G1⟩|(simp only[bEq,c1,e1,c2,Bool.true_and];exact G1)|exact G1
    |true=>
     cases c2:((kids.length:Int)==0)with
     |false=>
      refine uG0 Tryz.func64 Tryz.ntmps64 Tryz.results64 Ty.hb_64 ?_;replace zz:=uu ho' (uu wn (uu b0 (uu k1 (uu k2 (uu c1 (uu c2 hlen))))));(repeat'(first|refine a_seq fun K hK=>?_|refine uR zz ?_|refine uT zz ?_|refine uK ?_|refine uC1 zz ?_|(refine uN hK ?_;clear hK)|apply zI));first|exact⟨by simp only[bEq,c1,e1,c2,Bool.and_false,Bool.false_and],G1⟩|(simp only[bEq,c1,e1,c2,Bool.true_and];exact G1)|exact G1
     |true=>
      cases c3:decide (value≥ -1099511627776)with
      |false=>
       refine uG0 Tryz.func64 Tryz.ntmps64 Tryz.results64 Ty.hb_64 ?_;replace zz:=uu ho' (uu wn (uu b0 (uu k1 (uu k2 (uu c1 (uu c2 (uu c3 hlen)))))));(repeat'(first|refine a_seq fun K hK=>?_|refine uR zz ?_|refine uT zz ?_|refine uK ?_|refine uC1 zz ?_|(refine uN hK ?_;clear hK)|apply zI));have c3':decide (-1099511627776≤value)=false:=c3;first|exact⟨by simp only[bEq,c1,e1,c2,c3',Bool.and_false,Bool.false_and],G1⟩|(simp only[bEq,c1,e1,c2,Bool.true_and];exact G1)|exact G1
      |true=>
       refine uG0 Tryz.func64 Tryz.ntmps64 Tryz.results64 Ty.hb_64 ?_;replace zz:=uu ho' (uu wn (uu b0 (uu k1 (uu k2 (uu c1 (uu c2 (uu c3 hlen)))))));(repeat'(first|refine a_seq fun K hK=>?_|refine uR zz ?_|refine uT zz ?_|refine uK ?_|refine uC1 zz ?_|(refine uN hK ?_;clear hK)|apply zI));have c3':decide (-1099511627776≤value)=true:=c3;first|exact⟨by simp only[bEq,c1,e1,c2,c3',Bool.true_and],G1⟩|(simp only[bEq,c1,e1,c2,Bool.true_and];exact G1)|exact G1
   |false=>
    have hk2:¬ kind=2:=(by simpa using k2);rw[if_neg hk2];cases k3:(kind==3)with
    |false=>
     have hk3:¬ kind=3:=(by simpa using k3);rw[if_neg hk3];refine uG0 Tryz.func64 Tryz.ntmps64 Tryz.results64 Ty.hb_64 ?_;replace zz:=uu ho' (uu wn (uu b0 (uu k1 (uu k2 k3))));(repeat'(first|refine a_seq fun K hK=>?_|refine a_block ?_|refine uR zz ?_|refine uT zz ?_|refine uK ?_|refine uC1 zz ?_|(refine uN hK ?_;clear hK)|apply zI));first|exact G1|exact⟨rfl,G1⟩
    |true=>
     have hk3:kind=3:=(by simpa using k3);rw[if_pos hk3];cases c1:(text.data.toList==(#[]:Array UInt8).toList)with
     |false=>
      rw[if_neg (by simp[bEq,c1])];refine uG0 Tryz.func64 Tryz.ntmps64 Tryz.results64 Ty.hb_64 ?_;replace zz:=uu ho' (uu wn (uu b0 (uu k1 (uu k2 (uu k3 (uu c1 @Bool.not_false))))));(repeat'(first|refine a_seq fun K hK=>?_|refine uR zz ?_|refine uT zz ?_|refine uK ?_|refine uC1 zz ?_|(refine uN hK ?_;clear hK)|apply zI));first|exact G1|exact⟨rfl,G1⟩
     |true=>
      cases c2:(value !=0)with
      |true=>
       rw[if_neg (by simp at c2;simp[c2])];refine uG0 Tryz.func64 Tryz.ntmps64 Tryz.results64 Ty.hb_64 ?_;replace zz:=uu ho' (uu wn (uu b0 (uu k1 (uu k2 (uu k3 (uu c1 (uu c2 @Bool.not_true)))))));(repeat'(first|refine a_seq fun K hK=>?_|refine uR zz ?_|refine uT zz ?_|refine uK ?_|refine uC1 zz ?_|(refine uN hK ?_;clear hK)|apply zI));first|exact G1|exact⟨rfl,G1⟩
      |false=>
       cases c3:((d:Int)==32)with
       |true=>
        rw[if_neg (by simp at c3;simp;omega)];refine uG0 Tryz.func64 Tryz.ntmps64 Tryz.results64 Ty.hb_64 ?_;replace zz:=uu ho' (uu wn (uu b0 (uu k1 (uu k2 (uu k3 (uu c1 (uu c2 (uu c3 @Bool.not_true))))))));(repeat'(first|refine a_seq fun K hK=>?_|refine uR zz ?_|refine uT zz ?_|refine uK ?_|refine uC1 zz ?_|(refine uN hK ?_;clear hK)|apply zI));first|exact G1|exact⟨rfl,G1⟩
       |false=>
        rw[if_pos (by simp at c2 c3;exact⟨c1,c2,by omega⟩)];refine uG0 Tryz.func64 Tryz.ntmps64 Tryz.results64 Ty.hb_64 ?_;replace zz:=uu ho' (uu wn (uu b0 (uu k1 (uu k2 (uu k3 (uu c1 (uu c2 (uu c3 (uu @Bool.not_true hlen)))))))));(repeat'(first|refine a_seq fun K hK=>?_|refine a_block ?_|refine uR zz ?_|refine uK ?_|refine uC1 zz ?_|(refine uN hK ?_;clear hK)|apply zI));generalize hV:svalids kids (d+1) (n+1)=V;refine a_loop (fun c S h'=>S 1= .sc (.int .i64 d)∧S 2= .ptr id 0 0∧S 89= .imm 6 (Sx.rows kids)∧S 90= .sc (.int .i64 kids.length)∧ ∃ k n':Nat,S 91= .sc (.int .i64 k)∧k≤kids.length∧c=kids.length-k∧n'≤4096∧GrowX h id (cntO n') h'∧V=svalids (kids.drop k) (d+1) n') kids.length ?_ ?_
        ·simp only[Ty.w,simprocAttr];exact⟨0,n+1,rfl,by omega,rfl,by simp at b0;omega,G1,hV.symm⟩
        ·(try clear zz);clear G1 ho';rintro c S h' ⟨g1,g2,g89,g90,k,n',g91,hkl,rfl,hn',hG,hinv⟩;by_cases hlt:k<kids.length
         ·have hdk:decide ((k:Int)<(kids.length:Int))=true:=(by simp;omega);have w7:IntKind.i64.wrap ((k:Int)+1)=k+1:=(by unfold bigN at hk;rw[wrap64 (by omega) (by omega)]);have wd:IntKind.i64.wrap ((d:Int)+1)=(d:Int)+1:=(by rw[wrap64 (by omega) (by omega)]);obtain⟨e,hx⟩: ∃ e,kids[k]? =some e:=⟨_,List.getElem?_eq_getElem hlt⟩;have hmem:=List.mem_of_getElem? hx;have hc:=ih e hmem (hks e hmem) (d+1) n' (by simp at c3;omega) hn' id;have hle:=svalid_le e (d+1) n';rw[drop_of_get hx]at hinv;simp only[svalids]at hinv;generalize svalid e (d+1) n'=W at hc hle hinv;obtain⟨b,n''⟩:=W;simp only[natc]at hc hle hinv;have hr:=Sx.rows_get hx;have hne:id≠h'.next:=by have:=hG.le;omega
          have hne':(h'.next=id)=False:=(by simp;omega);have hc2:=hc ((h'.new (.arr 6 [[.sc (.int .i64 0),.sc (.int .i64 0),.sc (.int .i64 0),.sc (.int .i64 0),.sc (.string ⟨#[]⟩),.sc (.slice none 0 0)]])).set h'.next (.arr 6 [e.cells])) (by simp only[Heap.set,Heap.new];rw[if_neg hne,if_neg hne];exact hG.at_);have hG2:GrowX h id (cntO n') ((h'.new (.arr 6 [[.sc (.int .i64 0),.sc (.int .i64 0),.sc (.int .i64 0),.sc (.int .i64 0),.sc (.string ⟨#[]⟩),.sc (.slice none 0 0)]])).set h'.next (.arr 6 [e.cells])):=(hG.new hid).set hid hG.le;obtain⟨ki,va,li,co,te,ks⟩:=e;simp only[Sx.cells]at hr hc2 hG2;replace zz:=uu g1 (uu g2 (uu g89 (uu g90 (uu g91 (uu hlen (uu hdk (uu hr wd)))))));(repeat'(first|refine a_seq fun K hK=>?_|refine uR zz ?_|refine uK ?_|refine uC1 zz ?_|(refine uN hK ?_;clear hK)|apply zI));refine owp_useH (hc2) (by(try simp only[Ty.w,simprocAttr,g1,g2,g89,g90,g91,hlen,hdk,hr,wd]);try rfl) ?_;simp(maxSteps:=2000000) only[Ty.w,simprocAttr,g1,g2,g89,g90,g91,hlen,hdk,hr,wd];cases b with
          |false=>
           subst hinv;replace zz:=uu g1 (uu g2 (uu g89 (uu g90 (uu g91 (uu w7 @Bool.not_false)))));(repeat'(first|refine a_seq fun K hK=>?_|refine uR zz ?_|refine uT zz ?_|(refine uN hK ?_;clear hK)|apply zI));exact hG2.put
          |true=>
           replace zz:=uu g1 (uu g2 (uu g89 (uu g90 (uu g91 (uu w7 @Bool.not_true)))));(repeat'(first|refine a_block ?_|refine uR zz ?_|refine uK ?_|(refine uN hK ?_;clear hK)|apply zI));exact⟨kids.length-(k+1),by omega,k+1,n'',by simp,by omega,rfl,hle rfl,hG2.put,hinv⟩
         ·have hdk:decide ((k:Int)<(kids.length:Int))=false:=(by simp;omega);rw[List.drop_eq_nil_of_le (by omega)]at hinv;simp only[svalids]at hinv;subst hinv;replace zz:=uu g1 (uu g2 (uu g89 (uu g90 (uu g91 hdk))));(repeat'(first|refine a_seq fun K hK=>?_|refine uR zz ?_|refine uT zz ?_|refine uX ?_|refine uC1 zz ?_|(refine uN hK ?_;clear hK)|(clear hK;refine uN hK ?_;clear hK)|apply zI));rw[hV];exact⟨rfl,hG⟩
theorem svalid_c{x:Sx}(hx:x.ok)(h:Heap):PCall Tryz.prog 30 [.agg x.cells] h fun r h'=>r= .sc (.bool (svalid x 0 0).1)∧h'=h:=by
 have hc:=valid_c x hx 0 0 (by omega) (by omega) h.next ((h.new (.arr 1 [[.sc (.int .i64 0)]])).set h.next (.arr 1 [[.sc (.int .i64 0)]])) (by simp[Heap.set,cntO])
 refine PCall.quiet Ty.hb_30 ?_;generalize svalid x 0 0=W at hc;obtain⟨b,n⟩:=W;obtain⟨ki,va,li,co,te,ks⟩:=x;simp only[Sx.cells,Int.natCast_zero]at hc⊢;refine uG0 Tryz.func30 Tryz.ntmps30 Tryz.results30 Ty.hb_30 ?_;repeat'(first|refine a_seq fun K hK=>?_|refine uR trivial ?_|(refine uN hK ?_;clear hK)|apply zI)
 refine owp_useH (hc) (by(try simp only[Ty.w,simprocAttr]);try rfl) ?_;simp(maxSteps:=2000000) only[Ty.w,simprocAttr];repeat'(first|refine uT trivial ?_|(refine uN hK ?_;clear hK)|apply zI)
 exact(((Grow.refl h).new _).set (Nat.le_refl _) _).set (Nat.le_refl _) _
end Go.Proofs.YtjeolbgpllbemaaGreat
namespace Go.Proofs.YtjeolbgpllbemaaGreat
open Go.AM
set_option maxHeartbeats 2000000
set_option maxRecDepth 20000
theorem sx_in(n:Nat): ∀ x:Sx,inNL n x.cells:=by
 refine Sx.ind ?_;intro kind value line col text kids ih;have:inNR n (Sx.rows kids):=by
  try clear zz
  clear kind value line col text
  induction kids with
  |nil=>simp only[Sx.rows,inNR]
  |cons k ks ih2=>
   simp only[Sx.rows,inNR];exact⟨ih k (by simp),ih2 fun q hq=>ih q (by simp[hq])⟩
 simp only[Sx.cells,inNL,inN,and_true,true_and];exact this
theorem sxs_in(n:Nat): ∀ l:List Sx,inNR n (Sx.rows l)
 |[]=>by simp only[Sx.rows,inNR]
 |k::ks=>by simp only[Sx.rows,inNR];exact⟨sx_in n k,sxs_in n ks⟩
theorem sx_frz(n:Nat)(h:Heap)(x:Sx):FrzL n h x.cells x.cells:=by
 obtain⟨kind,value,line,col,text,kids⟩:=x;simp only[Sx.cells,FrzL,FrzTo,and_true,true_and];exact .inl (sxs_in n kids)
theorem sxs_frz(n:Nat)(h:Heap): ∀ l:List Sx,FrzR n h (Sx.rows l) (Sx.rows l)
 |[]=>by simp only[Sx.rows,FrzR]
 |k::ks=>by simp only[Sx.rows,FrzR];exact⟨sx_frz n h k,sxs_frz n h ks⟩
theorem PCall.frz{P:Program}{f:FuncId}{args:List PV}{h:Heap}{v:PV}(hb:hasBody P f=true)(hc:PCall P f args h fun r' h'=>FrzTo h.next h' v r'∧Grow h h'):PCall P f args h fun r h'=>r=v∧h'=h:=by
 refine pcall_wf hb fun hw=>PCall.drop (hc.mono ?_);rintro r' h' ⟨hf,g⟩;refine⟨v,h,⟨rfl,rfl⟩,hf,Nat.le_refl _,fun id o ho=>?_⟩;have hid:=hw id (by rw[ho];try rfl);exact⟨by rw[g.old id hid];exact ho,hid,.inl ho⟩
theorem frz_own{n id off len:Nat}{h':Heap}(hid:id<n):FrzTo n h' (.own id off len) (.own id off len):=by simp only[FrzTo];exact⟨trivial,hid⟩
def wordM(s:ByteArray):Sx:= .mk 1 0 0 0 s []
def listM(l:List Sx):Sx:= .mk 3 0 0 0 ⟨#[]⟩ l
def wordsM(first:ByteArray)(l:List ByteArray):Sx:=listM ((first::l).map wordM)
theorem word_c{h:Heap}{s:ByteArray}:PCall Tryz.prog 63 [sPV s] h fun r h'=>r= .agg (wordM s).cells∧h'=h:=by
 refine PCall.frz Ty.hb_63 ?_;refine uG0 Tryz.func63 Tryz.ntmps63 Tryz.results63 Ty.hb_63 ?_;repeat'(first|refine a_seq fun K hK=>?_|refine uR trivial ?_|refine uT trivial ?_|(refine uN hK ?_;clear hK)|apply zI)
 refine⟨?_,((Grow.refl h).new _).set (Nat.le_refl _) _⟩;simp only[wordM,Sx.cells,Sx.rows,FrzTo,FrzL];exact⟨_,rfl,rfl,rfl,rfl,rfl,rfl,.inr (.inl ⟨rfl,.inr rfl⟩),trivial⟩
theorem list_c{h:Heap}{p:PV}(h1:oneC p=true)(hf: ∀ h',FrzTo h.next h' p p):PCall Tryz.prog 99 [p] h fun r h'=>r= .agg [.sc (.int .i64 3),.sc (.int .i64 0),.sc (.int .i64 0),.sc (.int .i64 0),.sc (.string ⟨#[]⟩),p]∧h'=h:=by
 refine PCall.frz Ty.hb_99 ?_;have hc:p.cells=[p]:=by cases p<;>simp[oneC]at h1<;>rfl
 refine uG0 Tryz.func99 Tryz.ntmps99 Tryz.results99 Ty.hb_99 ?_;replace zz:=uu hc h1;repeat'(first|refine a_seq fun K hK=>?_|refine uR zz ?_|refine uT zz ?_|(refine uN hK ?_;clear hK)|apply zI)
 refine⟨?_,((Grow.refl h).new _).set (Nat.le_refl _) _⟩;simp only[FrzTo,FrzL];exact⟨_,rfl,rfl,rfl,rfl,rfl,rfl,hf _,trivial⟩
structure WordsI(h:Heap)(first:ByteArray)(l:List ByteArray)(k:Nat)(h':Heap):Prop where
 grow:Grow h h'
 ex: ∃ id,h.next+1+1<h'.next∧id≠h.next+1+1∧h.next<id∧id<h'.next∧
  h'.obj h.next=some (.arr 6 [[.sc (.int .i64 0),.sc (.int .i64 0),.sc (.int .i64 0),.sc (.int .i64 0),.sc (.string ⟨#[]⟩),.sc (.slice none 0 0)]])∧
  h'.obj (h.next+1+1)=some (.arr 6 [[.sc (.int .i64 3),.sc (.int .i64 0),.sc (.int .i64 0),.sc (.int .i64 0),.sc (.string ⟨#[]⟩),.own id 0 (k+1)]])∧
  h'.obj id=some (.arr 6 (Sx.rows ((first::l.take k).map wordM)))
theorem words_c{h:Heap}{first:ByteArray}{l:List ByteArray}(hl:l.length≤1048576):PCall Tryz.prog 98 [sPV first,.imm 1 (strRows l)] h fun r h'=>r= .agg (wordsM first l).cells∧h'=h:=by
 refine PCall.frz Ty.hb_98 ?_;have hll:=strRows_len l;have hw: ∀ (s:ByteArray)(h:Heap),PCall Tryz.prog 63 [sPV s] h fun r h'=>r= .agg (wordM s).cells∧h'=h:=fun s h=>word_c;simp only[wordM,Sx.cells,Sx.rows]at hw;refine uG (ow:=fun t=>t==10) (wf:=fun _=>false) Tryz.func98 Tryz.ntmps98 Tryz.results98 Ty.hb_98 ?_;repeat'(first|refine a_seq fun K hK=>?_|refine uR trivial ?_|(refine uN hK ?_;clear hK)|apply zI)
 refine uU trivial (hw first _) ?_;try apply zI
 refine uU trivial (list_c (p:= .own (h.next+1) 0 1) rfl (fun _=>frz_own (by simp[Heap.new]))) ?_;repeat'(first|refine a_seq fun K hK=>?_|refine a_block ?_|refine uR hll ?_|(refine uN hK ?_;clear hK)|apply zI)
 refine a_loop (fun m S h'=>S 4= .ptr h.next 0 0∧S 5= .ptr (h.next+1+1) 0 0∧S 12= .imm 1 (strRows l)∧S 13= .sc (.int .i64 l.length)∧ ∃ k:Nat,S 14= .sc (.int .i64 k)∧k≤l.length∧m=l.length-k∧WordsI h first l k h') l.length ?_ ?_
 ·simp only[Ty.w,simprocAttr];refine⟨0,rfl,by omega,rfl,?_⟩;have e1:¬ h.next=h.next+1+1:=by omega
  refine⟨(((((Grow.refl h).new _).new _).new _).set (show h.next≤h.next+1+1 by omega) _),h.next+1,by simp[Heap.new,Heap.set],by omega,by omega,by simp[Heap.new,Heap.set],?_,?_,?_⟩
  ·simp [Heap.new,Heap.set,e1]
  ·simp [Heap.new,Heap.set]
  ·simp [Heap.new,Heap.set,wordM,Sx.rows,Sx.cells]
 ·rintro m S h' ⟨g4,g5,g12,g13,k,g14,hk,rfl,hI⟩;obtain⟨hg,id,hn2,hne,hlo,hhi,o1,o2,o3⟩:=hI;by_cases hlt:k<l.length
  ·have hd:decide ((k:Int)<(l.length:Int))=true:=(by simp;omega);have w7:IntKind.i64.wrap ((k:Int)+1)=k+1:=(by rw[wrap64 (by omega) (by omega)]);obtain⟨s,hx⟩: ∃ s,l[k]? =some s:=⟨_,List.getElem?_eq_getElem hlt⟩;have hr:=strRows_get hx;have hrl:(Sx.rows ((first::l.take k).map wordM)).length=k+1:=(by rw[Sx.rows_len];simp;omega);generalize hR:Sx.rows ((first::l.take k).map wordM)=R at o3 hrl;have n1:(h.next+1+1=id)=False:=(by simp;omega);have n2:(h.next+1+1=h'.next)=False:=(by simp;omega);have htk:List.take (k+1) R=R:=List.take_of_length_le (by omega);have hb:(k+1+1)*72≤140737488355328:=(by omega);replace zz:=uu g4 (uu g5 (uu g12 (uu g13 (uu g14 (uu hd (uu hr (uu w7 (uu o2 o3))))))));(repeat'(first|refine a_seq fun K hK=>?_|refine uR zz ?_|refine uE zz fun K hK=>?_|refine uK ?_|refine uC1 zz ?_|(refine uN hK ?_;clear hK)|apply zI));replace zz:=uu g4 (uu g5 (uu g12 (uu g13 (uu g14 (uu o2 o3)))));(first|refine uV zz (hw s _) ?_|refine uA zz (hw s _) ?_);replace zz:=uu g4 (uu g5 (uu g12 (uu g13 (uu g14 (uu w7 (uu o2 (uu o3 (uu n1 (uu n2 (uu hrl (uu htk hb)))))))))));(repeat'(first|refine uR zz ?_|(refine uN hK ?_;clear hK)|refine uB zz ?_|(rw[if_pos];rotate_left 1;omega;simp(maxSteps:=2000000) only[Ty.w,simprocAttr,g4,g5,g12,g13,g14,w7,o2,o3,n1,n2,hrl,htk,hb])|apply zI));refine⟨l.length-(k+1),by omega,k+1,by simp,by omega,rfl,((hg.kill (by omega)).new _).set (by omega) _,h'.next,?_,?_,?_,?_,?_,?_,?_⟩
   ·simp only[Heap.set,Heap.new,Heap.kill];omega
   ·omega
   ·omega
   ·simp only[Heap.set,Heap.new,Heap.kill];omega
   ·have a1:¬ h.next=h.next+1+1:=by omega
    have a2:¬ h.next=h'.next:=by omega
    have a3:¬ h.next=id:=by omega
    simp only[Heap.set,Heap.new,Heap.kill,a1,a2,a3,if_false];exact o1
   ·simp only[Heap.set,if_true]
   ·have a1:¬ h'.next=h.next+1+1:=by omega
    simp only[Heap.set,Heap.new,Heap.kill,a1,if_false,if_true];rw[List.take_add_one,hx, ← hR];simp only[Sx.rows_map,List.map_cons,List.map_append,List.map_nil,Option.toList_some,List.cons_append,wordM,Sx.cells]
  ·have hd:decide ((k:Int)<(l.length:Int))=false:=(by simp;omega);have hke:k=l.length:=(by omega);subst hke;rw[List.take_length]at o3;have n1:(h.next+1+1=h.next)=False:=(by simp;omega);replace zz:=uu g4 (uu g5 (uu g12 (uu g13 (uu g14 (uu hd (uu o1 (uu o2 o3)))))));(repeat'(first|refine a_seq fun K hK=>?_|refine uR zz ?_|refine uT zz ?_|refine uX ?_|refine uC1 zz ?_|(refine uN hK ?_;clear hK)|(clear hK;refine uN hK ?_;clear hK)|apply zI));refine⟨?_,hg.set (Nat.le_refl _) _⟩;simp only[wordsM,listM,Sx.cells,FrzTo,FrzL];refine⟨_,rfl,rfl,rfl,rfl,rfl,rfl,.inr (.inr ⟨id,0,l.length+1,Sx.rows ((first::l).map wordM),rfl,by omega,?_,?_,?_⟩),trivial⟩
   ·simp only[Heap.set];rw[if_neg (by omega)];exact o3
   ·rw [Sx.rows_len];simp
   ·rw [List.drop_zero,List.take_of_length_le (by rw[Sx.rows_len];simp)];exact sxs_frz _ _ _
end Go.Proofs.YtjeolbgpllbemaaGreat
namespace Go.AM
mutual
def Ex.small:Ex→Prop
 | .mk _ _ _ args kids=>args.length≤1048576∧Ex.smalls kids
def Ex.smalls:List Ex→Prop
 |[]=>True
 |k::ks=>k.small∧Ex.smalls ks
end
theorem Ex.smalls_iff:{l:List Ex}→(Ex.smalls l↔ ∀ k∈l,k.small)
 |[]=>by simp[Ex.smalls]
 |k::ks=>by simp[Ex.smalls,Ex.smalls_iff (l:=ks)]
end Go.AM
namespace Go.Proofs.YtjeolbgpllbemaaGreat
open Go.AM
set_option maxHeartbeats 2000000
set_option maxRecDepth 20000
def opNum:ByteArray:=⟨#[110,117,109,98,101,114]⟩
def opFlu:ByteArray:=⟨#[102,108,117,101,110,116]⟩
def opPls:ByteArray:=⟨#[43]⟩
def opMin:ByteArray:=⟨#[45]⟩
def opTim:ByteArray:=⟨#[42]⟩
def emptyB(s:ByteArray):Bool:=bEq s ⟨#[]⟩
def termB(s:ByteArray):Bool:=nameB s||varB s
def inNum(n:Int):Bool:=decide (-1099511627776≤n)&&decide (n≤1099511627776)
def shapedE:Ex→Bool
 | .mk op name n args kids=>
  if bEq op opNum then emptyB name&&args.isEmpty&&kids.isEmpty&&inNum n
  else if bEq op opFlu then decide (n=0)&&kids.isEmpty&&nameB name&&args.all termB
  else if bEq op opPls||bEq op opMin||bEq op opTim then decide (n=0)&&emptyB name&&args.isEmpty&&(match kids with
   |[a,b]=>shapedE a&&shapedE b
   |_=>false)
  else false
termination_by e=>SizeOf.sizeOf e
decreasing_by all_goals(simp_wf;omega)
def formedM:Ex→Nat→Nat→Bool × Nat
 | .mk op name n args kids,d,c=>
  if c+1≤4096∧d≤32 then
   if bEq op opNum then(emptyB name&&args.isEmpty&&kids.isEmpty&&inNum n,c+1)
   else if bEq op opFlu then(decide (n=0)&&kids.isEmpty&&nameB name&&args.all termB,c+1)
   else if bEq op opPls||bEq op opMin||bEq op opTim then
    (if (decide (n = 0) && emptyB name && args.isEmpty) = true then (match kids with
     |[a,b]=>(match formedM a (d+1) (c+1)with
      |(true,c')=>formedM b (d+1) c'
      |(false,c')=>(false,c'))
     |_=>(false,c+1))else(false,c+1))
   else(false,c+1)
  else(false,c+1)
termination_by e=>SizeOf.sizeOf e
decreasing_by all_goals(simp_wf;omega)
def exW:Ex→Sx
 | .mk op name n args kids=>
  if bEq op opNum then .mk 2 n 0 0 ⟨#[]⟩ []
  else if bEq op opFlu then wordsM name args
  else match kids with
   |[a,b]=>listM [wordM op,exW a,exW b]
   |_=>listM [wordM op]
termination_by e=>SizeOf.sizeOf e
decreasing_by all_goals(simp_wf;omega)
theorem frz_imm{n z:Nat}{h':Heap}{rows:List (List PV)}(h:inNR n rows):FrzTo n h' (.imm z rows) (.imm z rows):=by simp only[FrzTo];exact .inl ⟨trivial,h⟩
theorem writeE_c: ∀ e:Ex,e.small→shapedE e=true→ ∀ h:Heap,PCall Tryz.prog 100 [.agg e.cells] h fun r h'=>r= .agg (exW e).cells∧h'=h:=by
 refine Ex.ind ?_;intro op name n args kids ih hsm hsh h;simp only[Ex.small]at hsm;obtain⟨hal,hks⟩:=hsm;rw[Ex.smalls_iff]at hks;unfold shapedE at hsh;unfold exW;refine PCall.frz Ty.hb_100 ?_;cases c1:bEq op opNum with
 |true=>
  have c1':(op.data.toList==(#[110,117,109,98,101,114]:Array UInt8).toList)=true:=c1;simp only[if_true,Ex.cells];refine uG0 Tryz.func100 Tryz.ntmps100 Tryz.results100 Ty.hb_100 ?_;repeat'(first|refine a_seq fun K hK=>?_|refine uR c1' ?_|refine uT c1' ?_|(refine uN hK ?_;clear hK)|apply zI)
  refine⟨?_,((Grow.refl h).new _).set (Nat.le_refl _) _⟩;simp only[Sx.cells,Sx.rows,FrzTo,FrzL];exact⟨_,rfl,rfl,rfl,rfl,rfl,rfl,.inr (.inl ⟨rfl,.inr rfl⟩),trivial⟩
 |false=>
  have c1':(op.data.toList==(#[110,117,109,98,101,114]:Array UInt8).toList)=false:=c1;rw[c1]at hsh;simp only[Bool.false_eq_true,if_false]at hsh⊢;cases c2:bEq op opFlu with
  |true=>
   have c2':(op.data.toList==(#[102,108,117,101,110,116]:Array UInt8).toList)=true:=c2;have hw:=fun h:Heap=>words_c (h:=h) (first:=name) hal;have hfz:=fun(n:Nat)(h:Heap)=>sx_frz n h (wordsM name args);simp only[if_true,Ex.cells];generalize wordsM name args=X at hw hfz;obtain⟨ki,va,li,co,te,ks⟩:=X;simp only[Sx.cells]at hw hfz⊢;refine uG0 Tryz.func100 Tryz.ntmps100 Tryz.results100 Ty.hb_100 ?_;(repeat'(first|refine a_seq fun K hK=>?_|refine uR (uu c1' c2') ?_|(refine uN hK ?_;clear hK)|apply zI));refine uU (uu c1' c2') (hw _) ?_;(repeat'(first|refine uT trivial ?_|(refine uN hK ?_;clear hK)|apply zI));refine⟨?_,((Grow.refl h).new _).set (Nat.le_refl _) _⟩;simp only[FrzTo];exact⟨_,rfl,hfz _ _⟩
  |false=>
   have c2':(op.data.toList==(#[102,108,117,101,110,116]:Array UInt8).toList)=false:=c2;rw[c2]at hsh;simp only[Bool.false_eq_true,if_false]at hsh⊢;split at hsh
   case isFalse=>simp at hsh
   simp only[Bool.and_eq_true]at hsh;obtain⟨⟨⟨_,_⟩,_⟩,hsh⟩:=hsh;split at hsh
   case h_2=>simp at hsh
   rename_i a b;simp only[Bool.and_eq_true]at hsh;have ca:=ih a (by simp) (hks a (by simp)) hsh.1;have cb:=ih b (by simp) (hks b (by simp)) hsh.2;have hw:=fun h:Heap=>word_c (h:=h) (s:=op);have hfz:=fun(n:Nat)(h:Heap)=>sx_frz n h (listM [wordM op,exW a,exW b]);have hl:=fun h:Heap=>list_c (h:=h) (p:= .imm 6 (Sx.rows [wordM op,exW a,exW b])) rfl (fun _=>frz_imm (sxs_in _ _));generalize exW a=xa at ca hfz hl⊢;generalize exW b=xb at cb hfz hl⊢;(try clear zz);clear ih hks hsh;obtain⟨aop,aname,an,aargs,akids⟩:=a;obtain⟨bop,bname,bn,bargs,bkids⟩:=b;obtain⟨ki,va,li,co,te,ks⟩:=xa;obtain⟨ki2,va2,li2,co2,te2,ks2⟩:=xb;simp only[Ex.cells,Ex.rows,listM,Sx.cells,Sx.rows,wordM]at ca cb hw hfz hl⊢;refine uG0 Tryz.func100 Tryz.ntmps100 Tryz.results100 Ty.hb_100 ?_;replace zz:=uu c1' c2';(repeat'(first|refine a_seq fun K hK=>?_|refine a_block ?_|refine uR zz ?_|refine uD zz ?_|refine uK ?_|(refine uN hK ?_;clear hK)|apply zI));(first|refine uV trivial (hw _) ?_|refine uA trivial (hw _) ?_);(try apply zI);(first|refine uV trivial (ca _) ?_|refine uA trivial (ca _) ?_);(try apply zI);(first|refine uV trivial (cb _) ?_|refine uA trivial (cb _) ?_);(try apply zI);(first|refine uV trivial (hl _) ?_|refine uA trivial (hl _) ?_);(repeat'(first|refine uT trivial ?_|(refine uN hK ?_;clear hK)|refine uB trivial ?_|apply zI));refine⟨?_,((Grow.refl h).new _).set (Nat.le_refl _) _⟩;simp only[FrzTo];exact⟨_,rfl,hfz _ _⟩
end Go.Proofs.YtjeolbgpllbemaaGreat
namespace Go.Proofs.YtjeolbgpllbemaaGreat
open Go.AM
set_option maxHeartbeats 2000000
set_option maxRecDepth 20000
structure Hold(p:Prop):Prop where
 out:p
theorem a_hold{P:Program}{ow:Nat→Bool}{wf:FuncId→Bool}{n:Nat}{Q:Post}{s:Slots}{h:Heap}(id:Nat){ops:Array Oper}{d:Bool}{x y:Code}(hh:Hold (awp P ow wf n (.seq (.seq (.region id ops d) x) y) Q s h)):awp P ow wf n (.seq (.seq (.region id ops d) x) y) Q s h:=hh.out
theorem a_cut{P:Program}{ow:Nat→Bool}{wf:FuncId→Bool}{n:Nat}{Q:Post}{s:Slots}{h:Heap}{a b:Code}(I:Slots→Heap→Prop)(h1:awp P ow wf n a (Post.seq I Q) s h)(h2: ∀ s h,I s h→awp P ow wf n b Q s h):awp P ow wf n (.seq a b) Q s h:=by
 simp only[awp];refine awp_mono a (fun e s h hh=>?_) h1;cases e<;>simp only[Post.seq]at hh⊢
 ·exact h2 _ _ hh
 all_goals exact hh
theorem a_cutK{P:Program}{ow:Nat→Bool}{wf:FuncId→Bool}{n:Nat}{Q:Post}{K:Slots→Heap→Prop}{s:Slots}{h:Heap}{a:Code}(I:Slots→Heap→Prop)(h1:awp P ow wf n a (Post.seq I Q) s h)(h2: ∀ s h,I s h→K s h):awp P ow wf n a (Post.seq K Q) s h:=by
 refine awp_mono a (fun e s h hh=>?_) h1;cases e<;>simp only[Post.seq]at hh⊢
 ·exact h2 _ _ hh
 all_goals exact hh
theorem set_set(h:Heap)(id:Nat)(a b:AObj):(h.set id a).set id b=h.set id b:=by
 unfold Heap.set;congr 1;funext i;simp only;by_cases hi:i=id
 ·simp [hi]
 ·simp [hi]
theorem emp_len{α:Type}(l:List α):((l.length:Int)==0)=l.isEmpty:=by cases l<;>simp;omega
theorem cntO_c(n:Nat):cntO (n+1)= .arr 1 [[.sc (.int .i64 ((n:Int)+1))]]:=by simp only[cntO,natc]
theorem term_c{h:Heap}{s:ByteArray}(hs:s.size≤bigN):PCall Tryz.prog 133 [sPV s] h fun r h'=>r= .sc (.bool (termB s))∧h'=h:=by
 have hs':s.size≤9223372036854775807:=by unfold bigN at hs;omega
 cases c1:nameB s with
 |true=>
  have:termB s=true:=by simp[termB,c1]
  refine uG0 Tryz.func133 Tryz.ntmps133 Tryz.results133 Ty.hb_133 ?_;repeat'(first|refine a_seq fun K hK=>?_|refine uR trivial ?_|(refine uN hK ?_;clear hK)|apply zI)
  refine uU c1 (fname_c (s:=s) hs') ?_;repeat'(first|refine uT c1 ?_|(refine uN hK ?_;clear hK)|apply zI)
  rw[this]
 |false=>
  have:termB s=varB s:=by simp[termB,c1]
  refine uG0 Tryz.func133 Tryz.ntmps133 Tryz.results133 Ty.hb_133 ?_;repeat'(first|refine a_seq fun K hK=>?_|refine uR trivial ?_|(refine uN hK ?_;clear hK)|apply zI)
  refine uU c1 (fname_c (s:=s) hs') ?_;try apply zI
  refine uU c1 (fvariable_c (s:=s) hs') ?_;repeat'(first|refine uT c1 ?_|(refine uN hK ?_;clear hK)|apply zI)
  rw[this]
theorem fclosure1_c{h:Heap}{s:ByteArray}(hs:s.size≤bigN):PCall Tryz.prog 153 [sPV s] h fun r h'=>r= .sc (.bool (!termB s))∧h'=h:=by
 refine uG0 Tryz.func153 Tryz.ntmps153 Tryz.results153 Ty.hb_153 ?_;repeat'(first|refine a_seq fun K hK=>?_|refine uR trivial ?_|(refine uN hK ?_;clear hK)|apply zI)
 refine uU trivial (term_c (s:=s) hs) ?_;repeat'(first|refine uT trivial ?_|(refine uN hK ?_;clear hK)|apply zI)
theorem fclosure2_c{h:Heap}{s:ByteArray}(hs:s.size≤bigN):PCall Tryz.prog 132 [sPV s] h fun r h'=>r= .sc (.bool (!termB s))∧h'=h:=by
 refine uG0 Tryz.func132 Tryz.ntmps132 Tryz.results132 Ty.hb_132 ?_;repeat'(first|refine a_seq fun K hK=>?_|refine uR trivial ?_|(refine uN hK ?_;clear hK)|apply zI)
 refine uU trivial (term_c (s:=s) hs) ?_;repeat'(first|refine uT trivial ?_|(refine uN hK ?_;clear hK)|apply zI)
def idxT(l:List ByteArray):Int:=match l.findIdx? (fun s=>!termB s)with
 |some i=>i
 |none=> -1
theorem idxT_any(l:List ByteArray):decide (idxT l≥0)=!l.all termB:=by
 unfold idxT;cases h:l.findIdx? (fun s=>!termB s)with
 |none=>
  rw[List.findIdx?_eq_none_iff]at h;have:l.all termB=true:=by
   rw[List.all_eq_true];intro s hs;simpa using h s hs
  rw[this];try rfl
 |some i=>
  rw[List.findIdx?_eq_some_iff_getElem]at h;obtain⟨hi,h1,_⟩:=h;have:l.all termB=false:=by
   rw[List.all_eq_false];exact⟨l[i],List.getElem_mem hi,by simpa using h1⟩
  rw[this];simp
theorem indexFunc_c{h:Heap}{g:FuncId}{l:List ByteArray}(hl:l.length≤bigN)(hf: ∀ s∈l, ∀ h:Heap,PCall Tryz.prog g [sPV s] h fun r h'=>r= .sc (.bool (!termB s))∧h'=h):
  PCall Tryz.prog 137 [.imm 1 (strRows l),.sc (.func (.func g) #[] #[])] h fun r h'=>r= .sc (.int .i64 (idxT l))∧h'=h:=by
 unfold bigN at hl;have hlen:=strRows_len l;refine uG0 Tryz.func137 Tryz.ntmps137 Tryz.results137 Ty.hb_137 ?_;repeat'(first|refine a_seq fun K hK=>?_|refine a_block ?_|refine uR hlen ?_|(refine uN hK ?_;clear hK)|apply zI)
 refine a_loop (fun m S h'=>h'=h∧S 0= .imm 1 (strRows l)∧S 1= .sc (.func (.func g) #[] #[])∧S 7= .sc (.int .i64 l.length)∧ ∃ k:Nat,S 8= .sc (.int .i64 k)∧k≤l.length∧m=l.length-k∧ ∀ (i:Nat)(w:ByteArray),i<k→l[i]? =some w→termB w=true) l.length ?_ ?_
 ·simp only[Ty.w,simprocAttr];exact⟨0,rfl,by omega,rfl,by omega⟩
 ·rintro m S h' ⟨rfl,g0,g1,g7,k,g8,hk,rfl,hall⟩;by_cases hlt:k<l.length
  ·have hd:decide ((k:Int)<(l.length:Int))=true:=(by simp;omega);have w7:IntKind.i64.wrap ((k:Int)+1)=k+1:=(by rw[wrap64 (by omega) (by omega)]);obtain⟨w,hx⟩: ∃ w,l[k]? =some w:=⟨l[k],List.getElem?_eq_getElem hlt⟩;have hr:=strRows_get hx;have hc:=hf w (List.mem_of_getElem? hx);cases he:termB w with
   |false=>
    rw[he]at hc;replace zz:=uu g0 (uu g1 (uu g7 (uu g8 (uu hd hr))));(repeat'(first|refine a_seq fun K hK=>?_|refine uR zz ?_|refine uK ?_|refine uC1 zz ?_|(refine uN hK ?_;clear hK)|apply zI));refine owp_useV (by simp only[Ty.w,simprocAttr,g1]) (hc _) (by simp only[Ty.w,simprocAttr,g0,g1,g7,g8];try rfl) ?_;simp(maxSteps:=2000000) only[Ty.w,simprocAttr,Ty.all];replace zz:=uu g0 (uu g1 (uu g7 (uu g8 @Bool.not_false)));(repeat'(first|refine a_seq fun K hK=>?_|refine uR zz ?_|refine uT zz ?_|(refine uN hK ?_;clear hK)|apply zI));have:l.findIdx? (fun s=>!termB s)=some k:=by
     rw[List.findIdx?_eq_some_iff_getElem];refine⟨hlt,?_,fun j hj=>?_⟩
     ·rw [List.getElem?_eq_getElem hlt]at hx;simp only[Option.some.injEq]at hx;rw[hx,he];try rfl
     ·rw [hall j l[j] hj (List.getElem?_eq_getElem (by omega))];simp
    simp only[idxT,this]
   |true=>
    rw[he]at hc;replace zz:=uu g0 (uu g1 (uu g7 (uu g8 (uu hd hr))));(repeat'(first|refine a_seq fun K hK=>?_|refine uR zz ?_|refine uK ?_|refine uC1 zz ?_|(refine uN hK ?_;clear hK)|apply zI));refine owp_useV (by simp only[Ty.w,simprocAttr,g1]) (hc _) (by simp only[Ty.w,simprocAttr,g0,g1,g7,g8];try rfl) ?_;simp(maxSteps:=2000000) only[Ty.w,simprocAttr,Ty.all];replace zz:=uu g0 (uu g1 (uu g7 (uu g8 (uu w7 @Bool.not_true))));(repeat'(first|refine a_block ?_|refine uR zz ?_|refine uK ?_|(refine uN hK ?_;clear hK)|apply zI));refine⟨l.length-(k+1),by omega,k+1,by simp,by omega,rfl,fun i w2 hi hw=>?_⟩;by_cases hik:i=k
    ·subst hik;rw[hx]at hw;simp at hw;rw[← hw];exact he
    ·exact hall i w2 (by omega) hw
  ·have hd:decide ((k:Int)<(l.length:Int))=false:=(by simp;omega);replace zz:=uu g0 (uu g1 (uu g7 (uu g8 hd)));(repeat'(first|refine a_seq fun K hK=>?_|refine uR zz ?_|refine uT zz ?_|refine uX ?_|refine uC1 zz ?_|(refine uN hK ?_;clear hK)|(clear hK;refine uN hK ?_;clear hK)|apply zI));have:l.findIdx? (fun s=>!termB s)=none:=by
    rw[List.findIdx?_eq_none_iff];intro w hw;obtain⟨i,hi⟩:=List.getElem?_of_mem hw;have:i<l.length:=(List.getElem?_eq_some_iff.1 hi).1;rw[hall i w (by omega) hi];try rfl
   simp only[idxT,this]
theorem containsFunc_c{h:Heap}{g:FuncId}{l:List ByteArray}(hl:l.length≤bigN)(hf: ∀ s∈l, ∀ h:Heap,PCall Tryz.prog g [sPV s] h fun r h'=>r= .sc (.bool (!termB s))∧h'=h):
  PCall Tryz.prog 103 [.imm 1 (strRows l),.sc (.func (.func g) #[] #[])] h fun r h'=>r= .sc (.bool (!l.all termB))∧h'=h:=by
 refine uG0 Tryz.func103 Tryz.ntmps103 Tryz.results103 Ty.hb_103 ?_;repeat'(first|refine a_seq fun K hK=>?_|refine uR trivial ?_|(refine uN hK ?_;clear hK)|apply zI)
 refine uU trivial (indexFunc_c (l:=l) (g:=g) hl hf) ?_;repeat'(first|refine uT trivial ?_|(refine uN hK ?_;clear hK)|apply zI)
 rw[← idxT_any]
theorem take_c{h:Heap}{id d n:Nat}{b:Bool}(hd:d≤100)(hn:n≤4096)(ho:h.obj id=some (cntO n))(hb:decide (n+1≤4096∧d≤32)=b):PCall Tryz.prog 131 [.ptr id 0 0,.sc (.int .i64 d)] h fun r h'=>r= .sc (.bool b)∧h'=h.set id (cntO (n+1)):=by
 have ho':=ho;simp only[cntO]at ho';rw[cntO_c];have wn:IntKind.i64.wrap ((n:Int)+1)=(n:Int)+1:=by rw[wrap64 (by omega) (by omega)]
 cases b0:decide ((n:Int)+1≤4096)with
 |false=>
  have:b=false:=by rw[← hb];simp only[decide_eq_false_iff_not]at b0⊢;omega
  subst this;try clear zz
  clear hb;refine uG0 Tryz.func131 Tryz.ntmps131 Tryz.results131 Ty.hb_131 ?_;replace zz:=uu ho' (uu wn b0);repeat'(first|refine a_seq fun K hK=>?_|refine uR zz ?_|refine uT zz ?_|(refine uN hK ?_;clear hK)|apply zI)
 |true=>
  have:b=decide ((d:Int)≤32):=by rw[← hb];simp only[decide_eq_true_eq]at b0;exact decide_eq_decide.2 (by omega)
  subst this;try clear zz
  clear hb;refine uG0 Tryz.func131 Tryz.ntmps131 Tryz.results131 Ty.hb_131 ?_;replace zz:=uu ho' (uu wn b0);repeat'(first|refine a_seq fun K hK=>?_|refine uR zz ?_|refine uT zz ?_|(refine uN hK ?_;clear hK)|apply zI)
theorem formedM_le: ∀ (e:Ex)(d n:Nat),(formedM e d n).1=true→(formedM e d n).2≤4096:=by
 refine Ex.ind ?_;intro op name nn args kids ih d n;unfold formedM;split
 ·rename_i hc;split
  ·intro _;simp only;omega
  ·split
   ·intro _;simp only;omega
   ·split
    ·split
     ·split
      ·rename_i a b;have ha:=ih a (by simp) (d+1) (n+1);split
       ·rename_i c' he;exact ih b (by simp) (d+1) c'
       ·simp
      ·simp
     ·simp
    ·simp
 ·simp
theorem formed_c: ∀ e:Ex,e.ok→ ∀ (d n:Nat),d≤33→n≤4096→ ∀ (id:Nat)(h:Heap),h.obj id=some (cntO n)→
  PCall Tryz.prog 136 [.agg e.cells,.sc (.int .i64 d),.ptr id 0 0] h fun r h'=>r= .sc (.bool (formedM e d n).1)∧h'=h.set id (cntO (formedM e d n).2):=by
 refine Ex.ind ?_;intro op name v args kids ih hok d n hd hn id h ho;simp only[Ex.ok]at hok;obtain⟨_,hnm,_,⟨hal,hargs⟩,hkl,hks⟩:=hok;rw[Ex.oks_iff]at hks;have hnm':name.size≤9223372036854775807:=by unfold bigN at hnm;omega
 have hlA:=strRows_len args;have hlK:=Ex.rows_len kids;have e1:=emp_len args;have e2:=emp_len kids;generalize hF:formedM (.mk op name v args kids) d n=F;unfold formedM at hF;by_cases hc:n+1≤4096∧d≤32;rotate_left
 ·rw [if_neg hc]at hF;subst hF;have hT:=take_c (by omega) hn ho (decide_eq_false hc);simp only[Ex.cells];refine uG0 Tryz.func136 Tryz.ntmps136 Tryz.results136 Ty.hb_136 ?_;repeat'(first|refine a_seq fun K hK=>?_|refine uR trivial ?_|(refine uN hK ?_;clear hK)|apply zI)
  refine owp_useH (hT) (by(try simp only[Ty.w,simprocAttr,Bool.not_false]);try rfl) ?_;simp(maxSteps:=2000000) only[Ty.w,simprocAttr,Bool.not_false];repeat'(first|refine a_seq fun K hK=>?_|refine uR @Bool.not_false ?_|refine uT @Bool.not_false ?_|(refine uN hK ?_;clear hK)|apply zI)
 ·rw [if_pos hc]at hF;have hT:=take_c (by omega) hn ho (decide_eq_true hc);have wd:IntKind.i64.wrap ((d:Int)+1)=(d:Int)+1:=by rw[wrap64 (by omega) (by omega)]
  simp only[Ex.cells];have n1:bEq op opNum=(op.data.toList==(#[110,117,109,98,101,114]:Array UInt8).toList):=rfl;have n2:bEq op opFlu=(op.data.toList==(#[102,108,117,101,110,116]:Array UInt8).toList):=rfl;have n3:bEq op opPls=(op.data.toList==(#[43]:Array UInt8).toList):=rfl;have n4:bEq op opMin=(op.data.toList==(#[45]:Array UInt8).toList):=rfl;have n5:bEq op opTim=(op.data.toList==(#[42]:Array UInt8).toList):=rfl;have n6:emptyB name=(name.data.toList==(#[]:Array UInt8).toList):=rfl;have n7:decide (v=0)=(v==0):=by by_cases h0:v=0<;>simp[h0]
  have n8:inNum v=(decide (v≥ -1099511627776)&&decide (v≤1099511627776)):=rfl;rw[n1,n2,n3,n4,n5,n6,n7,n8, ← e1, ← e2]at hF;try clear zz
  clear n1 n2 n3 n4 n5 n6 n7 n8 e1 e2;cases k1:(op.data.toList==(#[110,117,109,98,101,114]:Array UInt8).toList)with
  |true=>
   rw[k1]at hF;simp only[if_true]at hF;cases q1:(name.data.toList==(#[]:Array UInt8).toList)with
   |false=>
    rw[q1]at hF;simp only[Bool.false_and,Bool.and_false]at hF;subst hF;refine uG0 Tryz.func136 Tryz.ntmps136 Tryz.results136 Ty.hb_136 ?_;(repeat'(first|refine a_seq fun K hK=>?_|refine uR (uu k1 q1) ?_|(refine uN hK ?_;clear hK)|apply zI));refine owp_useH (hT) (by(try simp only[Ty.w,simprocAttr,k1,q1,Bool.not_true]);try rfl) ?_;simp(maxSteps:=2000000) only[Ty.w,simprocAttr,k1,q1,Bool.not_true];replace zz:=uu k1 (uu q1 (uu hlA (uu hlK @Bool.not_true)));repeat'(first|refine a_seq fun K hK=>?_|refine uR zz ?_|refine uT zz ?_|refine uK ?_|refine uC1 zz ?_|(refine uN hK ?_;clear hK)|apply zI)
   |true=>
    rw[q1]at hF;cases q2:((args.length:Int)==0)with
    |false=>
     rw[q2]at hF;simp only[Bool.false_and,Bool.and_false]at hF;subst hF;refine uG0 Tryz.func136 Tryz.ntmps136 Tryz.results136 Ty.hb_136 ?_;(repeat'(first|refine a_seq fun K hK=>?_|refine uR (uu k1 (uu q1 q2)) ?_|(refine uN hK ?_;clear hK)|apply zI));refine owp_useH (hT) (by(try simp only[Ty.w,simprocAttr,k1,q1,q2,Bool.not_true]);try rfl) ?_;simp(maxSteps:=2000000) only[Ty.w,simprocAttr,k1,q1,q2,Bool.not_true];replace zz:=uu k1 (uu q1 (uu q2 (uu hlA (uu hlK @Bool.not_true))));repeat'(first|refine a_seq fun K hK=>?_|refine uR zz ?_|refine uT zz ?_|refine uK ?_|refine uC1 zz ?_|(refine uN hK ?_;clear hK)|apply zI)
    |true=>
     rw[q2]at hF;cases q3:((kids.length:Int)==0)with
     |false=>
      rw[q3]at hF;simp only[Bool.false_and,Bool.and_false]at hF;subst hF;refine uG0 Tryz.func136 Tryz.ntmps136 Tryz.results136 Ty.hb_136 ?_;replace zz:=uu k1 (uu q1 (uu q2 q3));(repeat'(first|refine a_seq fun K hK=>?_|refine uR zz ?_|(refine uN hK ?_;clear hK)|apply zI));refine owp_useH (hT) (by(try simp only[Ty.w,simprocAttr,k1,q1,q2,q3,Bool.not_true]);try rfl) ?_;simp(maxSteps:=2000000) only[Ty.w,simprocAttr,k1,q1,q2,q3,Bool.not_true];replace zz:=uu k1 (uu q1 (uu q2 (uu q3 (uu hlA (uu hlK @Bool.not_true)))));repeat'(first|refine a_seq fun K hK=>?_|refine uR zz ?_|refine uT zz ?_|refine uK ?_|refine uC1 zz ?_|(refine uN hK ?_;clear hK)|apply zI)
     |true=>
      rw[q3]at hF;cases q4:decide (v≥ -1099511627776)with
      |false=>
       rw[q4]at hF;simp only[Bool.false_and,Bool.and_false]at hF;subst hF;refine uG0 Tryz.func136 Tryz.ntmps136 Tryz.results136 Ty.hb_136 ?_;replace zz:=uu k1 (uu q1 (uu q2 (uu q3 q4)));(repeat'(first|refine a_seq fun K hK=>?_|refine uR zz ?_|(refine uN hK ?_;clear hK)|apply zI));refine owp_useH (hT) (by(try simp only[Ty.w,simprocAttr,k1,q1,q2,q3,q4,Bool.not_true]);try rfl) ?_;simp(maxSteps:=2000000) only[Ty.w,simprocAttr,k1,q1,q2,q3,q4,Bool.not_true];replace zz:=uu k1 (uu q1 (uu q2 (uu q3 (uu q4 (uu hlA (uu hlK @Bool.not_true))))));repeat'(first|refine a_seq fun K hK=>?_|refine uR zz ?_|refine uT zz ?_|refine uK ?_|refine uC1 zz ?_|(refine uN hK ?_;clear hK)|apply zI)
      |true=>
       rw[q4]at hF;simp only[Bool.true_and]at hF;subst hF;refine uG0 Tryz.func136 Tryz.ntmps136 Tryz.results136 Ty.hb_136 ?_;replace zz:=uu k1 (uu q1 (uu q2 (uu q3 q4)));(repeat'(first|refine a_seq fun K hK=>?_|refine uR zz ?_|(refine uN hK ?_;clear hK)|apply zI));refine owp_useH (hT) (by(try simp only[Ty.w,simprocAttr,k1,q1,q2,q3,q4,Bool.not_true]);try rfl) ?_;simp(maxSteps:=2000000) only[Ty.w,simprocAttr,k1,q1,q2,q3,q4,Bool.not_true];replace zz:=uu k1 (uu q1 (uu q2 (uu q3 (uu q4 (uu hlA (uu hlK @Bool.not_true))))));repeat'(first|refine a_seq fun K hK=>?_|refine uR zz ?_|refine uT zz ?_|refine uK ?_|refine uC1 zz ?_|(refine uN hK ?_;clear hK)|apply zI)
  |false=>
   rw[k1]at hF;simp only[Bool.false_eq_true,if_false]at hF;cases k2:(op.data.toList==(#[102,108,117,101,110,116]:Array UInt8).toList)with
   |true=>
    rw[k2]at hF;simp only[if_true]at hF;have hfc: ∀ s∈args, ∀ h:Heap,PCall Tryz.prog 153 [sPV s] h fun r h'=>r= .sc (.bool (!termB s))∧h'=h:=fun s hs h=>fclosure1_c (hargs s hs);cases q1:(v==0)with
    |false=>
     rw[q1]at hF;simp only[Bool.false_and,Bool.and_false]at hF;subst hF;refine uG0 Tryz.func136 Tryz.ntmps136 Tryz.results136 Ty.hb_136 ?_;(repeat'(first|refine a_seq fun K hK=>?_|refine uR (uu k1 (uu k2 q1)) ?_|(refine uN hK ?_;clear hK)|apply zI));refine owp_useH (hT) (by(try simp only[Ty.w,simprocAttr,k1,k2,q1,Bool.not_true]);try rfl) ?_;simp(maxSteps:=2000000) only[Ty.w,simprocAttr,k1,k2,q1,Bool.not_true];replace zz:=uu k1 (uu k2 (uu q1 (uu hlA (uu hlK @Bool.not_true))));repeat'(first|refine a_seq fun K hK=>?_|refine uR zz ?_|refine uT zz ?_|refine uK ?_|refine uC1 zz ?_|(refine uN hK ?_;clear hK)|apply zI)
    |true=>
     rw[q1]at hF;cases q2:((kids.length:Int)==0)with
     |false=>
      rw[q2]at hF;simp only[Bool.false_and,Bool.and_false]at hF;subst hF;refine uG0 Tryz.func136 Tryz.ntmps136 Tryz.results136 Ty.hb_136 ?_;replace zz:=uu k1 (uu k2 (uu q1 q2));(repeat'(first|refine a_seq fun K hK=>?_|refine uR zz ?_|(refine uN hK ?_;clear hK)|apply zI));refine owp_useH (hT) (by(try simp only[Ty.w,simprocAttr,k1,k2,q1,q2,Bool.not_true]);try rfl) ?_;simp(maxSteps:=2000000) only[Ty.w,simprocAttr,k1,k2,q1,q2,Bool.not_true];replace zz:=uu k1 (uu k2 (uu q1 (uu q2 (uu hlA (uu hlK @Bool.not_true)))));repeat'(first|refine a_seq fun K hK=>?_|refine uR zz ?_|refine uT zz ?_|refine uK ?_|refine uC1 zz ?_|(refine uN hK ?_;clear hK)|apply zI)
     |true=>
      rw[q2]at hF;cases q3:nameB name with
      |false=>
       rw[q3]at hF;simp only[Bool.false_and,Bool.and_false]at hF;subst hF;refine uG0 Tryz.func136 Tryz.ntmps136 Tryz.results136 Ty.hb_136 ?_;replace zz:=uu k1 (uu k2 (uu q1 q2));(repeat'(first|refine a_seq fun K hK=>?_|refine uR zz ?_|(refine uN hK ?_;clear hK)|apply zI));refine owp_useH (hT) (by(try simp only[Ty.w,simprocAttr,k1,k2,q1,q2,Bool.not_true]);try rfl) ?_;simp(maxSteps:=2000000) only[Ty.w,simprocAttr,k1,k2,q1,q2,Bool.not_true];replace zz:=uu k1 (uu k2 (uu q1 (uu q2 (uu hlA (uu hlK @Bool.not_true)))));(repeat'(first|refine a_seq fun K hK=>?_|refine uR zz ?_|refine uK ?_|refine uC1 zz ?_|(refine uN hK ?_;clear hK)|apply zI));replace zz:=uu k1 (uu k2 (uu q1 (uu q2 (uu q3 hlK))));refine uU zz (fname_c (s:=name) hnm') ?_;repeat'(first|refine uT zz ?_|(refine uN hK ?_;clear hK)|apply zI)
      |true=>
       rw[q3]at hF;simp only[Bool.true_and]at hF;subst hF;refine uG0 Tryz.func136 Tryz.ntmps136 Tryz.results136 Ty.hb_136 ?_;replace zz:=uu k1 (uu k2 (uu q1 q2));(repeat'(first|refine a_seq fun K hK=>?_|refine uR zz ?_|(refine uN hK ?_;clear hK)|apply zI));refine owp_useH (hT) (by(try simp only[Ty.w,simprocAttr,k1,k2,q1,q2,Bool.not_true]);try rfl) ?_;simp(maxSteps:=2000000) only[Ty.w,simprocAttr,k1,k2,q1,q2,Bool.not_true];replace zz:=uu k1 (uu k2 (uu q1 (uu q2 (uu hlA (uu hlK @Bool.not_true)))));(repeat'(first|refine a_seq fun K hK=>?_|refine uR zz ?_|refine uK ?_|refine uC1 zz ?_|(refine uN hK ?_;clear hK)|apply zI));replace zz:=uu k1 (uu k2 (uu q1 (uu q2 (uu q3 hlK))));refine uU zz (fname_c (s:=name) hnm') ?_;(try apply zI);refine uU zz (containsFunc_c hal hfc) ?_;repeat'(first|(refine a_ret ?_;simp(maxSteps:=2000000) only[Ty.w,simprocAttr,k1,k2,q1,q2,q3,hlK,Bool.not_not])|(refine hK _ _ ?_;clear hK;(try simp only[pst0,simprocAttr])))
   |false=>
    rw[k2]at hF;simp only[Bool.false_eq_true,if_false]at hF;generalize hk3:(op.data.toList==(#[43]:Array UInt8).toList)=b3 at hF;generalize hk4:(op.data.toList==(#[45]:Array UInt8).toList)=b4 at hF;generalize hk5:(op.data.toList==(#[42]:Array UInt8).toList)=b5 at hF;refine uG0 Tryz.func136 Tryz.ntmps136 Tryz.results136 Ty.hb_136 ?_;(repeat'(first|refine a_seq fun K hK=>?_|refine uR (uu k1 k2) ?_|(refine uN hK ?_;clear hK)|apply zI));refine owp_useH (hT) (by(try simp only[Ty.w,simprocAttr,k1,k2,Bool.not_true]);try rfl) ?_;simp(maxSteps:=2000000) only[Ty.w,simprocAttr,k1,k2,Bool.not_true];iterate 15 (first|refine a_seq fun K hK=>?_|refine uR (uu k1 (uu k2 @Bool.not_true)) ?_|refine uK ?_|refine uC1 (uu k1 (uu k2 @Bool.not_true)) ?_|(refine uN hK ?_;clear hK)|apply zI)
    refine a_cutK (fun S h'=>h'=h.set id (cntO (n+1))∧S 1= .sc (.int .i64 d)∧S 2= .ptr id 0 0∧S 3= .cptr (Ex.mk op name v args kids).cells∧S 62= .sc (.bool (b3||b4||b5))) ?_ ?_
    ·(try clear zz);clear hF;cases b3 with
     |true=>
      (repeat'(first|refine a_seq fun K hK=>?_|refine uR hk3 ?_|refine uK ?_|refine uC1 hk3 ?_|(refine uN hK ?_;clear hK)|apply zI));all_goals(simp(maxSteps:=2000000) only[Ty.w,simprocAttr,Ex.cells,Bool.true_or,Bool.false_or,and_self])
     |false=>
      cases b4 with
      |true=>
       replace zz:=uu hk3 hk4;(repeat'(first|refine a_seq fun K hK=>?_|refine uR zz ?_|refine uK ?_|refine uC1 zz ?_|(refine uN hK ?_;clear hK)|apply zI));all_goals(simp(maxSteps:=2000000) only[Ty.w,simprocAttr,Ex.cells,Bool.true_or,Bool.false_or,and_self])
      |false=>
       replace zz:=uu hk3 (uu hk4 hk5);(repeat'(first|refine a_seq fun K hK=>?_|refine uR zz ?_|refine uC1 zz ?_|(refine uN hK ?_;clear hK)|apply zI));all_goals(simp(maxSteps:=2000000) only[Ty.w,simprocAttr,Ex.cells,Bool.true_or,Bool.false_or,and_self])
    ·generalize (b3||b4||b5)=bb at hF⊢;rintro S h' ⟨rfl,g1,g2,g3,g62⟩;refine hK _ _ ?_;(try clear zz);clear hK;simp only[Ex.cells]at g3;(try clear zz);clear hT;cases bb with
     |false=>
      simp only[Bool.false_eq_true,if_false]at hF;subst hF;replace zz:=uu g1 (uu g2 (uu g3 g62));repeat'(first|refine a_seq fun K hK=>?_|refine uR zz ?_|refine uT zz ?_|refine uK ?_|refine uC1 zz ?_|(refine uN hK ?_;clear hK)|apply zI)
     |true=>
      simp only[if_true]at hF;cases q1:(v==0)with
      |false=>
       rw[q1]at hF;simp only[Bool.false_and,Bool.and_false,Bool.false_eq_true,if_false]at hF;subst hF;replace zz:=uu g1 (uu g2 (uu g3 (uu g62 (uu q1 hlA))));repeat'(first|refine a_seq fun K hK=>?_|refine uR zz ?_|refine uT zz ?_|refine uC1 zz ?_|(refine uN hK ?_;clear hK)|apply zI)
      |true=>
       rw[q1]at hF;cases q2:(name.data.toList==(#[]:Array UInt8).toList)with
       |false=>
        rw[q2]at hF;simp only[Bool.false_and,Bool.and_false,Bool.false_eq_true,if_false]at hF;subst hF;replace zz:=uu g1 (uu g2 (uu g3 (uu g62 (uu q1 (uu q2 hlA)))));repeat'(first|refine a_seq fun K hK=>?_|refine uR zz ?_|refine uT zz ?_|refine uC1 zz ?_|(refine uN hK ?_;clear hK)|apply zI)
       |true=>
        rw[q2]at hF;cases q3:((args.length:Int)==0)with
        |false=>
         rw[q3]at hF;simp only[Bool.false_and,Bool.and_false,Bool.false_eq_true,if_false]at hF;subst hF;replace zz:=uu g1 (uu g2 (uu g3 (uu g62 (uu q1 (uu q2 (uu q3 hlA))))));repeat'(first|refine a_seq fun K hK=>?_|refine uR zz ?_|refine uT zz ?_|refine uC1 zz ?_|(refine uN hK ?_;clear hK)|apply zI)
        |true=>
         rw[q3]at hF;simp only[Bool.true_and,if_true]at hF;cases q4:((kids.length:Int)==2)with
         |false=>
          have hF2:F=(false,n+1):=by
           rw[← hF];split
           ·simp at q4
           ·rfl
          (try clear zz);clear hF;subst hF2;replace zz:=uu g1 (uu g2 (uu g3 (uu g62 (uu q1 (uu q2 (uu q3 (uu q4 (uu hlA hlK))))))));repeat'(first|refine a_seq fun K hK=>?_|refine uR zz ?_|refine uT zz ?_|refine uC1 zz ?_|(refine uN hK ?_;clear hK)|apply zI)
         |true=>
          obtain⟨a,b,rfl⟩: ∃ a b,kids=[a,b]:=by
           match kids,q4 with
           |[],q=>simp at q
           |[a],q=>simp at q
           |[a,b],_=>exact⟨a,b,rfl⟩
           |_::_::_::_,q=>simp at q;omega
          have ca:=ih a (by simp) (hks a (by simp)) (d+1) (n+1) (by omega) (by omega) id (h.set id (cntO (n+1))) (by simp[Heap.set]);have cb0:=ih b (by simp) (hks b (by simp)) (d+1);have hle:=formedM_le a (d+1) (n+1);have hF3:F=(match formedM a (d+1) (n+1)with|(true,c')=>formedM b (d+1) c'|(false,c')=>(false,c')):=hF.symm;(try clear zz);clear hF;have r0:=Ex.rows_get (l:=[a,b]) (i:=0) rfl;have r1:=Ex.rows_get (l:=[a,b]) (i:=1) rfl;have q5:(((Ex.rows [a,b]).length:Int)==2)=true:=(by rw[Ex.rows_len];exact q4);generalize Ex.rows [a,b]=RR at r0 r1 q5 g3;(try clear zz);clear q4;generalize formedM a (d+1) (n+1)=W at ca hle hF3;obtain⟨b1,c1⟩:=W;simp only[set_set,natc]at ca hle hF3;(try clear zz);clear ih hks hlK;cases b1 with
          |false=>
           simp only at hF3;subst hF3;(try clear zz);clear cb0;obtain⟨aop,aname,an,aargs,akids⟩:=a;obtain⟨bop,bname,bn,bargs,bkids⟩:=b;simp only[Ex.cells]at ca r0 r1;replace zz:=uu g1 (uu g2 (uu g3 (uu g62 (uu q1 (uu q2 (uu q3 (uu q5 (uu r0 (uu r1 (uu hlA wd))))))))));(repeat'(first|refine a_seq fun K hK=>?_|refine uR zz ?_|refine uC1 zz ?_|apply zI));refine owp_useH (ca) (by(try simp only[Ty.w,simprocAttr,g1,g2,g3,g62,q1,q2,q3,q5,r0,r1,hlA,wd]);try rfl) ?_;simp(maxSteps:=2000000) only[Ty.w,simprocAttr,g1,g2,g3,g62,q1,q2,q3,q5,r0,r1,hlA,wd];replace zz:=uu g1 (uu g2 (uu g3 (uu g62 (uu q1 (uu q2 (uu q3 (uu q5 (uu r0 (uu r1 (uu hlA wd))))))))));repeat'(first|refine uT zz ?_|(refine uN hK ?_;clear hK)|apply zI)
          |true=>
           have cb:=cb0 c1 (by omega) (hle rfl) id (h.set id (cntO c1)) (by simp[Heap.set]);simp only at hF3;rw[← hF3]at cb;obtain⟨b2,c2⟩:=F;simp only[set_set,natc]at cb⊢;(try clear zz);clear cb0 hF3;obtain⟨aop,aname,an,aargs,akids⟩:=a;obtain⟨bop,bname,bn,bargs,bkids⟩:=b;simp only[Ex.cells]at ca cb r0 r1;replace zz:=uu g1 (uu g2 (uu g3 (uu g62 (uu q1 (uu q2 (uu q3 (uu q5 (uu r0 (uu r1 (uu hlA wd))))))))));(repeat'(first|refine a_seq fun K hK=>?_|refine uR zz ?_|refine uC1 zz ?_|apply zI));refine owp_useH (ca) (by(try simp only[Ty.w,simprocAttr,g1,g2,g3,g62,q1,q2,q3,q5,r0,r1,hlA,wd]);try rfl) ?_;simp(maxSteps:=2000000) only[Ty.w,simprocAttr,g1,g2,g3,g62,q1,q2,q3,q5,r0,r1,hlA,wd];(try apply zI);refine owp_useH (cb) (by(try simp only[Ty.w,simprocAttr,g1,g2,g3,g62,q1,q2,q3,q5,r0,r1,hlA,wd]);try rfl) ?_;simp(maxSteps:=2000000) only[Ty.w,simprocAttr,g1,g2,g3,g62,q1,q2,q3,q5,r0,r1,hlA,wd];replace zz:=uu g1 (uu g2 (uu g3 (uu g62 (uu q1 (uu q2 (uu q3 (uu q5 (uu r0 (uu r1 (uu hlA wd))))))))));repeat'(first|refine uT zz ?_|(refine uN hK ?_;clear hK)|apply zI)
theorem formedM_shaped: ∀ (e:Ex)(d n:Nat),(formedM e d n).1=true→shapedE e=true:=by
 refine Ex.ind ?_;intro op name v args kids ih d n;unfold formedM shapedE;split
 ·split
  ·exact id
  ·split
   ·exact id
   ·split
    ·split
     ·rename_i h0;rw[h0];split
      ·rename_i a b;have ha:=ih a (by simp) (d+1) (n+1);split
       ·rename_i c' he;rw[he]at ha;intro hb;have:=ih b (by simp) (d+1) c' hb;simp[ha rfl,this]
       ·simp
      ·simp
     ·simp
    ·simp
 ·simp
end Go.Proofs.YtjeolbgpllbemaaGreat
namespace Go.Proofs.YtjeolbgpllbemaaGreat
open Go.AM
set_option maxHeartbeats 2000000
set_option maxRecDepth 20000
theorem wordM_ok{s:ByteArray}(h:s.size≤bigN):(wordM s).ok:=by
 simp only[wordM,Sx.ok,Sx.oks,List.length_nil];exact⟨by omega,by omega,h,Nat.zero_le _,trivial⟩
theorem listM_ok{l:List Sx}(hl:l.length≤bigN)(h:Sx.oks l):(listM l).ok:=by
 simp only[listM,Sx.ok];refine⟨by omega,by omega,by simp[bigN,ByteArray.size],hl,h⟩
theorem wordsM_ok{first:ByteArray}{l:List ByteArray}(h0:first.size≤bigN)(hl:l.length≤1048576)(h: ∀ s∈l,s.size≤bigN):(wordsM first l).ok:=by
 refine listM_ok (by simp[bigN];omega) (Sx.oks_iff.2 ?_);intro k hk;simp only[List.map_cons,List.mem_cons,List.mem_map]at hk;rcases hk with rfl|⟨s,hs,rfl⟩
 ·exact wordM_ok h0
 ·exact wordM_ok (h s hs)
theorem exW_ok: ∀ e:Ex,e.ok→e.small→(exW e).ok:=by
 refine Ex.ind ?_;intro op name n args kids ih hok hsm;simp only[Ex.ok]at hok;simp only[Ex.small]at hsm;obtain⟨hop,hname,hn,hargs,hkl,hks⟩:=hok;rw[Ex.oks_iff]at hks;have hsk:=Ex.smalls_iff.1 hsm.2;unfold exW;split
 ·simp only[Sx.ok,Sx.oks,List.length_nil];refine⟨by omega,hn,by simp[bigN,ByteArray.size],by simp,trivial⟩
 ·split
  ·exact wordsM_ok hname hsm.1 hargs.2
  ·split
   ·rename_i a b;refine listM_ok (by simp[bigN]) ?_;simp only[Sx.oks];exact⟨wordM_ok hop,ih a (by simp) (hks a (by simp)) (hsk a (by simp)),ih b (by simp) (hks b (by simp)) (hsk b (by simp)),trivial⟩
   ·refine listM_ok (by simp[bigN]) ?_;simp only[Sx.oks];exact⟨wordM_ok hop,trivial⟩
def errV(n:Int):PV:= .sc (.iface 45 (.int .i64 n))
def zeroSx:Sx:= .mk 0 0 0 0 ⟨#[]⟩ []
end Go.Proofs.YtjeolbgpllbemaaGreat
namespace Go.Proofs.YtjeolbgpllbemaaGreat
open Go.AM
set_option maxHeartbeats 2000000
set_option maxRecDepth 20000
def kindOf:Sx→Int
 | .mk k _ _ _ _ _=>k
def textOf:Sx→ByteArray
 | .mk _ _ _ _ t _=>t
def headM:Sx→Option (ByteArray × List Sx)
 | .mk kind _ _ _ _ kids=>if kind=3 then(match kids with
  |x::rest=>bif kindOf x==1 then some (textOf x,rest)else none
  |[]=>none)else none
def headV:Option (ByteArray × List Sx)→PV
 |some (t,l)=> .tup [sPV t,.imm 6 (Sx.rows l),.sc (.bool true)]
 |none=> .tup [sPV ⟨#[]⟩,.sc (.slice none 0 0),.sc (.bool false)]
theorem head_c{x:Sx}(hok:x.ok)(h:Heap):PCall Tryz.prog 156 [.agg x.cells] h fun r h'=>r=headV (headM x)∧h'=h:=by
 obtain⟨kind,value,line,col,text,kids⟩:=x;simp only[Sx.ok]at hok;obtain⟨_,_,_,hk,_⟩:=hok;generalize hF:headM (.mk kind value line col text kids)=F;simp only[headM]at hF;simp only[Sx.cells];have hlen:=Sx.rows_len kids;cases k3:(kind !=3)with
 |true=>
  rw[if_neg (by simpa using k3)]at hF;subst hF;refine uG0 Tryz.func156 Tryz.ntmps156 Tryz.results156 Ty.hb_156 ?_;repeat'(first|refine a_seq fun K hK=>?_|refine uR k3 ?_|refine uT k3 ?_|(refine uN hK ?_;clear hK)|apply zI)
  all_goals rfl
 |false=>
  rw[if_pos (by simpa using k3)]at hF;cases kids with
  |nil=>
   simp only at hF;subst hF;have q:(((Sx.rows []).length:Int)==0)=true:=rfl;generalize Sx.rows []=R at q hlen;refine uG0 Tryz.func156 Tryz.ntmps156 Tryz.results156 Ty.hb_156 ?_;replace zz:=uu k3 q;(repeat'(first|refine a_seq fun K hK=>?_|refine uR zz ?_|refine uT zz ?_|(refine uN hK ?_;clear hK)|apply zI));all_goals rfl
  |cons y rest=>
   simp only at hF;have q:(((Sx.rows (y::rest)).length:Int)==0)=false:=(by rw[hlen];simp;omega);have r0:=Sx.rows_get (l:=y::rest) (i:=0) rfl;have q1:(1:Int)≤((Sx.rows (y::rest)).length:Int):=(by rw[hlen];simp;omega);have ht:List.take (((Sx.rows (y::rest)).length:Int)-1).toNat (List.drop 1 (Sx.rows (y::rest)))=Sx.rows rest:=by
    simp only[Sx.rows,List.drop_succ_cons,List.drop_zero,List.length_cons];rw[List.take_of_length_le (by omega)]
   generalize Sx.rows (y::rest)=R at q r0 q1 ht hlen⊢;obtain⟨ki,va,li,co,te,ks⟩:=y;simp only[Sx.cells,kindOf,textOf]at r0 hF;cases k1:(ki !=1)with
   |true=>
    rw[show(ki==1)=false by simpa using k1]at hF;simp only[cond_false]at hF;subst hF;refine uG0 Tryz.func156 Tryz.ntmps156 Tryz.results156 Ty.hb_156 ?_;replace zz:=uu k3 (uu q (uu r0 k1));(repeat'(first|refine a_seq fun K hK=>?_|refine uR zz ?_|refine uT zz ?_|(refine uN hK ?_;clear hK)|apply zI));all_goals rfl
   |false=>
    rw[show(ki==1)=true by simpa using k1]at hF;simp only[cond_true]at hF;subst hF;refine uG0 Tryz.func156 Tryz.ntmps156 Tryz.results156 Ty.hb_156 ?_;replace zz:=uu k3 (uu q (uu r0 (uu k1 (uu q1 (uu ht (uu @Int.le_refl @Int.toNat_one))))));(repeat'(first|refine a_seq fun K hK=>?_|refine uR zz ?_|refine uD zz ?_|refine uT zz ?_|refine uK ?_|refine uC1 zz ?_|(refine uN hK ?_;clear hK)|apply zI));all_goals rfl
def termsM:List Sx→List ByteArray × Int
 |[]=>([],0)
 |x::l=>bif kindOf x==1 then(bif termB (textOf x)then(match termsM l with
  |(t,c)=>bif c==0 then(textOf x::t,0)else([],c))else([],8))else([],2)
def errP(c:Int):PV:=bif c==0 then .sc .nilIface else errV c
theorem termsM_code: ∀ l:List Sx,(termsM l).2=0∨((termsM l).1=[]∧((termsM l).2=2∨(termsM l).2=8))
 |[]=> .inl rfl
 |x::l=>by
  have:=termsM_code l;simp only[termsM];cases kindOf x==1 with
  |false=>simp
  |true=>
   cases termB (textOf x)with
   |false=>simp
   |true=>
    simp only[cond_true];cases hq:(termsM l).2==0 with
    |false=>
     rcases this with h|h
     ·rw [h]at hq;simp at hq
     ·simp only[cond_false,true_and];exact .inr h.2
    |true=>simp
theorem tl_frzS{h:Heap}{id0:Nat}{p:PV}{l:List ByteArray}(t:Tl h id0 1 p (strRows l)):FrzTo id0 h (.imm 1 (strRows l)) p:=t.frz fun r hr p hp=>by
 simp only[strRows,List.mem_map]at hr;obtain⟨s,_,rfl⟩:=hr;simp only[List.mem_singleton]at hp;exact⟨_,hp⟩
theorem terms_c{l:List Sx}(hl:l.length≤1048576)(hok: ∀ x∈l,x.ok)(h:Heap):PCall Tryz.prog 160 [.imm 6 (Sx.rows l)] h fun r h'=>r= .tup [.imm 1 (strRows (termsM l).1),errP (termsM l).2]∧h'=h:=by
 refine PCall.frz Ty.hb_160 ?_;have hll:=Sx.rows_len l;refine uG0 Tryz.func160 Tryz.ntmps160 Tryz.results160 Ty.hb_160 ?_;repeat'(first|refine a_seq fun K hK=>?_|refine a_block ?_|refine uR hll ?_|(refine uN hK ?_;clear hK)|apply zI)
 refine a_loop (fun m S h'=>S 7= .imm 6 (Sx.rows l)∧S 8= .sc (.int .i64 l.length)∧ ∃ (k:Nat)(o:PV)(pre:List ByteArray),S 9= .sc (.int .i64 k)∧S 4=o∧k≤l.length∧m=l.length-k∧Grow h h'∧pre.length=k∧Tl h' h.next 1 o (strRows pre)∧
  termsM l=(match termsM (l.drop k)with|(t,c)=>bif c==0 then(pre++t,0)else([],c))) l.length ?_ ?_
 ·simp only[Ty.w,simprocAttr];refine⟨0,_,[],rfl,rfl,by omega,rfl,Grow.refl _,rfl,Tl.nil,?_⟩;have:=termsM_code l;rw[List.drop_zero];cases hq:(termsM l).2==0
  ·rcases this with h|h
   ·rw [h]at hq;simp at hq
   ·simp only[hq,cond_false];rw[← h.1]
  ·have h0:(termsM l).2=0:=(by simpa using hq);simp only[hq,cond_true,List.nil_append];rw[← h0]
 ·rintro m S h' ⟨g7,g8,k,o,pre,g9,g4,hk,rfl,hg,hpl,tl,hinv⟩;by_cases hlt:k<l.length
  ·have hd:decide ((k:Int)<(l.length:Int))=true:=(by simp;omega);have w7:IntKind.i64.wrap ((k:Int)+1)=k+1:=(by rw[wrap64 (by omega) (by omega)]);obtain⟨x,hx⟩: ∃ x,l[k]? =some x:=⟨_,List.getElem?_eq_getElem hlt⟩;have hr:=Sx.rows_get hx;have hxk:=hok x (List.mem_of_getElem? hx);rw[drop_of_get hx]at hinv;simp only[termsM]at hinv;obtain⟨ki,va,li,co,te,ks⟩:=x;simp only[Sx.ok]at hxk;obtain⟨_,_,hte,_⟩:=hxk;simp only[Sx.cells]at hr;simp only[kindOf,textOf]at hinv;have nz: ∀ id,id<h'.next→(id=h'.next)=False:=fun id hi=>by simp;omega
   have tl2:=tl.up (h':=(h'.new (.arr 6 [[.sc (.int .i64 0),.sc (.int .i64 0),.sc (.int .i64 0),.sc (.int .i64 0),.sc (.string ⟨#[]⟩),.sc (.slice none 0 0)]])).set h'.next (.arr 6 [[.sc (.int .i64 ki),.sc (.int .i64 va),.sc (.int .i64 li),.sc (.int .i64 co),sPV te,.imm 6 (Sx.rows ks)]])) (by simp[Heap.new,Heap.set]) (fun j _ hj=>by simp only[Heap.new,Heap.set];rw[if_neg (by omega),if_neg (by omega)]);have hg2:Grow h ((h'.new (.arr 6 [[.sc (.int .i64 0),.sc (.int .i64 0),.sc (.int .i64 0),.sc (.int .i64 0),.sc (.string ⟨#[]⟩),.sc (.slice none 0 0)]])).set h'.next (.arr 6 [[.sc (.int .i64 ki),.sc (.int .i64 va),.sc (.int .i64 li),.sc (.int .i64 co),sPV te,.imm 6 (Sx.rows ks)]])):=(hg.new _).set hg.le _;cases q1:(ki !=1)with
   |true=>
    rw[show(ki==1)=false by simpa using q1]at hinv;simp only[cond_false]at hinv;replace zz:=uu g7 (uu g8 (uu g9 (uu g4 (uu hd (uu hr q1)))));(repeat'(first|refine a_seq fun K hK=>?_|refine uR zz ?_|refine uT zz ?_|refine uK ?_|refine uC1 zz ?_|(refine uN hK ?_;clear hK)|apply zI));have e:termsM l=([],2):=hinv;have e2:errP 2=errV 2:=rfl;rw[e,e2];refine⟨?_,hg2⟩;simp only[errV,FrzTo,FrzL];exact⟨_,rfl,.inr (.inl ⟨rfl,.inr rfl⟩),rfl,trivial⟩
   |false=>
    rw[show(ki==1)=true by simpa using q1]at hinv;simp only[cond_true]at hinv;have hc:=fun h:Heap=>term_c (h:=h) hte;generalize termB te=b at hc hinv;cases b with
    |false=>
     simp only[cond_false]at hinv;replace zz:=uu g7 (uu g8 (uu g9 (uu g4 (uu hd (uu hr q1)))));(repeat'(first|refine a_seq fun K hK=>?_|refine uR zz ?_|refine uK ?_|refine uC1 zz ?_|(refine uN hK ?_;clear hK)|apply zI));replace zz:=uu g7 (uu g8 (uu g9 (uu g4 (uu hd (uu hr (uu q1 @Bool.not_false))))));refine uU zz (hc _) ?_;replace zz:=uu g7 (uu g8 (uu g9 (uu g4 @Bool.not_false)));(repeat'(first|refine a_seq fun K hK=>?_|refine uR zz ?_|refine uT zz ?_|(refine uN hK ?_;clear hK)|apply zI));have e:termsM l=([],8):=hinv;have e2:errP 8=errV 8:=rfl;rw[e,e2];refine⟨?_,hg2⟩;simp only[errV,FrzTo,FrzL];exact⟨_,rfl,.inr (.inl ⟨rfl,.inr rfl⟩),rfl,trivial⟩
    |true=>
     simp only[cond_true]at hinv;obtain⟨H,t1,t2,t3,t4,t5⟩:=tl2.tail;have hpr:(strRows pre).length=k:=(by rw[strRows_len];exact hpl);have hb:(k+1)*16≤140737488355328:=(by omega);replace zz:=uu g7 (uu g8 (uu g9 (uu g4 (uu hd (uu hr q1)))));(repeat'(first|refine a_seq fun K hK=>?_|refine uR zz ?_|refine uK ?_|refine uC1 zz ?_|(refine uN hK ?_;clear hK)|apply zI));replace zz:=uu g7 (uu g8 (uu g9 (uu g4 (uu hd (uu hr (uu q1 @Bool.not_true))))));refine uU zz (hc _) ?_;replace zz:=uu g7 (uu g8 (uu g9 (uu g4 (uu w7 (uu @Bool.not_true (uu t1 (uu t2 (uu hpr hb))))))));(repeat'(first|refine uR zz ?_|refine uQ zz fun K hK=>?_|refine uK ?_|refine uC1 zz ?_|(refine uN hK ?_;clear hK)|(rw[if_pos];rotate_left 1;omega;simp(maxSteps:=2000000) only[Ty.w,simprocAttr,g7,g8,g9,g4,w7,Bool.not_true,t1,t2,hpr,hb])|apply zI));have t3':H.next=h'.next+1:=by rw[t3];simp[Heap.new,Heap.set]
     have hkp:=t5 h ⟨hg2.le,hg2.old⟩ (Nat.le_refl _);have hgH:Grow h H:=⟨hkp.1,hkp.2⟩;have hap:strRows pre++[[PV.sc (.string te)]]=strRows (pre++[te]):=(by simp[strRows]);rw[hap];refine⟨l.length-(k+1),by omega,k+1,.own H.next 0 (k+1),pre++[te],by simp,by rw[t3'],by omega,rfl,hgH.new _,by simp[hpl],Tl.grow hkp.1 (by rw[strRows_len];simp[hpl]),?_⟩;rw[hinv];generalize termsM (List.drop (k+1) l)=W;obtain⟨t,c⟩:=W;cases hq:c==0 with
     |false=>simp only[hq,cond_false]
     |true=>simp only[hq,cond_true,beq_self_eq_true,List.append_assoc,List.cons_append,List.nil_append]
  ·have hd:decide ((k:Int)<(l.length:Int))=false:=(by simp;omega);rw[List.drop_eq_nil_of_le (by omega)]at hinv;simp only[termsM,beq_self_eq_true,cond_true,List.append_nil]at hinv;replace zz:=uu g7 (uu g8 (uu g9 (uu g4 hd)));(repeat'(first|refine a_seq fun K hK=>?_|refine uR zz ?_|refine uT zz ?_|refine uX ?_|refine uC1 zz ?_|(refine uN hK ?_;clear hK)|(clear hK;refine uN hK ?_;clear hK)|apply zI));have e:termsM l=(pre,0):=hinv;have e2:errP 0= .sc .nilIface:=rfl;rw[e,e2];refine⟨?_,hg⟩;have h1:=tl_frzS tl;unfold FrzTo;refine⟨_,rfl,?_⟩;unfold FrzL;refine⟨h1,?_⟩;unfold FrzL;exact⟨by simp only[FrzTo],by simp only[FrzL]⟩
end Go.Proofs.YtjeolbgpllbemaaGreat
namespace Go.Proofs.YtjeolbgpllbemaaGreat
open Go.AM
set_option maxHeartbeats 2000000
set_option maxRecDepth 20000
def opObj:ByteArray:=⟨#[111,98,106,101,99,116]⟩
def typedB(s:ByteArray):Bool:=nameB s||bEq s opObj
theorem typed_c{h:Heap}{s:ByteArray}(hs:s.size≤bigN):PCall Tryz.prog 135 [sPV s] h fun r h'=>r= .sc (.bool (typedB s))∧h'=h:=by
 have hs':s.size≤9223372036854775807:=by unfold bigN at hs;omega
 have hc:=fun h:Heap=>fname_c (h:=h) hs';have hT:typedB s=(nameB s||(s.data.toList==(#[111,98,106,101,99,116]:Array UInt8).toList)):=rfl;rw[hT];generalize nameB s=b at hc⊢;cases b with
 |true=>
  refine uG0 Tryz.func135 Tryz.ntmps135 Tryz.results135 Ty.hb_135 ?_;repeat'(first|refine a_seq fun K hK=>?_|refine uR trivial ?_|(refine uN hK ?_;clear hK)|apply zI)
  refine uU trivial (hc _) ?_;repeat'(first|refine uT trivial ?_|(refine uN hK ?_;clear hK)|apply zI)
  all_goals rfl
 |false=>
  refine uG0 Tryz.func135 Tryz.ntmps135 Tryz.results135 Ty.hb_135 ?_;repeat'(first|refine a_seq fun K hK=>?_|refine uR trivial ?_|(refine uN hK ?_;clear hK)|apply zI)
  refine uU trivial (hc _) ?_;repeat'(first|refine uT trivial ?_|(refine uN hK ?_;clear hK)|apply zI)
  all_goals rfl
def paramsW:List Pm→List Sx
 |[]=>[]
 |p::l=>wordM p.name::wordM ⟨#[45]⟩::wordM p.type::paramsW l
theorem paramsW_append: ∀ l m:List Pm,paramsW (l++m)=paramsW l++paramsW m
 |[],m=>rfl
 |p::l,m=>by simp only[List.cons_append,paramsW,paramsW_append l m]
theorem paramsW_len: ∀ l:List Pm,(paramsW l).length=3*l.length
 |[]=>rfl
 |p::l=>by simp only[paramsW,List.length_cons,paramsW_len l];omega
theorem tl_frzX{h:Heap}{id0:Nat}{p:PV}{l:List Sx}(t:Tl h id0 6 p (Sx.rows l)):FrzTo id0 h (.imm 6 (Sx.rows l)) p:=by
 simp only[FrzTo];rcases t with⟨h1,h2⟩|⟨id,h1,h2,rfl,ho⟩
 ·exact .inr (.inl ⟨h1,h2.symm⟩)
 ·refine .inr (.inr ⟨id,0,_,_,rfl,h1,ho,by omega,?_⟩);rw[List.drop_zero,List.take_of_length_le (by omega)];exact sxs_frz _ _ _
theorem writeParams_c{l:List Pm}(hl:l.length≤1048576)(h:Heap):PCall Tryz.prog 28 [.imm 2 (pmRows l)] h fun r h'=>r= .imm 6 (Sx.rows (paramsW l))∧h'=h:=by
 refine PCall.frz Ty.hb_28 ?_;have hll:=pmRows_len l;have hw: ∀ (s:ByteArray)(h:Heap),PCall Tryz.prog 63 [sPV s] h fun r h'=>r= .agg (wordM s).cells∧h'=h:=fun s h=>word_c;simp only[wordM,Sx.cells,Sx.rows]at hw;refine uG0 Tryz.func28 Tryz.ntmps28 Tryz.results28 Ty.hb_28 ?_;repeat'(first|refine a_seq fun K hK=>?_|refine a_block ?_|refine uR hll ?_|(refine uN hK ?_;clear hK)|apply zI)
 refine a_loop (fun m S h'=>S 6= .imm 2 (pmRows l)∧S 7= .sc (.int .i64 l.length)∧ ∃ (k:Nat)(o:PV),S 8= .sc (.int .i64 k)∧S 3=o∧k≤l.length∧m=l.length-k∧Grow h h'∧Tl h' h.next 6 o (Sx.rows (paramsW (l.take k)))) l.length ?_ ?_
 ·simp only[Ty.w,simprocAttr];exact⟨0,_,rfl,rfl,by omega,rfl,Grow.refl _,Tl.nil⟩
 ·rintro m S h' ⟨g6,g7,k,o,g8,g3,hk,rfl,hg,tl⟩;by_cases hlt:k<l.length
  ·have hd:decide ((k:Int)<(l.length:Int))=true:=(by simp;omega);have w7:IntKind.i64.wrap ((k:Int)+1)=k+1:=(by rw[wrap64 (by omega) (by omega)]);obtain⟨p,hx⟩: ∃ p,l[k]? =some p:=⟨_,List.getElem?_eq_getElem hlt⟩;have hr:=pmRows_get hx;have tl2:=tl.up (h':=(h'.new (.arr 2 [[.sc (.string ⟨#[]⟩),.sc (.string ⟨#[]⟩)]])).set h'.next (.arr 2 [[sPV p.name,sPV p.type]])) (by simp[Heap.new,Heap.set]) (fun j _ hj=>by simp only[Heap.new,Heap.set];rw[if_neg (by omega),if_neg (by omega)]);have hg2:Grow h ((h'.new (.arr 2 [[.sc (.string ⟨#[]⟩),.sc (.string ⟨#[]⟩)]])).set h'.next (.arr 2 [[sPV p.name,sPV p.type]])):=(hg.new _).set hg.le _;obtain⟨H,t1,t2,t3,t4,t5⟩:=tl2.tail;have hpr:(Sx.rows (paramsW (l.take k))).length=3*k:=(by rw[Sx.rows_len,paramsW_len,List.length_take];omega);have hb:(3*k+3)*72≤140737488355328:=(by omega);have hR:Sx.rows (paramsW (l.take (k+1)))=Sx.rows (paramsW (l.take k))++[[.sc (.int .i64 1),.sc (.int .i64 0),.sc (.int .i64 0),.sc (.int .i64 0),sPV p.name,.imm 6 []],[.sc (.int .i64 1),.sc (.int .i64 0),.sc (.int .i64 0),.sc (.int .i64 0),sPV ⟨#[45]⟩,.imm 6 []],[.sc (.int .i64 1),.sc (.int .i64 0),.sc (.int .i64 0),.sc (.int .i64 0),sPV p.type,.imm 6 []]]:=by
    rw[List.take_add_one,hx,paramsW_append];simp only[Sx.rows_map,List.map_append,Option.toList_some,paramsW,List.map_cons,List.map_nil,wordM,Sx.cells]
   generalize Sx.rows (paramsW (l.take k))=R at tl tl2 t1 t2 hpr hR;replace zz:=uu g6 (uu g7 (uu g8 (uu g3 (uu hd (uu hr hll)))));(repeat'(first|refine a_seq fun K hK=>?_|refine uR zz ?_|refine uE zz fun K hK=>?_|refine uK ?_|refine uC1 zz ?_|(refine uN hK ?_;clear hK)|apply zI));replace zz:=uu g6 (uu g7 (uu g8 g3));(first|refine uV zz (hw p.name _) ?_|refine uA zz (hw p.name _) ?_);(try apply zI);(first|refine uV zz (hw ⟨#[45]⟩ _) ?_|refine uA zz (hw ⟨#[45]⟩ _) ?_);(try apply zI);(first|refine uV zz (hw p.type _) ?_|refine uA zz (hw p.type _) ?_);replace zz:=uu g6 (uu g7 (uu g8 (uu g3 (uu w7 (uu t1 (uu t2 (uu hpr hb)))))));(repeat'(first|refine uR zz ?_|(refine uN hK ?_;clear hK)|refine uB zz ?_|(rw[if_pos];rotate_left 1;omega;simp(maxSteps:=2000000) only[Ty.w,simprocAttr,g6,g7,g8,g3,w7,t1,t2,hpr,hb])|apply zI));have t3':H.next=h'.next+1:=by rw[t3];simp[Heap.new,Heap.set]
   have hkp:=t5 h ⟨hg2.le,hg2.old⟩ (Nat.le_refl _);have hgH:Grow h H:=⟨hkp.1,hkp.2⟩;rw[← hR];have hRl:3*k+3=(Sx.rows (paramsW (l.take (k+1)))).length:=(by rw[Sx.rows_len,paramsW_len,List.length_take];omega);exact⟨l.length-(k+1),by omega,k+1,.own H.next 0 (3*k+3),by simp,by rw[t3'],by omega,rfl,hgH.new _,Tl.grow hkp.1 hRl⟩
  ·have hd:decide ((k:Int)<(l.length:Int))=false:=(by simp;omega);have hke:k=l.length:=(by omega);subst hke;rw[List.take_length]at tl;replace zz:=uu g6 (uu g7 (uu g8 (uu g3 hd)));(repeat'(first|refine a_seq fun K hK=>?_|refine uR zz ?_|refine uT zz ?_|refine uX ?_|refine uC1 zz ?_|(refine uN hK ?_;clear hK)|(clear hK;refine uN hK ?_;clear hK)|apply zI));exact⟨tl_frzX tl,hg⟩
end Go.Proofs.YtjeolbgpllbemaaGreat
namespace Go.Proofs.YtjeolbgpllbemaaGreat
open Go.AM
set_option maxHeartbeats 2000000
set_option maxRecDepth 20000
def countW(op:ByteArray):Int:=
 if(op.data.toList==(#[110,111,116]:Array UInt8).toList)then 1
 else if(op.data.toList==(#[105,109,112,108,121]:Array UInt8).toList)then 2
 else if(op.data.toList==(#[102,111,114,97,108,108]:Array UInt8).toList)then 2
 else if(op.data.toList==(#[101,120,105,115,116,115]:Array UInt8).toList)then 2
 else if(op.data.toList==(#[61]:Array UInt8).toList)then 2
 else if(op.data.toList==(#[60]:Array UInt8).toList)then 2
 else if(op.data.toList==(#[60,61]:Array UInt8).toList)then 2
 else if(op.data.toList==(#[62]:Array UInt8).toList)then 2
 else if(op.data.toList==(#[62,61]:Array UInt8).toList)then 2
 else-1
theorem count_c{h:Heap}{op:ByteArray}:PCall Tryz.prog 157 [sPV op] h fun r h'=>r= .sc (.int .i64 (countW op))∧h'=h:=by
 generalize hF:countW op=F;unfold countW at hF;cases c0:(op.data.toList==(#[110,111,116]:Array UInt8).toList)with
 |true=>
  rw[c0]at hF;simp only[if_true]at hF;subst hF;refine uG0 Tryz.func157 Tryz.ntmps157 Tryz.results157 Ty.hb_157 ?_;repeat'(first|refine a_seq fun K hK=>?_|refine uR c0 ?_|refine uT c0 ?_|(refine uN hK ?_;clear hK)|apply zI)
 |false=>
  rw[c0]at hF;simp only[Bool.false_eq_true,if_false]at hF;cases c1:(op.data.toList==(#[105,109,112,108,121]:Array UInt8).toList)with
  |true=>
   rw[c1]at hF;simp only[if_true]at hF;subst hF;refine uG0 Tryz.func157 Tryz.ntmps157 Tryz.results157 Ty.hb_157 ?_;replace zz:=uu c0 c1;repeat'(first|refine a_seq fun K hK=>?_|refine uR zz ?_|refine uT zz ?_|refine uK ?_|refine uC1 zz ?_|(refine uN hK ?_;clear hK)|apply zI)
  |false=>
   rw[c1]at hF;simp only[Bool.false_eq_true,if_false]at hF;cases c2:(op.data.toList==(#[102,111,114,97,108,108]:Array UInt8).toList)with
   |true=>
    rw[c2]at hF;simp only[if_true]at hF;subst hF;refine uG0 Tryz.func157 Tryz.ntmps157 Tryz.results157 Ty.hb_157 ?_;replace zz:=uu c0 (uu c1 c2);repeat'(first|refine a_seq fun K hK=>?_|refine uR zz ?_|refine uT zz ?_|refine uK ?_|refine uC1 zz ?_|(refine uN hK ?_;clear hK)|apply zI)
   |false=>
    rw[c2]at hF;simp only[Bool.false_eq_true,if_false]at hF;cases c3:(op.data.toList==(#[101,120,105,115,116,115]:Array UInt8).toList)with
    |true=>
     rw[c3]at hF;simp only[if_true]at hF;subst hF;refine uG0 Tryz.func157 Tryz.ntmps157 Tryz.results157 Ty.hb_157 ?_;replace zz:=uu c0 (uu c1 (uu c2 c3));repeat'(first|refine a_seq fun K hK=>?_|refine uR zz ?_|refine uT zz ?_|refine uK ?_|refine uC1 zz ?_|(refine uN hK ?_;clear hK)|apply zI)
    |false=>
     rw[c3]at hF;simp only[Bool.false_eq_true,if_false]at hF;cases c4:(op.data.toList==(#[61]:Array UInt8).toList)with
     |true=>
      rw[c4]at hF;simp only[if_true]at hF;subst hF;refine uG0 Tryz.func157 Tryz.ntmps157 Tryz.results157 Ty.hb_157 ?_;replace zz:=uu c0 (uu c1 (uu c2 (uu c3 c4)));repeat'(first|refine a_seq fun K hK=>?_|refine uR zz ?_|refine uT zz ?_|refine uK ?_|refine uC1 zz ?_|(refine uN hK ?_;clear hK)|apply zI)
     |false=>
      rw[c4]at hF;simp only[Bool.false_eq_true,if_false]at hF;cases c5:(op.data.toList==(#[60]:Array UInt8).toList)with
      |true=>
       rw[c5]at hF;simp only[if_true]at hF;subst hF;refine uG0 Tryz.func157 Tryz.ntmps157 Tryz.results157 Ty.hb_157 ?_;replace zz:=uu c0 (uu c1 (uu c2 (uu c3 (uu c4 c5))));repeat'(first|refine a_seq fun K hK=>?_|refine uR zz ?_|refine uT zz ?_|refine uK ?_|refine uC1 zz ?_|(refine uN hK ?_;clear hK)|apply zI)
      |false=>
       rw[c5]at hF;simp only[Bool.false_eq_true,if_false]at hF;cases c6:(op.data.toList==(#[60,61]:Array UInt8).toList)with
       |true=>
        rw[c6]at hF;simp only[if_true]at hF;subst hF;refine uG0 Tryz.func157 Tryz.ntmps157 Tryz.results157 Ty.hb_157 ?_;replace zz:=uu c0 (uu c1 (uu c2 (uu c3 (uu c4 (uu c5 c6)))));repeat'(first|refine a_seq fun K hK=>?_|refine uR zz ?_|refine uT zz ?_|refine uK ?_|refine uC1 zz ?_|(refine uN hK ?_;clear hK)|apply zI)
       |false=>
        rw[c6]at hF;simp only[Bool.false_eq_true,if_false]at hF;cases c7:(op.data.toList==(#[62]:Array UInt8).toList)with
        |true=>
         rw[c7]at hF;simp only[if_true]at hF;subst hF;refine uG0 Tryz.func157 Tryz.ntmps157 Tryz.results157 Ty.hb_157 ?_;replace zz:=uu c0 (uu c1 (uu c2 (uu c3 (uu c4 (uu c5 (uu c6 c7))))));repeat'(first|refine a_seq fun K hK=>?_|refine uR zz ?_|refine uT zz ?_|refine uK ?_|refine uC1 zz ?_|(refine uN hK ?_;clear hK)|apply zI)
        |false=>
         rw[c7]at hF;simp only[Bool.false_eq_true,if_false]at hF;cases c8:(op.data.toList==(#[62,61]:Array UInt8).toList)with
         |true=>
          rw[c8]at hF;simp only[if_true]at hF;subst hF;refine uG0 Tryz.func157 Tryz.ntmps157 Tryz.results157 Ty.hb_157 ?_;replace zz:=uu c0 (uu c1 (uu c2 (uu c3 (uu c4 (uu c5 (uu c6 (uu c7 c8)))))));repeat'(first|refine a_seq fun K hK=>?_|refine uR zz ?_|refine uT zz ?_|refine uC1 zz ?_|(refine uN hK ?_;clear hK)|apply zI)
         |false=>
          rw[c8]at hF;simp only[Bool.false_eq_true,if_false]at hF;subst hF;refine uG0 Tryz.func157 Tryz.ntmps157 Tryz.results157 Ty.hb_157 ?_;replace zz:=uu c0 (uu c1 (uu c2 (uu c3 (uu c4 (uu c5 (uu c6 (uu c7 c8)))))));repeat'(first|refine a_seq fun K hK=>?_|refine a_block ?_|refine uR zz ?_|refine uT zz ?_|refine uK ?_|refine uC1 zz ?_|(refine uN hK ?_;clear hK)|apply zI)
end Go.Proofs.YtjeolbgpllbemaaGreat
namespace Go.Proofs.YtjeolbgpllbemaaGreat
open Go.AM
def isPm(w:ByteArray):Bool:=bEq w opPls||bEq w opMin||bEq w opTim
def zeroEx:Ex:= .mk ⟨#[]⟩ ⟨#[]⟩ 0 [] []
def exprP:Sx→Ex × Int
 | .mk kind value _ _ _ kids=>
  if kind=2 then(.mk opNum ⟨#[]⟩ value [] [],0)
  else if kind=3 then(match kids with
   | x :: rest => bif kindOf x == 1 then
     (bif isPm (textOf x) then (match rest with
      |[a,b]=>(match exprP a with
       | (ea, ca) => bif ca == 0 then (match exprP b with
        |(eb,cb)=>bif cb==0 then(.mk (textOf x) ⟨#[]⟩ 0 [] [ea,eb],0)else(zeroEx,cb))else(zeroEx,ca))
      |_=>(zeroEx,2))
     else bif nameB (textOf x)then(match termsM rest with
      |(t,c)=>bif c==0 then(.mk opFlu (textOf x) 0 t [],0)else(zeroEx,c))else(zeroEx,8))
    else(zeroEx,2)
   |[]=>(zeroEx,2))else(zeroEx,2)
termination_by x=>SizeOf.sizeOf x
decreasing_by all_goals(simp_wf;omega)
theorem bEq_eq{a b:ByteArray}(h:bEq a b=true):a=b:=ba_ext (by simpa[bEq]using h)
theorem termsM_words: ∀ l:List ByteArray,l.all termB=true→termsM (l.map wordM)=(l,0)
 |[],_=>rfl
 |s::l,h=>by
  simp only[List.all_cons,Bool.and_eq_true]at h;have h1:kindOf (wordM s)=1:=rfl;have h2:textOf (wordM s)=s:=rfl;simp only[List.map_cons,termsM,h1,h2,h.1,termsM_words l h.2,beq_self_eq_true,cond_true]
theorem name_not_pm{s:ByteArray}(h:nameB s=true):isPm s=false:=by
 have hb:bytesOkB s.data.toList=true:=by
  unfold nameB at h;simp only[Bool.and_eq_true]at h;exact h.1.1.1
 have hn: ∀ c:UInt8,letB c=false→bEq s ⟨#[c]⟩=false:=by
  intro c hc;cases he:bEq s ⟨#[c]⟩with
  |false=>rfl
  |true=>
   have:=bEq_eq he;subst this;simp[bytesOkB,hc]at hb
 unfold isPm opPls opMin opTim;rw[hn 43 (by decide),hn 45 (by decide),hn 42 (by decide)];try rfl
theorem exprP_exW: ∀ e:Ex,shapedE e=true→exprP (exW e)=(e,0):=by
 refine Ex.ind ?_;intro op name v args kids ih hs;unfold shapedE at hs;unfold exW;cases c1:bEq op opNum with
 |true=>
  rw[c1]at hs;simp only[if_true,Bool.and_eq_true,List.isEmpty_iff]at hs⊢;obtain⟨⟨⟨h1,rfl⟩,rfl⟩,_⟩:=hs;have h2:=bEq_eq c1;have h3:name=⟨#[]⟩:=bEq_eq h1;subst h2;subst h3;unfold exprP;simp
 |false=>
  rw[c1]at hs;simp only[Bool.false_eq_true,if_false]at hs⊢;cases c2:bEq op opFlu with
  |true=>
   rw[c2]at hs;simp only[if_true,Bool.and_eq_true,List.isEmpty_iff,decide_eq_true_eq]at hs⊢;obtain⟨⟨⟨rfl,rfl⟩,h1⟩,h2⟩:=hs;have h3:=bEq_eq c2;subst h3;unfold exprP wordsM listM;have k1:kindOf (wordM name)=1:=rfl;have k2:textOf (wordM name)=name:=rfl;simp only[List.map_cons,k1,k2,name_not_pm h1,h1,termsM_words args h2,beq_self_eq_true,cond_true,cond_false];simp
  |false=>
   rw[c2]at hs;simp only[Bool.false_eq_true,if_false]at hs⊢;split at hs
   case isFalse=>simp at hs
   rename_i hop;simp only[Bool.and_eq_true,List.isEmpty_iff,decide_eq_true_eq]at hs;obtain⟨⟨⟨rfl,h1⟩,rfl⟩,h2⟩:=hs;split at h2
   case h_2=>simp at h2
   rename_i a b;simp only[Bool.and_eq_true]at h2;have h3:name=⟨#[]⟩:=bEq_eq h1;subst h3;unfold exprP listM;have k1:kindOf (wordM op)=1:=rfl;have k2:textOf (wordM op)=op:=rfl;have k3:isPm op=true:=hop;simp only[k1,k2,k3,ih a (by simp) h2.1,ih b (by simp) h2.2,beq_self_eq_true,cond_true];simp
end Go.Proofs.YtjeolbgpllbemaaGreat
namespace Go.Proofs.YtjeolbgpllbemaaGreat
open Go.AM
set_option maxHeartbeats 4000000
set_option maxRecDepth 20000
theorem exprP_head(x:Sx):exprP x=(bif kindOf x==2 then(match x with| .mk _ v _ _ _ _=>(.mk opNum ⟨#[]⟩ v [] [],0))else(match headM x with
  |none=>(zeroEx,2)
  |some (w,rest)=>bif isPm w then(match rest with
    |[a,b]=>(match exprP a with
     | (ea, ca) => bif ca == 0 then (match exprP b with
      |(eb,cb)=>bif cb==0 then(.mk w ⟨#[]⟩ 0 [] [ea,eb],0)else(zeroEx,cb))else(zeroEx,ca))
    |_=>(zeroEx,2))
   else bif nameB w then(match termsM rest with
    |(t,c)=>bif c==0 then(.mk opFlu w 0 t [],0)else(zeroEx,c))else(zeroEx,8))):=by
 obtain⟨kind,value,line,col,text,kids⟩:=x
 conv=>lhs;unfold exprP
 have kk:kindOf (.mk kind value line col text kids)=kind:=rfl;rw[kk];simp only[headM];cases h2:kind==2 with
 |true=>
  rw[if_pos (by simpa using h2)];try rfl
 |false=>
  rw[if_neg (by simpa using h2)];simp only[cond_false];by_cases h3:kind=3
  ·rw [if_pos h3,if_pos h3];cases kids with
   |nil=>rfl
   |cons y rest=>cases hk:kindOf y==1<;>simp only[hk,cond_true,cond_false]<;>rfl
  ·rw [if_neg h3,if_neg h3]
theorem headM_ok{x:Sx}{w:ByteArray}{rest:List Sx}(hok:x.ok)(h:headM x=some (w,rest)):w.size≤bigN∧ ∀ y∈rest,y.ok:=by
 obtain⟨kind,value,line,col,text,kids⟩:=x;simp only[Sx.ok]at hok;obtain⟨_,_,_,_,hks⟩:=hok;simp only[headM]at h;split at h
 ·cases kids with
  |nil=>simp at h
  |cons y r=>
   simp only[Sx.oks]at hks;simp only at h;cases hk:kindOf y==1 with
   |false=>rw[hk]at h;simp at h
   |true=>
    rw[hk]at h;simp only[cond_true,Option.some.injEq,Prod.mk.injEq]at h;obtain⟨rfl,rfl⟩:=h;refine⟨?_,Sx.oks_iff.1 hks.2⟩;obtain⟨_,_,_,_,t,_⟩:=y;simp only[Sx.ok]at hks;exact hks.1.2.2.1
 ·simp at h
theorem ex_in(n:Nat): ∀ e:Ex,inNL n e.cells:=by
 have hs: ∀ l:List ByteArray,inNR n (strRows l):=by
  intro l
  induction l with
  |nil=>simp only[strRows,List.map_nil,inNR]
  |cons a l ih=>simp only[strRows,List.map_cons,inNR,inNL,inN,and_true,true_and]at ih⊢;exact ih
 refine Ex.ind ?_;intro op name v args kids ih;have:inNR n (Ex.rows kids):=by
  try clear zz
  clear op name v args
  induction kids with
  |nil=>simp only[Ex.rows,inNR]
  |cons k ks ih2=>
   simp only[Ex.rows,inNR];exact⟨ih k (by simp),ih2 fun q hq=>ih q (by simp[hq])⟩
 simp only[Ex.cells,inNL,inN,and_true,true_and];exact⟨hs args,this⟩
theorem strs_in(n:Nat)(l:List ByteArray):inNR n (strRows l):=by
 induction l with
 |nil=>simp only[strRows,List.map_nil,inNR]
 |cons a l ih=>simp only[strRows,List.map_cons,inNR,inNL,inN,and_true,true_and]at ih⊢;exact ih
theorem expr_plain_c{x:Sx}(hok:x.ok)(hsm: ∀ w rest,headM x=some (w,rest)→rest.length≤1048576)(hpm:kindOf x=2∨ ∀ w rest,headM x=some (w,rest)→isPm w=false)(h:Heap):
  PCall Tryz.prog 165 [.agg x.cells] h fun r h'=>r= .tup [.agg (exprP x).1.cells,errP (exprP x).2]∧h'=h:=by
 refine PCall.frz Ty.hb_165 ?_;have hh:=head_c hok;have hX:=exprP_head x;generalize exprP x=F at hX;have hho:=fun w rest e=>headM_ok (w:=w) (rest:=rest) hok e;generalize headM x=M at hh hX hsm hpm hho;obtain⟨kind,value,line,col,text,kids⟩:=x;have kk:kindOf (.mk kind value line col text kids)=kind:=rfl;rw[kk]at hX hpm;simp only[Sx.cells]at hh⊢;cases k2:(kind==2)with
 |true=>
  simp only[k2,cond_true]at hX;subst hX;refine uG0 Tryz.func165 Tryz.ntmps165 Tryz.results165 Ty.hb_165 ?_;repeat'(first|refine a_seq fun K hK=>?_|refine uR k2 ?_|refine uT k2 ?_|(refine uN hK ?_;clear hK)|apply zI)
  refine⟨?_,((Grow.refl h).new _).set (Nat.le_refl _) _⟩;simp only[errP,beq_self_eq_true,cond_true,opNum,Ex.cells,Ex.rows,strRows,List.map_nil,FrzTo,FrzL];exact⟨_,rfl,⟨_,rfl,rfl,rfl,rfl,.inr (.inl ⟨rfl,.inr rfl⟩),.inr (.inl ⟨rfl,.inr rfl⟩),trivial⟩,rfl,trivial⟩
 |false=>
  have hk2:¬ kind=2:=by simpa using k2
  simp only[k2,cond_false]at hX;have hpm:=hpm.resolve_left hk2;cases M with
  |none=>
   simp only at hX;subst hX;simp only[headV]at hh;refine uG0 Tryz.func165 Tryz.ntmps165 Tryz.results165 Ty.hb_165 ?_;(repeat'(first|refine a_seq fun K hK=>?_|refine uR k2 ?_|refine uK ?_|refine uC1 k2 ?_|(refine uN hK ?_;clear hK)|apply zI));refine uU (uu k2 @Bool.not_false) (hh _) ?_;replace zz:=uu k2 @Bool.not_false;(repeat'(first|refine a_seq fun K hK=>?_|refine uR zz ?_|refine uT zz ?_|(refine uN hK ?_;clear hK)|apply zI));refine⟨?_,((Grow.refl h).new _).set (Nat.le_refl _) _⟩;have e2:errP 2=errV 2:=rfl;simp only[e2,errV,zeroEx,Ex.cells,Ex.rows,strRows,List.map_nil,FrzTo,FrzL];exact⟨_,rfl,⟨_,rfl,rfl,rfl,rfl,.inr (.inl ⟨rfl,.inr rfl⟩),.inr (.inl ⟨rfl,.inr rfl⟩),trivial⟩,rfl,trivial⟩
  |some wr=>
   obtain⟨w,rest⟩:=wr;have hp:=hpm w rest rfl;obtain⟨hw,hr⟩:=hho w rest rfl;have hl:=hsm w rest rfl;have hw':w.size≤9223372036854775807:=(by unfold bigN at hw;omega);simp only[hp,cond_false]at hX;simp only[headV]at hh;have hp':=hp;unfold isPm opPls opMin opTim bEq at hp';rw[Bool.or_eq_false_iff,Bool.or_eq_false_iff]at hp';obtain⟨⟨p1,p2⟩,p3⟩:=hp';have hn:=fun h:Heap=>fname_c (h:=h) hw';generalize nameB w=b at hn hX;cases b with
   |false=>
    simp only[cond_false]at hX;subst hX;refine uG0 Tryz.func165 Tryz.ntmps165 Tryz.results165 Ty.hb_165 ?_;(repeat'(first|refine a_seq fun K hK=>?_|refine uR k2 ?_|refine uK ?_|refine uC1 k2 ?_|(refine uN hK ?_;clear hK)|apply zI));refine uU (uu k2 @Bool.not_true) (hh _) ?_;replace zz:=uu k2 (uu p1 (uu p2 (uu p3 (uu @Bool.not_true @Bool.not_false))));(repeat'(first|refine a_seq fun K hK=>?_|refine uR zz ?_|refine uK ?_|refine uC1 zz ?_|(refine uN hK ?_;clear hK)|apply zI));refine uU (uu k2 @Bool.not_false) (hn _) ?_;replace zz:=uu k2 @Bool.not_false;(repeat'(first|refine a_seq fun K hK=>?_|refine uR zz ?_|refine uT zz ?_|(refine uN hK ?_;clear hK)|apply zI));refine⟨?_,((Grow.refl h).new _).set (Nat.le_refl _) _⟩;have e2:errP 8=errV 8:=rfl;simp only[e2,errV,zeroEx,Ex.cells,Ex.rows,strRows,List.map_nil,FrzTo,FrzL];exact⟨_,rfl,⟨_,rfl,rfl,rfl,rfl,.inr (.inl ⟨rfl,.inr rfl⟩),.inr (.inl ⟨rfl,.inr rfl⟩),trivial⟩,rfl,trivial⟩
   |true=>
    simp only[cond_true]at hX;have ht:=terms_c hl hr;generalize termsM rest=T at ht hX;obtain⟨t,c⟩:=T;simp only at ht hX;cases hc:c==0 with
    |true=>
     rw[hc,cond_true]at hX;subst hX;have e0:errP c= .sc .nilIface:=(by simp only[errP,hc,cond_true]);rw[e0]at ht;refine uG0 Tryz.func165 Tryz.ntmps165 Tryz.results165 Ty.hb_165 ?_;(repeat'(first|refine a_seq fun K hK=>?_|refine uR k2 ?_|refine uK ?_|refine uC1 k2 ?_|(refine uN hK ?_;clear hK)|apply zI));refine uU (uu k2 @Bool.not_true) (hh _) ?_;replace zz:=uu k2 (uu p1 (uu p2 (uu p3 (uu @Bool.not_true @Bool.not_false))));(repeat'(first|refine a_seq fun K hK=>?_|refine uR zz ?_|refine uK ?_|refine uC1 zz ?_|(refine uN hK ?_;clear hK)|apply zI));refine uU (uu k2 @Bool.not_true) (hn _) ?_;replace zz:=uu k2 @Bool.not_true;(repeat'(first|refine a_seq fun K hK=>?_|refine uR zz ?_|refine uK ?_|refine uC1 zz ?_|(refine uN hK ?_;clear hK)|apply zI));refine uU k2 (ht _) ?_;(repeat'(first|refine a_seq fun K hK=>?_|refine uR zz ?_|refine uT zz ?_|refine uK ?_|refine uC1 zz ?_|(refine uN hK ?_;clear hK)|apply zI));refine⟨?_,((Grow.refl h).new _).set (Nat.le_refl _) _⟩;have e2:errP 0= .sc .nilIface:=rfl;rw[e2];simp only[opFlu,Ex.cells,Ex.rows,FrzTo,FrzL];exact⟨_,rfl,⟨_,rfl,rfl,rfl,rfl,.inl ⟨rfl,strs_in _ _⟩,.inr (.inl ⟨rfl,.inr rfl⟩),trivial⟩,rfl,trivial⟩
    |false=>
     rw[hc,cond_false]at hX;subst hX;have e0:errP c=errV c:=(by simp only[errP,hc,cond_false]);rw[e0]at ht⊢;simp only[errV]at ht⊢;refine uG0 Tryz.func165 Tryz.ntmps165 Tryz.results165 Ty.hb_165 ?_;(repeat'(first|refine a_seq fun K hK=>?_|refine uR k2 ?_|refine uK ?_|refine uC1 k2 ?_|(refine uN hK ?_;clear hK)|apply zI));refine uU (uu k2 @Bool.not_true) (hh _) ?_;replace zz:=uu k2 (uu p1 (uu p2 (uu p3 (uu @Bool.not_true @Bool.not_false))));(repeat'(first|refine a_seq fun K hK=>?_|refine uR zz ?_|refine uK ?_|refine uC1 zz ?_|(refine uN hK ?_;clear hK)|apply zI));refine uU (uu k2 @Bool.not_true) (hn _) ?_;replace zz:=uu k2 @Bool.not_true;(repeat'(first|refine a_seq fun K hK=>?_|refine uR zz ?_|refine uK ?_|refine uC1 zz ?_|(refine uN hK ?_;clear hK)|apply zI));refine uU k2 (ht _) ?_;replace zz:=uu k2 @Bool.not_false;(repeat'(first|refine a_seq fun K hK=>?_|refine uR zz ?_|refine uT zz ?_|(refine uN hK ?_;clear hK)|apply zI));refine⟨?_,((Grow.refl h).new _).set (Nat.le_refl _) _⟩;simp only[zeroEx,Ex.cells,Ex.rows,strRows,List.map_nil,FrzTo,FrzL];exact⟨_,rfl,⟨_,rfl,rfl,rfl,rfl,.inr (.inl ⟨rfl,.inr rfl⟩),.inr (.inl ⟨rfl,.inr rfl⟩),trivial⟩,rfl,trivial⟩
end Go.Proofs.YtjeolbgpllbemaaGreat
namespace Go.Proofs.YtjeolbgpllbemaaGreat
open Go.AM
set_option maxHeartbeats 4000000
set_option maxRecDepth 20000
theorem nsucc(n:Nat):(n=n+1)=False:=by simp
end Go.Proofs.YtjeolbgpllbemaaGreat
namespace Go.AM
mutual
def Sx.small:Sx→Prop
 | .mk _ _ _ _ _ kids=>kids.length≤1048576∧Sx.smalls kids
def Sx.smalls:List Sx→Prop
 |[]=>True
 |k::ks=>k.small∧Sx.smalls ks
end
theorem Sx.smalls_iff:{l:List Sx}→(Sx.smalls l↔ ∀ k∈l,k.small)
 |[]=>by simp[Sx.smalls]
 |k::ks=>by simp[Sx.smalls,Sx.smalls_iff (l:=ks)]
end Go.AM
namespace Go.Proofs.YtjeolbgpllbemaaGreat
open Go.AM
set_option maxHeartbeats 4000000
set_option maxRecDepth 20000
def exprsP:List Sx→List Ex × Int
 |[]=>([],0)
 |x::l=>bif (exprP x).2==0 then(match exprsP l with
  |(es,c)=>bif c==0 then((exprP x).1::es,0)else([],c))else([],(exprP x).2)
theorem exprsP_code: ∀ l:List Sx,((exprsP l).2==0)=true→(exprsP l).2=0:=fun l h=>by simpa using h
theorem exprsP_nil: ∀ l:List Sx,((exprsP l).2==0)=false→(exprsP l).1=[]
 |[],h=>by simp[exprsP]at h
 |x::l,h=>by
  simp only[exprsP]at h⊢;cases hq:(exprP x).2==0 with
  |false=>rfl
  |true=>
   rw[hq]at h;simp only[cond_true]at h⊢;cases hr:(exprsP l).2==0 with
   |false=>rfl
   |true=>rw[hr]at h;simp at h
theorem exprsP_two(w:ByteArray)(rest:List Sx):rest.length=2→(match rest with
    |[a,b]=>(match exprP a with
     | (ea, ca) => bif ca == 0 then (match exprP b with
      |(eb,cb)=>bif cb==0 then((.mk w ⟨#[]⟩ 0 [] [ea,eb],0):Ex × Int)else(zeroEx,cb))else(zeroEx,ca))
    |_=>(zeroEx,2))=(bif (exprsP rest).2==0 then(.mk w ⟨#[]⟩ 0 [] (exprsP rest).1,0)else(zeroEx,(exprsP rest).2)):=by
 intro hl
 match rest,hl with
 |[a,b],_=>
  simp only[exprsP];cases ha:(exprP a).2==0
  ·simp only[ha,cond_false]
  ·cases hb:(exprP b).2==0
   ·simp only[ha,hb,cond_true,cond_false]
   ·simp [ha,hb]
theorem tl_one{h:Heap}{id0 z:Nat}{p:PV}{rows:List (List PV)}(t:Tl h id0 z p rows):oneC p=true∧p.cells=[p]:=by
 rcases t with⟨_,rfl|rfl⟩|⟨id,_,_,rfl,_⟩
 ·exact ⟨rfl,rfl⟩
 ·exact ⟨rfl,rfl⟩
 ·exact ⟨rfl,rfl⟩
theorem ex_frz(n:Nat)(h:Heap)(e:Ex):FrzL n h e.cells e.cells:=by
 have hi:=ex_in n e;obtain⟨op,name,v,args,kids⟩:=e;simp only[Ex.cells,inNL,inN,and_true,true_and]at hi;simp only[Ex.cells,FrzL,FrzTo,and_true,true_and];exact⟨.inl hi.1,.inl hi.2⟩
theorem exs_frz(n:Nat)(h:Heap): ∀ l:List Ex,FrzR n h (Ex.rows l) (Ex.rows l)
 |[]=>by simp only[Ex.rows,FrzR]
 |k::ks=>by simp only[Ex.rows,FrzR];exact⟨ex_frz n h k,exs_frz n h ks⟩
theorem tl_frzE{h:Heap}{id0 n:Nat}{p:PV}{l:List Ex}(hn:n≤id0)(t:Tl h id0 5 p (Ex.rows l)):FrzTo n h (.imm 5 (Ex.rows l)) p:=by
 simp only[FrzTo];rcases t with⟨h1,h2⟩|⟨id,h1,h2,rfl,ho⟩
 ·exact .inr (.inl ⟨h1,h2.symm⟩)
 ·refine .inr (.inr ⟨id,0,_,_,rfl,by omega,ho,by omega,?_⟩);rw[List.drop_zero,List.take_of_length_le (by omega)];exact exs_frz _ _ _
theorem expr_pm_c{kind value line col:Int}{text:ByteArray}{kids:List Sx}{w:ByteArray}{rest:List Sx}(hok:(Sx.mk kind value line col text kids).ok)(hk2:¬ kind=2)(hM:headM (.mk kind value line col text kids)=some (w,rest))(hp:isPm w=true)
  (hf: ∀ x∈rest, ∀ h:Heap,PCall Tryz.prog 165 [.agg x.cells] h fun r h'=>r= .tup [.agg (exprP x).1.cells,errP (exprP x).2]∧h'=h)(hl:rest.length≤1048576)(h:Heap):
  PCall Tryz.prog 165 [.agg (Sx.mk kind value line col text kids).cells] h fun r h'=>r= .tup [.agg (exprP (.mk kind value line col text kids)).1.cells,errP (exprP (.mk kind value line col text kids)).2]∧h'=h:=by
 refine PCall.frz Ty.hb_165 ?_;have hh:=head_c hok;have hX:=exprP_head (.mk kind value line col text kids);generalize exprP (.mk kind value line col text kids)=F at hX;have kk:kindOf (.mk kind value line col text kids)=kind:=rfl;have k2:(kind==2)=false:=by simpa using hk2
 rw[kk,k2,hM]at hX;simp only[cond_false,hp,cond_true]at hX;rw[hM]at hh;simp only[headV]at hh;simp only[Sx.cells]at hh⊢;have hlr:=Sx.rows_len rest;refine uG0 Tryz.func165 Tryz.ntmps165 Tryz.results165 Ty.hb_165 ?_;repeat'(first|refine a_seq fun K hK=>?_|refine uR k2 ?_|refine uK ?_|refine uC1 k2 ?_|(refine uN hK ?_;clear hK)|apply zI)
 refine uU (uu k2 @Bool.not_true) (hh _) ?_;iterate 9 (first|refine a_seq fun K hK=>?_|refine uR (uu k2 @Bool.not_true) ?_|refine uK ?_|refine uC1 (uu k2 @Bool.not_true) ?_|(refine uN hK ?_;clear hK)|apply zI)
 refine a_cutK (fun S h'=>h'=h.new (.arr 5 [[.sc (.string ⟨#[]⟩),.sc (.string ⟨#[]⟩),.sc (.int .i64 0),.sc (.slice none 0 0),.sc (.slice none 0 0)]])∧S 2= .ptr h.next 0 0∧S 4=sPV w∧S 5= .imm 6 (Sx.rows rest)) ?_ ?_
 ·have hp':=hp;unfold isPm opPls opMin opTim bEq at hp';try clear zz
  clear hX hf;cases p1:(w.data.toList==(#[43]:Array UInt8).toList)with
  |true=>
   replace zz:=uu k2 (uu p1 @Bool.not_true);(repeat'(first|refine a_seq fun K hK=>?_|refine uR zz ?_|refine uK ?_|refine uC1 zz ?_|(refine uN hK ?_;clear hK)|apply zI));all_goals(simp(maxSteps:=2000000) only[Ty.w,simprocAttr])
  |false=>
   cases p2:(w.data.toList==(#[45]:Array UInt8).toList)with
   |true=>
    replace zz:=uu k2 (uu p1 (uu p2 (uu @Bool.not_true @Bool.not_false)));(repeat'(first|refine a_seq fun K hK=>?_|refine uR zz ?_|refine uK ?_|refine uC1 zz ?_|(refine uN hK ?_;clear hK)|apply zI));all_goals(simp(maxSteps:=2000000) only[Ty.w,simprocAttr])
   |false=>
    have p3:(w.data.toList==(#[42]:Array UInt8).toList)=true:=by
     rw[p1,p2]at hp';simpa using hp'
    replace zz:=uu k2 (uu p1 (uu p2 (uu p3 (uu @Bool.not_true @Bool.not_false))));(repeat'(first|refine a_seq fun K hK=>?_|refine uR zz ?_|refine uK ?_|refine uC1 zz ?_|(refine uN hK ?_;clear hK)|apply zI));all_goals(simp(maxSteps:=2000000) only[Ty.w,simprocAttr])
 ·rintro S h' ⟨rfl,g2,g4,g5⟩;refine hK _ _ ?_;try clear zz
  clear hK hh;cases q:(((Sx.rows rest).length:Int) !=2)with
  |true=>
   have hF:F=(zeroEx,2):=by
    rw[hX];split
    ·rw [hlr]at q;simp at q
    ·rfl
   subst hF;replace zz:=uu g2 (uu g4 (uu g5 q));(repeat'(first|refine a_seq fun K hK=>?_|refine uR zz ?_|refine uT zz ?_|(refine uN hK ?_;clear hK)|apply zI));refine⟨?_,((Grow.refl h).new _).set (Nat.le_refl _) _⟩;have e2:errP 2=errV 2:=rfl;simp only[e2,errV,zeroEx,Ex.cells,Ex.rows,strRows,List.map_nil,FrzTo,FrzL];exact⟨_,rfl,⟨_,rfl,rfl,rfl,rfl,.inr (.inl ⟨rfl,.inr rfl⟩),.inr (.inl ⟨rfl,.inr rfl⟩),trivial⟩,rfl,trivial⟩
  |false=>
   have q':(((Sx.rows rest).length:Int)=2):=(by simpa using q);have hF:F=(bif (exprsP rest).2==0 then(.mk w ⟨#[]⟩ 0 [] (exprsP rest).1,0)else(zeroEx,(exprsP rest).2)):=by
    rw[hX];exact exprsP_two w rest (by rw[hlr]at q';omega)
   (try clear zz);clear hX;replace zz:=uu g2 (uu g4 (uu g5 q));(repeat'(first|refine a_seq fun K hK=>?_|refine a_block ?_|refine uR zz ?_|refine uK ?_|refine uC1 zz ?_|(refine uN hK ?_;clear hK)|apply zI));refine a_loop (fun m S h'=>S 2= .ptr h.next 0 0∧S 9= .ptr (h.next+1) 0 0∧S 64= .imm 6 (Sx.rows rest)∧S 65= .sc (.int .i64 (Sx.rows rest).length)∧ ∃ (k:Nat)(o:PV)(pre:List Ex),S 66= .sc (.int .i64 k)∧k≤rest.length∧m=rest.length-k∧Grow h h'∧h.next+1<h'.next∧pre.length=k∧
    h'.obj h.next=some (.arr 5 [[.sc (.string ⟨#[]⟩),.sc (.string ⟨#[]⟩),.sc (.int .i64 0),.sc (.slice none 0 0),.sc (.slice none 0 0)]])∧h'.obj (h.next+1)=some (.arr 5 [[sPV w,.sc (.string ⟨#[]⟩),.sc (.int .i64 0),.sc (.slice none 0 0),o]])∧Tl h' (h.next+2) 5 o (Ex.rows pre)∧
    exprsP rest=(bif (exprsP (rest.drop k)).2==0 then(pre++(exprsP (rest.drop k)).1,0)else([],(exprsP (rest.drop k)).2))) rest.length ?_ ?_
   ·simp only[Ty.w,simprocAttr,g2];refine⟨0,_,[],rfl,by omega,rfl,?_,?_,rfl,?_,?_,Tl.nil,?_⟩
    ·exact ((Grow.refl h).new _).new _|>.set (show h.next≤h.next+1 by omega) _
    ·simp [Heap.new,Heap.set]
    ·have e1:¬ h.next=h.next+1:=by omega
     simp[Heap.new,Heap.set,e1]
    ·simp [Heap.new,Heap.set]
    ·rw [List.drop_zero];cases hq:(exprsP rest).2==0
     ·simp only[cond_false];rw[← exprsP_nil rest hq]
     ·simp only[cond_true,List.nil_append];rw[← exprsP_code rest hq]
   ·(try clear zz);clear g2 g4 g5;rintro m S h' ⟨g2,g9,g64,g65,k,o,pre,g66,hk,rfl,hg,hnx,hpl,o1,o2,tl,hinv⟩;rw[hlr]at g65;by_cases hlt:k<rest.length
    ·have hd:decide ((k:Int)<(rest.length:Int))=true:=(by simp;omega);have w7:IntKind.i64.wrap ((k:Int)+1)=k+1:=(by rw[wrap64 (by omega) (by omega)]);obtain⟨x,hx⟩: ∃ x,rest[k]? =some x:=⟨_,List.getElem?_eq_getElem hlt⟩;have hr:=Sx.rows_get hx;have hc:=hf x (List.mem_of_getElem? hx);rw[drop_of_get hx]at hinv;simp only[exprsP]at hinv;have hin:=ex_in;generalize hE:exprP x=E at hc hinv;obtain⟨e,c⟩:=E;simp only at hc hinv;(try clear zz);clear hE hf;obtain⟨ki,va,li,co,te,ks⟩:=x;simp only[Sx.cells]at hr hc;have her:=fun l=>Ex.rows_map (l++[e]);have n1:(h.next=h'.next)=False:=(by simp;omega);have n2:(h.next+1=h'.next)=False:=(by simp;omega);have n3:(h.next=h'.next+1)=False:=(by simp;omega);have n4:(h.next=h'.next)=False:=(by simp;omega);have n5:(h.next+1=h'.next+1)=False:=(by simp;omega);cases hcc:c==0 with
     |false=>
      rw[hcc]at hinv;simp only[cond_false]at hinv;have e0:errP c=errV c:=(by simp only[errP,hcc,cond_false]);rw[e0]at hc;simp only[errV]at hc;have hq:exprsP rest=([],c):=(by rw[hinv];simp only[hcc,cond_false]);rw[hq]at hF;simp only[hcc,cond_false]at hF;subst hF;obtain⟨eop,ena,en,ear,eki⟩:=e;simp only[Ex.cells]at hc;replace zz:=uu g2 (uu g9 (uu g64 (uu g65 (uu g66 (uu hd (uu hr (uu o1 (uu o2 (uu n1 (uu n2 (uu n3 (uu n5 @nsucc))))))))))));(repeat'(first|refine a_seq fun K hK=>?_|refine uR zz ?_|refine uK ?_|refine uC1 zz ?_|(refine uN hK ?_;clear hK)|apply zI));refine uU zz (hc _) ?_;replace zz:=uu g2 (uu g9 (uu g64 (uu g65 (uu g66 (uu o1 (uu o2 (uu n1 (uu n2 (uu n3 (uu n5 @nsucc))))))))));(repeat'(first|refine a_seq fun K hK=>?_|refine uR zz ?_|refine uT zz ?_|(refine uN hK ?_;clear hK)|apply zI));have e2:errP c= .sc (.iface 45 (.int .i64 c)):=(by rw[e0];try rfl);rw[e2];refine⟨?_,(((((hg.new _).set hg.le _).new _).set (show h.next≤h'.next+1 by have:=hg.le;omega) _).set (Nat.le_refl _) _)⟩;simp only[zeroEx,Ex.cells,Ex.rows,strRows,List.map_nil,FrzTo,FrzL];exact⟨_,rfl,⟨_,rfl,rfl,rfl,rfl,.inr (.inl ⟨rfl,.inr rfl⟩),.inr (.inl ⟨rfl,.inr rfl⟩),trivial⟩,rfl,trivial⟩
     |true=>
      have e0:errP c= .sc .nilIface:=(by simp only[errP,hcc,cond_true]);rw[e0]at hc;have hto:=tl_one tl;have hrows:Ex.rows (pre++[e])=Ex.rows pre++[e.cells]:=(by simp only[Ex.rows_map,List.map_append,List.map_cons,List.map_nil]);obtain⟨eop,ena,en,ear,eki⟩:=e;simp only[Ex.cells]at hc hrows;have hold: ∀ j,j<h'.next→(((((h'.new (.arr 6 [[.sc (.int .i64 0),.sc (.int .i64 0),.sc (.int .i64 0),.sc (.int .i64 0),.sc (.string ⟨#[]⟩),.sc (.slice none 0 0)]])).set h'.next (.arr 6 [[.sc (.int .i64 ki),.sc (.int .i64 va),.sc (.int .i64 li),.sc (.int .i64 co),sPV te,.imm 6 (Sx.rows ks)]])).new (.arr 5 [[.sc (.string ⟨#[]⟩),.sc (.string ⟨#[]⟩),.sc (.int .i64 0),.sc (.slice none 0 0),.sc (.slice none 0 0)]])).set (h'.next+1) (.arr 5 [[sPV eop,sPV ena,.sc (.int .i64 en),.imm 1 (strRows ear),.imm 5 (Ex.rows eki)]])):Heap).obj j=h'.obj j:=fun j hj=>by
       have a1:¬ j=h'.next:=by omega
       have a2:¬ j=h'.next+1:=by omega
       simp only[Heap.new,Heap.set,a1,a2,if_false]
      have tl2:=tl.up (h':=((((h'.new (.arr 6 [[.sc (.int .i64 0),.sc (.int .i64 0),.sc (.int .i64 0),.sc (.int .i64 0),.sc (.string ⟨#[]⟩),.sc (.slice none 0 0)]])).set h'.next (.arr 6 [[.sc (.int .i64 ki),.sc (.int .i64 va),.sc (.int .i64 li),.sc (.int .i64 co),sPV te,.imm 6 (Sx.rows ks)]])).new (.arr 5 [[.sc (.string ⟨#[]⟩),.sc (.string ⟨#[]⟩),.sc (.int .i64 0),.sc (.slice none 0 0),.sc (.slice none 0 0)]])).set (h'.next+1) (.arr 5 [[sPV eop,sPV ena,.sc (.int .i64 en),.imm 1 (strRows ear),.imm 5 (Ex.rows eki)]]))) (by simp[Heap.new,Heap.set];omega) (fun j _ hj=>hold j hj);have hg2:Grow h ((((h'.new (.arr 6 [[.sc (.int .i64 0),.sc (.int .i64 0),.sc (.int .i64 0),.sc (.int .i64 0),.sc (.string ⟨#[]⟩),.sc (.slice none 0 0)]])).set h'.next (.arr 6 [[.sc (.int .i64 ki),.sc (.int .i64 va),.sc (.int .i64 li),.sc (.int .i64 co),sPV te,.imm 6 (Sx.rows ks)]])).new (.arr 5 [[.sc (.string ⟨#[]⟩),.sc (.string ⟨#[]⟩),.sc (.int .i64 0),.sc (.slice none 0 0),.sc (.slice none 0 0)]])).set (h'.next+1) (.arr 5 [[sPV eop,sPV ena,.sc (.int .i64 en),.imm 1 (strRows ear),.imm 5 (Ex.rows eki)]])):=(((hg.new _).set hg.le _).new _).set (show h.next≤h'.next+1 by have:=hg.le;omega) _;have hnn:(((((h'.new (.arr 6 [[.sc (.int .i64 0),.sc (.int .i64 0),.sc (.int .i64 0),.sc (.int .i64 0),.sc (.string ⟨#[]⟩),.sc (.slice none 0 0)]])).set h'.next (.arr 6 [[.sc (.int .i64 ki),.sc (.int .i64 va),.sc (.int .i64 li),.sc (.int .i64 co),sPV te,.imm 6 (Sx.rows ks)]])).new (.arr 5 [[.sc (.string ⟨#[]⟩),.sc (.string ⟨#[]⟩),.sc (.int .i64 0),.sc (.slice none 0 0),.sc (.slice none 0 0)]])).set (h'.next+1) (.arr 5 [[sPV eop,sPV ena,.sc (.int .i64 en),.imm 1 (strRows ear),.imm 5 (Ex.rows eki)]])):Heap).next=h'.next+1+1:=by simp[Heap.new,Heap.set]
      obtain⟨H,t1,t2,t3,t4,t5⟩:=tl2.tail;have u9:=t4 (h.next+1) (by omega);rw[hold _ hnx,o2]at u9;have u0:=t4 h.next (by omega)
      rw[hold _ (by omega),o1]at u0;rw[hnn]at t3;have hkp:=t5 h ⟨hg2.le,hg2.old⟩ (by omega);have hgH:Grow h H:=⟨hkp.1,hkp.2⟩;have hpr:(Ex.rows pre).length=k:=(by rw[Ex.rows_len];exact hpl);have hb:(k+1)*88≤140737488355328:=(by omega);have n6:(h.next+1=H.next)=False:=(by simp;omega);have n7:(h.next+1=h'.next+1+1)=False:=(by simp;omega);replace zz:=uu g2 (uu g9 (uu g64 (uu g65 (uu g66 (uu hd (uu hr (uu o1 (uu o2 (uu n1 (uu n2 (uu n3 (uu n5 @nsucc))))))))))));(repeat'(first|refine a_seq fun K hK=>?_|refine uR zz ?_|refine uK ?_|refine uC1 zz ?_|(refine uN hK ?_;clear hK)|apply zI));refine uU zz (hc _) ?_;replace zz:=uu g2 (uu g9 (uu g64 (uu g65 (uu g66 (uu o1 (uu o2 (uu n1 (uu n2 (uu n3 (uu n5 (uu n6 (uu n7 (uu @nsucc (uu t1 (uu t2 (uu u9 (uu hpr (uu hb w7))))))))))))))))));(repeat'(first|refine a_seq fun K hK=>?_|refine uR zz ?_|refine uQ zz fun K hK=>?_|refine uK ?_|refine uC1 zz ?_|(refine uN hK ?_;clear hK)|(rw[if_pos];rotate_left 1;omega;simp(maxSteps:=2000000) only[Ty.w,simprocAttr,g2,g9,g64,g65,g66,o1,o2,n1,n2,n3,n5,n6,n7,nsucc,t1,t2,u9,hpr,hb,w7])|apply zI));rw[← hrows];have hgr:=Tl.grow (H:=H) (id0:=h.next+2) (z:=5) (len:=k+1) (rows:=Ex.rows (pre++[Ex.mk eop ena en ear eki])) (by omega) (by rw[Ex.rows_len];simp[hpl]);refine⟨rest.length-(k+1),by omega,by rw[hlr],k+1,.own H.next 0 (k+1),pre++[Ex.mk eop ena en ear eki],by simp,by omega,rfl,(hgH.new _).set (show h.next≤h.next+1 by omega) _,by omega,by simp[hpl],?_,by rw[t3],?_,?_⟩
      ·rw [if_neg (by omega)];exact u0
      ·exact hgr.up (Nat.le_refl _) (fun j hj _=>by simp only[Heap.set];rw[if_neg (by omega)])
      ·rw [hinv,hcc];simp only[cond_true];cases hq:(exprsP (List.drop (k+1) rest)).2==0 with
       |false=>simp only[hq,cond_false]
       |true=>simp only[cond_true,beq_self_eq_true,List.append_assoc,List.cons_append,List.nil_append]
    ·have hd:decide ((k:Int)<(rest.length:Int))=false:=(by simp;omega);rw[List.drop_eq_nil_of_le (by omega)]at hinv;have hq:exprsP rest=(pre,0):=(by rw[hinv];simp[exprsP]);rw[hq]at hF;have hF2:F=(.mk w ⟨#[]⟩ 0 [] pre,0):=hF;(try clear zz);clear hF;subst hF2;have ho:=(tl_one tl).1;have n1:(h.next+1=h.next)=False:=(by simp);replace zz:=uu g2 (uu g9 (uu g64 (uu g65 (uu g66 (uu hd (uu o1 (uu o2 (uu ho n1))))))));(repeat'(first|refine a_seq fun K hK=>?_|refine uR zz ?_|refine uT zz ?_|refine uX ?_|refine uC1 zz ?_|(refine uN hK ?_;clear hK)|(clear hK;refine uN hK ?_;clear hK)|apply zI));refine⟨?_,hg.set (Nat.le_refl _) _⟩;have e2:errP 0= .sc .nilIface:=rfl;rw[e2];have h1:FrzTo h.next (h'.set h.next (.arr 5 [[sPV w,.sc (.string ⟨#[]⟩),.sc (.int .i64 0),.sc (.slice none 0 0),o]])) (.imm 5 (Ex.rows pre)) o:=tl_frzE (by omega) (tl.up (Nat.le_refl _) (fun j hj _=>by simp only[Heap.set];rw[if_neg (by omega)]))
     generalize h'.set h.next (.arr 5 [[sPV w,.sc (.string ⟨#[]⟩),.sc (.int .i64 0),.sc (.slice none 0 0),o]])=H at h1⊢
     simp only[Ex.cells,strRows,List.map_nil];unfold FrzTo;refine⟨_,rfl,?_⟩;unfold FrzL;refine⟨?_,by unfold FrzL;exact⟨by simp only[FrzTo],by simp only[FrzL]⟩⟩;unfold FrzTo;refine⟨_,rfl,?_⟩;unfold FrzL;refine⟨by simp only[FrzTo],?_⟩;unfold FrzL;refine⟨by simp only[FrzTo],?_⟩;unfold FrzL;refine⟨by simp only[FrzTo],?_⟩;unfold FrzL;refine⟨by simp[FrzTo],?_⟩;unfold FrzL;exact⟨h1,by simp only[FrzL]⟩
theorem headM_rest{kind value line col:Int}{text:ByteArray}{kids:List Sx}{w:ByteArray}{rest:List Sx}(h:headM (.mk kind value line col text kids)=some (w,rest)): ∃ y,kids=y::rest:=by
 simp only[headM]at h;split at h
 ·cases kids with
  |nil=>simp at h
  |cons y r=>
   simp only at h;cases hk:kindOf y==1 with
   |false=>rw[hk]at h;simp at h
   |true=>
    rw[hk]at h;simp only[cond_true,Option.some.injEq,Prod.mk.injEq]at h;exact⟨y,by rw[h.2]⟩
 ·simp at h
theorem expr_c: ∀ x:Sx,x.ok→x.small→ ∀ h:Heap,PCall Tryz.prog 165 [.agg x.cells] h fun r h'=>r= .tup [.agg (exprP x).1.cells,errP (exprP x).2]∧h'=h:=by
 refine Sx.ind ?_;intro kind value line col text kids ih hok hsm h;have hok':=hok;simp only[Sx.ok]at hok';obtain⟨_,_,_,_,hks⟩:=hok';rw[Sx.oks_iff]at hks;simp only[Sx.small]at hsm;obtain⟨hl,hss⟩:=hsm;rw[Sx.smalls_iff]at hss;have hrl: ∀ w rest,headM (.mk kind value line col text kids)=some (w,rest)→rest.length≤1048576:=fun w rest e=>by
  obtain⟨y,rfl⟩:=headM_rest e;simp at hl;omega
 by_cases hk2:kind=2
 ·exact expr_plain_c hok hrl (.inl hk2) h
 ·cases hM:headM (.mk kind value line col text kids)with
  |none=>exact expr_plain_c hok hrl (.inr fun w rest e=>by rw[hM]at e;simp at e) h
  |some wr=>
   obtain⟨w,rest⟩:=wr;cases hp:isPm w with
   |false=>exact expr_plain_c hok hrl (.inr fun w2 rest2 e=>by rw[hM]at e;simp at e;rw[← e.1];exact hp) h
   |true=>
    obtain⟨y,hy⟩:=headM_rest hM;exact expr_pm_c hok hk2 hM hp (fun x hx=>ih x (by rw[hy];simp[hx]) (hks x (by rw[hy];simp[hx])) (hss x (by rw[hy];simp[hx]))) (hrl w rest hM) h
end Go.Proofs.YtjeolbgpllbemaaGreat
