/- What the claim rests on, part 4: the abstract machine, contracts of the functions, plain data. -/
import Derived.Test.YtblgchkahpgdjaaGreatProg
import Derived.Test.YtblgchkahpgdjaaGreatZw3
set_option linter.unusedVariables false
set_option linter.unusedSimpArgs false
set_option linter.unusedSectionVars false
namespace Go.Proofs.YtblgchkahpgdjaaGreat
open Go.AM
namespace Ty
theorem mixed:Tryz.prog.follows .mixedOrders=true:=by kernel_rfl
theorem hb_10:hasBody Tryz.prog 10=true:=by kernel_rfl
theorem hb_12:hasBody Tryz.prog 12=true:=by kernel_rfl
theorem hb_13:hasBody Tryz.prog 13=true:=by kernel_rfl
theorem hb_14:hasBody Tryz.prog 14=true:=by kernel_rfl
theorem hb_15:hasBody Tryz.prog 15=true:=by kernel_rfl
theorem hb_16:hasBody Tryz.prog 16=true:=by kernel_rfl
theorem hb_21:hasBody Tryz.prog 21=true:=by kernel_rfl
theorem hb_24:hasBody Tryz.prog 24=true:=by kernel_rfl
theorem hb_29:hasBody Tryz.prog 29=true:=by kernel_rfl
theorem hb_30:hasBody Tryz.prog 30=true:=by kernel_rfl
theorem hb_31:hasBody Tryz.prog 31=true:=by kernel_rfl
theorem hb_33:hasBody Tryz.prog 33=true:=by kernel_rfl
theorem hb_34:hasBody Tryz.prog 34=true:=by kernel_rfl
theorem hb_35:hasBody Tryz.prog 35=true:=by kernel_rfl
theorem hb_40:hasBody Tryz.prog 40=true:=by kernel_rfl
theorem hb_41:hasBody Tryz.prog 41=true:=by kernel_rfl
theorem hb_39:hasBody Tryz.prog 39=true:=by kernel_rfl
theorem hb_43:hasBody Tryz.prog 43=true:=by kernel_rfl
theorem hb_42:hasBody Tryz.prog 42=true:=by kernel_rfl
theorem hb_44:hasBody Tryz.prog 44=true:=by kernel_rfl
theorem hb_45:hasBody Tryz.prog 45=true:=by kernel_rfl
theorem hb_46:hasBody Tryz.prog 46=true:=by kernel_rfl
theorem hb_47:hasBody Tryz.prog 47=true:=by kernel_rfl
theorem hb_48:hasBody Tryz.prog 48=true:=by kernel_rfl
theorem hb_49:hasBody Tryz.prog 49=true:=by kernel_rfl
theorem hb_50:hasBody Tryz.prog 50=true:=by kernel_rfl
theorem hb_51:hasBody Tryz.prog 51=true:=by kernel_rfl
theorem hb_52:hasBody Tryz.prog 52=true:=by kernel_rfl
theorem hb_57:hasBody Tryz.prog 57=true:=by kernel_rfl
theorem hb_60:hasBody Tryz.prog 60=true:=by kernel_rfl
theorem hb_69:hasBody Tryz.prog 69=true:=by kernel_rfl
theorem hb_77:hasBody Tryz.prog 77=true:=by kernel_rfl
theorem hb_78:hasBody Tryz.prog 78=true:=by kernel_rfl
theorem hb_79:hasBody Tryz.prog 79=true:=by kernel_rfl
theorem hb_80:hasBody Tryz.prog 80=true:=by kernel_rfl
theorem hb_81:hasBody Tryz.prog 81=true:=by kernel_rfl
theorem hb_82:hasBody Tryz.prog 82=true:=by kernel_rfl
theorem hb_83:hasBody Tryz.prog 83=true:=by kernel_rfl
theorem hb_84:hasBody Tryz.prog 84=true:=by kernel_rfl
theorem hb_85:hasBody Tryz.prog 85=true:=by kernel_rfl
theorem hb_86:hasBody Tryz.prog 86=true:=by kernel_rfl
theorem hb_94:hasBody Tryz.prog 94=true:=by kernel_rfl
theorem hb_95:hasBody Tryz.prog 95=true:=by kernel_rfl
theorem hb_96:hasBody Tryz.prog 96=true:=by kernel_rfl
theorem hb_97:hasBody Tryz.prog 97=true:=by kernel_rfl
theorem hb_99:hasBody Tryz.prog 99=true:=by kernel_rfl
theorem hb_98:hasBody Tryz.prog 98=true:=by kernel_rfl
theorem hb_100:hasBody Tryz.prog 100=true:=by kernel_rfl
theorem hb_101:hasBody Tryz.prog 101=true:=by kernel_rfl
theorem hb_102:hasBody Tryz.prog 102=true:=by kernel_rfl
theorem hb_103:hasBody Tryz.prog 103=true:=by kernel_rfl
theorem hb_104:hasBody Tryz.prog 104=true:=by kernel_rfl
theorem hb_105:hasBody Tryz.prog 105=true:=by kernel_rfl
theorem hb_106:hasBody Tryz.prog 106=true:=by kernel_rfl
theorem hb_107:hasBody Tryz.prog 107=true:=by kernel_rfl
theorem hb_108:hasBody Tryz.prog 108=true:=by kernel_rfl
theorem hb_115:hasBody Tryz.prog 115=true:=by kernel_rfl
theorem hb_117:hasBody Tryz.prog 117=true:=by kernel_rfl
theorem hb_129:hasBody Tryz.prog 129=true:=by kernel_rfl
theorem hb_130:hasBody Tryz.prog 130=true:=by kernel_rfl
theorem hb_131:hasBody Tryz.prog 131=true:=by kernel_rfl
theorem hb_135:hasBody Tryz.prog 135=true:=by kernel_rfl
theorem hb_136:hasBody Tryz.prog 136=true:=by kernel_rfl
theorem hb_137:hasBody Tryz.prog 137=true:=by kernel_rfl
theorem hb_138:hasBody Tryz.prog 138=true:=by kernel_rfl
theorem hb_140:hasBody Tryz.prog 140=true:=by kernel_rfl
theorem hb_141:hasBody Tryz.prog 141=true:=by kernel_rfl
theorem hb_142:hasBody Tryz.prog 142=true:=by kernel_rfl
theorem hb_143:hasBody Tryz.prog 143=true:=by kernel_rfl
theorem hb_144:hasBody Tryz.prog 144=true:=by kernel_rfl
theorem hb_145:hasBody Tryz.prog 145=true:=by kernel_rfl
theorem hb_146:hasBody Tryz.prog 146=true:=by kernel_rfl
theorem hb_151:hasBody Tryz.prog 151=true:=by kernel_rfl
theorem hb_152:hasBody Tryz.prog 152=true:=by kernel_rfl
theorem hb_158:hasBody Tryz.prog 158=true:=by kernel_rfl
theorem hb_159:hasBody Tryz.prog 159=true:=by kernel_rfl
theorem hb_160:hasBody Tryz.prog 160=true:=by kernel_rfl
theorem hb_161:hasBody Tryz.prog 161=true:=by kernel_rfl
theorem hb_162:hasBody Tryz.prog 162=true:=by kernel_rfl
theorem hb_163:hasBody Tryz.prog 163=true:=by kernel_rfl
theorem hb_164:hasBody Tryz.prog 164=true:=by kernel_rfl
theorem hb_165:hasBody Tryz.prog 165=true:=by kernel_rfl
theorem hb_166:hasBody Tryz.prog 166=true:=by kernel_rfl
theorem hb_167:hasBody Tryz.prog 167=true:=by kernel_rfl
theorem hb_172:hasBody Tryz.prog 172=true:=by kernel_rfl
theorem hb_173:hasBody Tryz.prog 173=true:=by kernel_rfl
theorem hb_174:hasBody Tryz.prog 174=true:=by kernel_rfl
theorem hb_175:hasBody Tryz.prog 175=true:=by kernel_rfl
theorem hb_176:hasBody Tryz.prog 176=true:=by kernel_rfl
theorem hb_177:hasBody Tryz.prog 177=true:=by kernel_rfl
theorem hb_178:hasBody Tryz.prog 178=true:=by kernel_rfl
theorem hb_186:hasBody Tryz.prog 186=true:=by kernel_rfl
theorem hb_187:hasBody Tryz.prog 187=true:=by kernel_rfl
theorem hb_191:hasBody Tryz.prog 191=true:=by kernel_rfl
theorem hb_189:hasBody Tryz.prog 189=true:=by kernel_rfl
theorem hb_201:hasBody Tryz.prog 201=true:=by kernel_rfl
theorem hb_3:hasBody Tryz.prog 3=true:=by kernel_rfl
theorem hb_139:hasBody Tryz.prog 139=true:=by kernel_rfl
theorem hb_188:hasBody Tryz.prog 188=true:=by kernel_rfl
theorem hb_192:hasBody Tryz.prog 192=true:=by kernel_rfl
set_option maxRecDepth 20000
theorem all0{p:Program}(h:p=Tryz.prog):szT p 28=some 7∧aggB p 28=true∧zeroT p 33=some [.int .i64 0,.int .i64 0,.int .i64 0,.int .i64 0,.string ⟨#[]⟩,.slice none 0 0]∧szT p 33=some 6∧aggB p 33=true∧kT p 33=8∧fieldsT p 33=some [(0,1),(1,1),(2,1),(3,1),(4,1),(5,1)]∧kT p 35=7∧kT p 3=2∧zeroT p 28=some [.string ⟨#[]⟩,.slice none 0 0,.slice none 0 0,.slice none 0 0,.slice none 0 0,.slice none 0 0,.slice none 0 0]∧fldT p 28 0=some (0,1,false)∧szT p 9=some 1∧aggB p 9=false∧kT p 9=3∧kT p 60=5∧elT p 31=some (6,72)∧elZ p 31=some [.int .i64 0,.int .i64 0,.int .i64 0,.int .i64 0,.string ⟨#[]⟩,.slice none 0 0]∧elT p 60=some (7,152)∧fldT p 68 0=some (0,1,false)∧szT p 22=some 1∧aggB p 22=false∧kT p 22=5∧elT p 22=some (2,32)∧elZ p 22=some [.string ⟨#[]⟩,.string ⟨#[]⟩]∧fldT p 68 1=some (1,6,true)∧szT p 67=some 6∧aggB p 67=true∧elT p 63=some (6,128)∧elZ p 63=some [.string ⟨#[]⟩,.string ⟨#[]⟩,.slice none 0 0,.slice none 0 0,.slice none 0 0,.slice none 0 0]∧kT p 63=5∧kT p 67=8∧zeroT p 67=some [.string ⟨#[]⟩,.string ⟨#[]⟩,.slice none 0 0,.slice none 0 0,.slice none 0 0,.slice none 0 0]∧fieldsT p 67=some [(0,1),(1,1),(2,1),(3,1),(4,1),(5,1)]∧elT p 64=some (1,16)∧elZ p 64=some [.string ⟨#[]⟩]∧kT p 77=8∧zeroT p 77=some [.int .i64 0,.slice none 0 0,.string ⟨#[]⟩,.string ⟨#[]⟩,.slice none 0 0,.slice none 0 0,.slice none 0 0,.slice none 0 0,.string ⟨#[]⟩,.slice none 0 0,.string ⟨#[]⟩,.string ⟨#[]⟩,.int .i64 0,.slice none 0 0,.slice none 0 0]∧fieldsT p 77=some [(0,1),(1,1),(2,6),(8,1),(9,1),(10,5)]∧szT p 77=some 15∧aggB p 77=true∧fldT p 77 2=some (2,6,true)∧elT p 43=some (15,288)∧elZ p 43=some [.int .i64 0,.slice none 0 0,.string ⟨#[]⟩,.string ⟨#[]⟩,.slice none 0 0,.slice none 0 0,.slice none 0 0,.slice none 0 0,.string ⟨#[]⟩,.slice none 0 0,.string ⟨#[]⟩,.string ⟨#[]⟩,.int .i64 0,.slice none 0 0,.slice none 0 0]∧fldT p 33 5=some (5,1,false)∧szT p 31=some 1∧aggB p 31=false∧kT p 31=5∧fldT p 28 1=some (1,1,false)∧fldT p 28 2=some (2,1,false)∧fldT p 28 3=some (3,1,false)∧szT p 23=some 1∧aggB p 23=false∧kT p 23=5∧fldT p 28 4=some (4,1,false)∧szT p 24=some 1∧aggB p 24=false∧kT p 24=5∧fldT p 28 5=some (5,1,false)∧szT p 25=some 1∧aggB p 25=false∧kT p 25=5∧elT p 25=some (10,200)∧fldT p 83 3=some (3,6,true)∧fldT p 83 4=some (9,1,false)∧szT p 43=some 1∧aggB p 43=false∧fldT p 28 6=some (6,1,false)∧szT p 26=some 1∧aggB p 26=false∧kT p 26=5∧elT p 26=some (23,480)∧szT p 85=some 23∧aggB p 85=true∧zeroT p 85=some [.string ⟨#[]⟩,.slice none 0 0,.int .i64 0,.string ⟨#[]⟩,.string ⟨#[]⟩,.slice none 0 0,.slice none 0 0,.slice none 0 0,.slice none 0 0,.string ⟨#[]⟩,.string ⟨#[]⟩,.slice none 0 0,.slice none 0 0,.slice none 0 0,.slice none 0 0,.string ⟨#[]⟩,.string ⟨#[]⟩,.slice none 0 0,.slice none 0 0,.slice none 0 0,.slice none 0 0,.slice none 0 0,.slice none 0 0]∧fldT p 85 3=some (3,6,true)∧fldT p 85 4=some (9,6,true)∧fldT p 85 5=some (15,6,true)∧fldT p 85 6=some (21,1,false)∧fldT p 85 7=some (22,1,false)∧fldT p 83 2=some (2,1,false)∧szT p 3=some 1∧aggB p 3=false∧kT p 43=5∧fldT p 77 0=some (0,1,false)∧kT p 89=8∧zeroT p 89=some [.bool false]∧fieldsT p 89=some [(0,1)]∧elT p 23=some (2,40)∧szT p 94=some 2∧aggB p 94=true∧zeroT p 94=some [.string ⟨#[]⟩,.slice none 0 0]∧fldT p 94 0=some (0,1,false)∧fldT p 94 1=some (1,1,false)∧elT p 24=some (4,56)∧szT p 96=some 4∧aggB p 96=true∧zeroT p 96=some [.string ⟨#[]⟩,.slice none 0 0,.int .i64 0,.int .i64 0]∧fldT p 96 0=some (0,1,false)∧fldT p 96 1=some (1,1,false)∧fldT p 96 2=some (2,1,false)∧fldT p 96 3=some (3,1,false)∧szT p 83=some 10∧aggB p 83=true∧zeroT p 83=some [.string ⟨#[]⟩,.slice none 0 0,.int .i64 0,.string ⟨#[]⟩,.string ⟨#[]⟩,.slice none 0 0,.slice none 0 0,.slice none 0 0,.slice none 0 0,.slice none 0 0]∧fldT p 89 0=some (0,1,false)∧szT p 4=some 1∧aggB p 4=false∧kT p 42=2∧fldT p 33 0=some (0,1,false)∧fldT p 33 1=some (1,1,false)∧fldT p 33 4=some (4,1,false)∧fldT p 33 2=some (2,1,false)∧fldT p 33 3=some (3,1,false)∧fldT p 77 1=some (1,1,false)∧fldT p 77 4=some (9,1,false)∧szT p 64=some 1∧aggB p 64=false∧kT p 64=5∧fldT p 77 5=some (10,5,true)∧szT p 75=some 5∧aggB p 75=true∧kT p 103=8∧zeroT p 103=some [.slice none 0 0,.slice none 0 0]∧fieldsT p 103=some [(0,1),(1,1)]∧fldT p 77 3=some (8,1,false)∧kT p 28=8∧fieldsT p 28=some [(0,1),(1,1),(2,1),(3,1),(4,1),(5,1),(6,1)]∧mapT p 110=some (3,(.bool false))∧kT p 5=2∧zvT p 42=some (.int .i64 0)∧fldT p 123 0=some (0,1,false)∧fldT p 123 1=some (1,1,false)∧fldT p 67 4=some (4,1,false)∧szT p 65=some 1∧aggB p 65=false∧kT p 65=5∧elT p 65=some (5,88)∧fldT p 67 5=some (5,1,false)∧szT p 63=some 1∧aggB p 63=false∧fldT p 67 0=some (0,1,false)∧fldT p 67 1=some (1,1,false)∧fldT p 67 2=some (2,1,false)∧fldT p 67 3=some (3,1,false)∧zeroT p 50=some [.nilFunc]∧szT p 50=some 1∧aggB p 50=false∧szT p 123=some 2∧aggB p 123=true∧zeroT p 123=some [.string ⟨#[]⟩,.string ⟨#[]⟩]∧fldT p 83 0=some (0,1,false)∧fldT p 83 1=some (1,1,false)∧fldT p 85 0=some (0,1,false)∧fldT p 85 1=some (1,1,false)∧fldT p 85 2=some (2,1,false)∧zeroT p 3=some [.int .i64 0]∧fldT p 75 4=some (4,1,false)∧kT p 75=8∧zeroT p 75=some [.string ⟨#[]⟩,.string ⟨#[]⟩,.int .i64 0,.slice none 0 0,.slice none 0 0]∧fieldsT p 75=some [(0,1),(1,1),(2,1),(3,1),(4,1)]∧szT p 103=some 2∧aggB p 103=true∧kT p 123=8∧strsT p 123=some 2∧fldT p 75 0=some (0,1,false)∧fldT p 75 1=some (1,1,false)∧fldT p 75 2=some (2,1,false)∧fldT p 75 3=some (3,1,false)∧elZ p 23=some [.string ⟨#[]⟩,.slice none 0 0]∧elZ p 24=some [.string ⟨#[]⟩,.slice none 0 0,.int .i64 0,.int .i64 0]∧elZ p 25=some [.string ⟨#[]⟩,.slice none 0 0,.int .i64 0,.string ⟨#[]⟩,.string ⟨#[]⟩,.slice none 0 0,.slice none 0 0,.slice none 0 0,.slice none 0 0,.slice none 0 0]∧elZ p 26=some [.string ⟨#[]⟩,.slice none 0 0,.int .i64 0,.string ⟨#[]⟩,.string ⟨#[]⟩,.slice none 0 0,.slice none 0 0,.slice none 0 0,.slice none 0 0,.string ⟨#[]⟩,.string ⟨#[]⟩,.slice none 0 0,.slice none 0 0,.slice none 0 0,.slice none 0 0,.string ⟨#[]⟩,.string ⟨#[]⟩,.slice none 0 0,.slice none 0 0,.slice none 0 0,.slice none 0 0,.slice none 0 0,.slice none 0 0]∧kT p 94=8∧fieldsT p 94=some [(0,1),(1,1)]∧kT p 96=8∧fieldsT p 96=some [(0,1),(1,1),(2,1),(3,1)]∧zeroT p 172=some [.string ⟨#[]⟩,.slice none 0 0,.int .i64 0,.slice none 0 0,.slice none 0 0]∧szT p 172=some 5∧aggB p 172=true∧fldT p 172 0=some (0,1,false)∧fldT p 172 1=some (1,1,false)∧fldT p 172 2=some (2,1,false)∧fldT p 172 3=some (3,1,false)∧fldT p 172 4=some (4,1,false)∧szT p 170=some 1∧aggB p 170=false∧kT p 170=5∧elT p 170=some (1,24)∧kT p 83=8∧fieldsT p 83=some [(0,1),(1,1),(2,1),(3,6),(9,1)]∧kT p 85=8∧fieldsT p 85=some [(0,1),(1,1),(2,1),(3,6),(9,6),(15,6),(21,1),(22,1)]∧fldT p 103 1=some (1,1,false)∧fldT p 103 0=some (0,1,false)∧fieldsT p 123=some [(0,1),(1,1)]∧elZ p 170=some [.slice none 0 0]∧kT p 172=8∧fieldsT p 172=some [(0,1),(1,1),(2,1),(3,1),(4,1)]∧intT p 9=none∧intT p 201=none∧kT p 201=5∧u8T p 201=true∧elT p 201=some (1,1)∧szT p 5=some 1∧aggB p 5=false∧elZ p 65=some [.string ⟨#[]⟩,.string ⟨#[]⟩,.int .i64 0,.slice none 0 0,.slice none 0 0]∧kT p 211=8∧zeroT p 211=some [.int .i64 0]∧fieldsT p 211=some [(0,1)]∧kT p 222=8∧zeroT p 222=some [.slice none 0 0,.slice none 0 0]∧fieldsT p 222=some [(0,1),(1,1)]∧szT p 222=some 2∧aggB p 222=true∧fldT p 211 0=some (0,1,false)∧fldT p 222 1=some (1,1,false)∧fldT p 222 0=some (0,1,false):=by
 subst h
 (repeat' apply And.intro)<;>kernel_rfl
theorem all:type_of% (all0 rfl):=all0 rfl
theorem w:type_of% (And.intro @w0 @all):=And.intro @w0 @all
end Ty
section
variable {P:Program}{ow:Nat→Bool}{wf:FuncId→Bool}{n:Nat}{Q:Post}{s:Slots}{h:Heap}{f q:Prop}
theorem zI:Nonempty Unit:=⟨()⟩
theorem yT:(!true)=false:=rfl
theorem yF:(!false)=true:=rfl
variable {a1 a2 a3 a4 a5 a6 a7 a8 a9 a10 a11 a12:Prop}
theorem uu(x1:a1)(x2:a2):a1∧a2:=⟨x1,x2⟩
theorem uu3(x1:a1)(x2:a2)(x3:a3):a1∧a2∧a3:=⟨x1,x2,x3⟩
theorem uu4(x1:a1)(x2:a2)(x3:a3)(x4:a4):a1∧a2∧a3∧a4:=⟨x1,x2,x3,x4⟩
theorem uu5(x1:a1)(x2:a2)(x3:a3)(x4:a4)(x5:a5):a1∧a2∧a3∧a4∧a5:=⟨x1,x2,x3,x4,x5⟩
theorem uu6(x1:a1)(x2:a2)(x3:a3)(x4:a4)(x5:a5)(x6:a6):a1∧a2∧a3∧a4∧a5∧a6:=⟨x1,x2,x3,x4,x5,x6⟩
theorem uu7(x1:a1)(x2:a2)(x3:a3)(x4:a4)(x5:a5)(x6:a6)(x7:a7):a1∧a2∧a3∧a4∧a5∧a6∧a7:=⟨x1,x2,x3,x4,x5,x6,x7⟩
theorem uu8(x1:a1)(x2:a2)(x3:a3)(x4:a4)(x5:a5)(x6:a6)(x7:a7)(x8:a8):a1∧a2∧a3∧a4∧a5∧a6∧a7∧a8:=⟨x1,x2,x3,x4,x5,x6,x7,x8⟩
theorem uu9(x1:a1)(x2:a2)(x3:a3)(x4:a4)(x5:a5)(x6:a6)(x7:a7)(x8:a8)(x9:a9):a1∧a2∧a3∧a4∧a5∧a6∧a7∧a8∧a9:=⟨x1,x2,x3,x4,x5,x6,x7,x8,x9⟩
theorem uu10(x1:a1)(x2:a2)(x3:a3)(x4:a4)(x5:a5)(x6:a6)(x7:a7)(x8:a8)(x9:a9)(x10:a10):a1∧a2∧a3∧a4∧a5∧a6∧a7∧a8∧a9∧a10:=⟨x1,x2,x3,x4,x5,x6,x7,x8,x9,x10⟩
theorem uu11(x1:a1)(x2:a2)(x3:a3)(x4:a4)(x5:a5)(x6:a6)(x7:a7)(x8:a8)(x9:a9)(x10:a10)(x11:a11):a1∧a2∧a3∧a4∧a5∧a6∧a7∧a8∧a9∧a10∧a11:=⟨x1,x2,x3,x4,x5,x6,x7,x8,x9,x10,x11⟩
theorem uu12(x1:a1)(x2:a2)(x3:a3)(x4:a4)(x5:a5)(x6:a6)(x7:a7)(x8:a8)(x9:a9)(x10:a10)(x11:a11)(x12:a12):a1∧a2∧a3∧a4∧a5∧a6∧a7∧a8∧a9∧a10∧a11∧a12:=⟨x1,x2,x3,x4,x5,x6,x7,x8,x9,x10,x11,x12⟩
theorem uR{id:Nat}{ops:List Oper}{K:Slots→Heap→Prop}(W:f)(k:q)(e:f→q→lwn P ow n ops ops K s h:=by(first|(intro W k;simp(maxSteps:=2000000) only[Ty.w,simprocAttr,Option.getD_some,Option.getD_none,List.nil_append,Option.map_some,W];exact k)|(refine fun W (_:Nonempty Unit)=>?_;simp(maxSteps:=2000000) only[Ty.w,simprocAttr,Option.getD_some,Option.getD_none,List.nil_append,Option.map_some,W]))):awp P ow wf n (.region id ops.toArray false) (Post.seq K Q) s h:=a_regionS (e W k)
theorem uQ{id:Nat}{ops:List Oper}{q:(Slots→Heap→Prop)→Prop}(W:f)(k: ∀ K:Slots→Heap→Prop,(∀ s h,Q .normal s h→K s h)→q K)(e: ∀ K:Slots→Heap→Prop,f→q K→lwn P ow n ops ops K s h:=by(intro K;first|(intro W k;simp(maxSteps:=2000000) only[Ty.w,simprocAttr,Option.getD_some,Option.getD_none,List.nil_append,Option.map_some,W];exact k)|(refine fun W (_:Nonempty Unit)=>?_;simp(maxSteps:=2000000) only[Ty.w,simprocAttr,Option.getD_some,Option.getD_none,List.nil_append,Option.map_some,W]))):awp P ow wf n (.region id ops.toArray false) Q s h:=a_region fun K hK=>e K W (k K hK)
theorem uD{id:Nat}{ops:List Oper}{K:Slots→Heap→Prop}(W:f)(k:q)(hd:dOk ow wf ops=true:=by decide+kernel)(e:f→q→drn P ow wf n ops 0 ops [] [] K s h:=by(first|(intro W k;simp(maxSteps:=2000000) only[Ty.w,simprocAttr,Option.getD_some,Option.getD_none,List.nil_append,Option.map_some,W];exact k)|(refine fun W (_:Nonempty Unit)=>?_;simp(maxSteps:=2000000) only[Ty.w,simprocAttr,Option.getD_some,Option.getD_none,List.nil_append,Option.map_some,W]))):awp P ow wf n (.region id ops.toArray true) (Post.seq K Q) s h:=a_drawS hd (e W k)
theorem uE{id:Nat}{ops:List Oper}{q:(Slots→Heap→Prop)→Prop}(W:f)(k: ∀ K:Slots→Heap→Prop,(∀ s h,Q .normal s h→K s h)→q K)(hd:dOk ow wf ops=true:=by decide+kernel)(e: ∀ K:Slots→Heap→Prop,f→q K→drn P ow wf n ops 0 ops [] [] K s h:=by(intro K;first|(intro W k;simp(maxSteps:=2000000) only[Ty.w,simprocAttr,Option.getD_some,Option.getD_none,List.nil_append,Option.map_some,W];exact k)|(refine fun W (_:Nonempty Unit)=>?_;simp(maxSteps:=2000000) only[Ty.w,simprocAttr,Option.getD_some,Option.getD_none,List.nil_append,Option.map_some,W]))):awp P ow wf n (.region id ops.toArray true) Q s h:=a_draw hd fun K hK=>e K W (k K hK)
theorem uT(W:f)(k:q)(e:f→q→Q .ret s h:=by(first|(intro W k;simp(maxSteps:=2000000) only[Ty.w,simprocAttr,Option.getD_some,Option.getD_none,List.nil_append,Option.map_some,W];exact k)|(refine fun W (_:Nonempty Unit)=>?_;simp(maxSteps:=2000000) only[Ty.w,simprocAttr,Option.getD_some,Option.getD_none,List.nil_append,Option.map_some,W]))):awp P ow wf n .ret Q s h:=a_ret (e W k)
theorem uK(k:q)(e:q→Q .normal s h:=by(first|(intro k;(try simp only[pst0,simprocAttr]);exact k)|(refine fun(_:Nonempty Unit)=>?_;simp only[pst0,simprocAttr]))):awp P ow wf n .skip Q s h:=a_skip (e k)
theorem uX{id:Nat}(k:q)(e:q→Q (.exit id) s h:=by(first|(intro k;(try simp only[pst0,simprocAttr]);exact k)|(refine fun(_:Nonempty Unit)=>?_;simp only[pst0,simprocAttr]))):awp P ow wf n (.exit id) Q s h:=a_exit (e k)
theorem uN{K R:Slots→Heap→Prop}(hK: ∀ s h,R s h→K s h)(k:q)(e:q→R s h:=by(first|(intro k;(try simp only[pst0,simprocAttr]);exact k)|(refine fun(_:Nonempty Unit)=>?_;simp only[pst0,simprocAttr]))):K s h:=hK _ _ (e k)
theorem uC{c:Operand}{x y:Code}{b:Bool}(W:f)(h1:b=true→awp P ow wf n x Q s h)(h2:b=false→awp P ow wf n y Q s h)(e:f→pev s c= .sc (.bool b):=by(intro W;(try simp(maxSteps:=2000000) only[Ty.w,simprocAttr,Option.getD_some,Option.getD_none,List.nil_append,Option.map_some,W]);rfl)):awp P ow wf n (.cond c x y) Q s h:=a_cond b (e W) h1 h2
theorem uC1{c:Operand}{x y:Code}{b:Bool}(W:f)(k:q)(e:f→pev s c= .sc (.bool b):=by(intro W;(try simp(maxSteps:=2000000) only[Ty.w,simprocAttr,Option.getD_some,Option.getD_none,List.nil_append,Option.map_some,W]);rfl))(e2:q→awp P ow wf n (bif b then x else y) Q s h:=by(intro k;(first|rw[cond_true]|rw[cond_false]);exact k)):awp P ow wf n (.cond c x y) Q s h:=a_cond b (e W) (fun hb=>by have:=e2 k;rw[hb,cond_true]at this;exact this) (fun hb=>by have:=e2 k;rw[hb,cond_false]at this;exact this)
theorem uP{α:Type}{A:Nat × α→Prop}{ops:List Oper}{kk:Nat}{R:Prop}{l:List (Nat × α)}{is:List Nat}(W:f)(k:q)(h1:l.map (·.1)=is:=by rfl)(h2:is.all (fun i=>pre ops i kk)=true:=by decide+kernel)(e:f→q→R:=by(first|(intro W k;(try simp(maxSteps:=2000000) only[Ty.w,simprocAttr,Option.getD_some,Option.getD_none,List.nil_append,Option.map_some,W]);exact k)|(refine fun W (_:Nonempty Unit)=>?_;simp(maxSteps:=2000000) only[Ty.w,simprocAttr,Option.getD_some,Option.getD_none,List.nil_append,Option.map_some,W]))):(∀ x∈l,pre ops x.1 kk=true∨A x)∧R:=a_past is h1 h2 (e W k)
theorem uB{α:Type}{A:Nat × α→Prop}{ops:List Oper}{kk:Nat}{R:Prop}{l:List (Nat × α)}(W:f)(k:q)(h1:f→ ∀ x∈l,pre ops x.1 kk=true∨A x:=by(intro W;simp only[List.forall_mem_cons,Ty.w,simprocAttr,W]<;>(repeat' apply And.intro)<;>first|exact .inl (by decide+kernel)|exact True.intro))(e:f→q→R:=by(first|(intro W k;(try simp(maxSteps:=2000000) only[Ty.w,simprocAttr,Option.getD_some,Option.getD_none,List.nil_append,Option.map_some,W]);exact k)|(refine fun W (_:Nonempty Unit)=>?_;simp(maxSteps:=2000000) only[Ty.w,simprocAttr,Option.getD_some,Option.getD_none,List.nil_append,Option.map_some,W]))):(∀ x∈l,pre ops x.1 kk=true∨A x)∧R:=a_past2 (h1 W) (e W k)
theorem uU{fn:FuncId}{dst:Option Tmp}{args:List Operand}{ts:Array TypeId}{ty:TypeId}{pos:String}{af:Array Edge}{gd:Option (Nat × Bool)}{ag:List PV}{v:PV}{K:Slots→Heap→Prop}{ops rest:List Oper}(W:f)(hc:PCall P fn ag h fun r h'=>r=v∧h'=h)(k:q)(ha:f→args.map (pev s)=ag:=by(intro W;(try simp only[Ty.w,simprocAttr,W]);try rfl))(e:f→q→lwn P ow n ops rest K (updO s dst v) h:=by(first|(intro W k;simp(maxSteps:=2000000) only[Ty.w,simprocAttr,Option.getD_some,Option.getD_none,List.nil_append,Option.map_some,W];exact k)|(refine fun W (_:Nonempty Unit)=>?_;simp(maxSteps:=2000000) only[Ty.w,simprocAttr,Option.getD_some,Option.getD_none,List.nil_append,Option.map_some,W]))):
  owp P ow {dst:=dst,op:= .call {callee:= .value (.func fn),args:=args.toArray,argTypes:=ts},type:=ty,pos:=pos,after:=af,guard:=gd} (lwp P ow n ops rest K) s h:=owp_useQ hc (ha W) (e W k)
theorem uV{fn:FuncId}{d:Nat}{args:List Operand}{ts:Array TypeId}{ty:TypeId}{pos:String}{af:Array Edge}{gd:Option (Nat × Bool)}{ag:List PV}{v:PV}{ops rest:List Oper}{kk k':Nat}{past:Past}{hist:List (Nat × Heap)}{K:Slots→Heap→Prop}(W:f)(hc:PCall P fn ag h fun r h'=>r=v∧h'=h)(k:q)(ha:f→args.map (pev s)=ag:=by(intro W;(try simp only[Ty.w,simprocAttr,W]);try rfl))
  (e:f→q→drn P ow wf n ops kk rest ((k',{dst:=some d,op:= .call {callee:= .value (.func fn),args:=args.toArray,argTypes:=ts},type:=ty,pos:=pos,after:=af,guard:=gd},s,v)::past) hist K (upd s d v) h:=by(first|(intro W k;simp(maxSteps:=2000000) only[Ty.w,simprocAttr,Option.getD_some,Option.getD_none,List.nil_append,Option.map_some,W];exact k)|(refine fun W (_:Nonempty Unit)=>?_;simp(maxSteps:=2000000) only[Ty.w,simprocAttr,Option.getD_some,Option.getD_none,List.nil_append,Option.map_some,W]))):
  ∃ v,Does P ow {dst:=some d,op:= .call {callee:= .value (.func fn),args:=args.toArray,argTypes:=ts},type:=ty,pos:=pos,after:=af,guard:=gd} (pev s) h v h∧
   drun P ow wf n ops kk rest (pastC P ow ((k',{dst:=some d,op:= .call {callee:= .value (.func fn),args:=args.toArray,argTypes:=ts},type:=ty,pos:=pos,after:=af,guard:=gd},s,v)::past)) hist K (upd s d v) h:=a_dcall0 hc (ha W) (e W k)
theorem uA{fn:FuncId}{d:Nat}{args:List Operand}{ts:Array TypeId}{ty:TypeId}{pos:String}{af:Array Edge}{gd:Option (Nat × Bool)}{ag:List PV}{v:PV}{ops rest:List Oper}{kk k':Nat}{past:Past}{hist:List (Nat × Heap)}{K:Slots→Heap→Prop}{A:PV→Prop}(W:f)(hc:PCall P fn ag h fun r h'=>r=v∧h'=h)(k:q)(ha:f→args.map (pev s)=ag:=by(intro W;(try simp only[Ty.w,simprocAttr,W]);try rfl))(hA:f→A v:=by(intro W;simp only[Ty.w,simprocAttr,W];try trivial))
  (e:f→q→drn P ow wf n ops kk rest ((k',{dst:=some d,op:= .call {callee:= .value (.func fn),args:=args.toArray,argTypes:=ts},type:=ty,pos:=pos,after:=af,guard:=gd},s,v)::past) hist K (upd s d v) h:=by(first|(intro W k;simp(maxSteps:=2000000) only[Ty.w,simprocAttr,Option.getD_some,Option.getD_none,List.nil_append,Option.map_some,W];exact k)|(refine fun W (_:Nonempty Unit)=>?_;simp(maxSteps:=2000000) only[Ty.w,simprocAttr,Option.getD_some,Option.getD_none,List.nil_append,Option.map_some,W]))):
  ∃ v,Does P ow {dst:=some d,op:= .call {callee:= .value (.func fn),args:=args.toArray,argTypes:=ts},type:=ty,pos:=pos,after:=af,guard:=gd} (pev s) h v h∧A v∧
   drun P ow wf n ops kk rest (pastC P ow ((k',{dst:=some d,op:= .call {callee:= .value (.func fn),args:=args.toArray,argTypes:=ts},type:=ty,pos:=pos,after:=af,guard:=gd},s,v)::past)) hist K (upd s d v) h:=a_dcallA hc (ha W) (hA W) (e W k)
theorem uZ{fn:FuncId}{d:Nat}{args:List Operand}{ts:Array TypeId}{ty:TypeId}{pos:String}{af:Array Edge}{gd:Option (Nat × Bool)}{ag:List PV}{v:PV}{h1:Heap}{ops rest:List Oper}{kk:Nat}{past:Past}{hist:List (Nat × Heap)}{K:Slots→Heap→Prop}{A:Heap→Prop}(W:f)(hc:PCall P fn ag h fun r h'=>r=v∧h'=h1)(k:q)(ha:f→args.map (pev s)=ag:=by(intro W;(try simp only[Ty.w,simprocAttr,W]);try rfl))(hA:f→A h1:=by(intro W;(try simp(maxSteps:=4000000) only[Ty.w,simprocAttr,pastC,List.map_cons,List.map_nil,List.forall_mem_cons,W])<;>((repeat' apply And.intro)<;>first|trivial|exact .inl (by decide+kernel)|exact .inr trivial|exact .inr (by simp(maxSteps:=2000000) only[Ty.w,simprocAttr,W])|exact(fun _ hx=>by cases hx))))
  (e:f→q→drn P ow wf n ops kk rest past hist K (upd s d v) h1:=by(first|(intro W k;simp(maxSteps:=2000000) only[Ty.w,simprocAttr,Option.getD_some,Option.getD_none,List.nil_append,Option.map_some,W];exact k)|(refine fun W (_:Nonempty Unit)=>?_;simp(maxSteps:=2000000) only[Ty.w,simprocAttr,Option.getD_some,Option.getD_none,List.nil_append,Option.map_some,W]))):
  ∃ v h',Does P ow {dst:=some d,op:= .call {callee:= .value (.func fn),args:=args.toArray,argTypes:=ts},type:=ty,pos:=pos,after:=af,guard:=gd} (pev s) h v h'∧A h'∧
   drun P ow wf n ops kk rest (pastC P ow past) hist K (upd s d v) h':=a_dcallW hc (ha W) (hA W) (e W k)
theorem uJ{fn:FuncId}{d:Nat}{args:List Operand}{ts:Array TypeId}{ty:TypeId}{pos:String}{af:Array Edge}{gd:Option (Nat × Bool)}{ag:List PV}{v:PV}{ops rest:List Oper}{kk k':Nat}{past:Past}{hist:List (Nat × Heap)}{K:Slots→Heap→Prop}{A:PV→Prop}(W:f)(hc: ∀ h,PCall P fn ag h fun r h'=>r=v∧h'=h)(k:q)(ha:f→args.map (pev s)=ag:=by(intro W;(try simp only[Ty.w,simprocAttr,W]);try rfl))(hA:f→args.map (pev s)=ag→A v:=by(intro W hh;(try simp(maxSteps:=4000000) only[List.map_cons,List.map_nil,List.forall_mem_cons,W])<;>((repeat' apply And.intro)<;>first|trivial|exact .inl (by decide+kernel)|exact .inr trivial|exact .inr (Does_use (hc _) hh)|exact(fun _ hx=>by cases hx))))
  (e:f→q→drn P ow wf n ops kk rest ((k',{dst:=some d,op:= .call {callee:= .value (.func fn),args:=args.toArray,argTypes:=ts},type:=ty,pos:=pos,after:=af,guard:=gd},s,v)::past) hist K (upd s d v) h:=by(first|(intro W k;simp(maxSteps:=2000000) only[Ty.w,simprocAttr,Option.getD_some,Option.getD_none,List.nil_append,Option.map_some,W];exact k)|(refine fun W (_:Nonempty Unit)=>?_;simp(maxSteps:=2000000) only[Ty.w,simprocAttr,Option.getD_some,Option.getD_none,List.nil_append,Option.map_some,W]))):
  ∃ v,Does P ow {dst:=some d,op:= .call {callee:= .value (.func fn),args:=args.toArray,argTypes:=ts},type:=ty,pos:=pos,after:=af,guard:=gd} (pev s) h v h∧A v∧
   drun P ow wf n ops kk rest (pastC P ow ((k',{dst:=some d,op:= .call {callee:= .value (.func fn),args:=args.toArray,argTypes:=ts},type:=ty,pos:=pos,after:=af,guard:=gd},s,v)::past)) hist K (upd s d v) h:=a_dcallA (hc h) (ha W) (hA W (ha W)) (e W k)
theorem uJ1{fn:FuncId}{d:Nat}{args:List Operand}{ts:Array TypeId}{ty:TypeId}{pos:String}{af:Array Edge}{gd:Option (Nat × Bool)}{ag:List PV}{v:PV}{ops rest:List Oper}{kk k':Nat}{past:Past}{hist:List (Nat × Heap)}{K:Slots→Heap→Prop}{A:PV→Prop}(W:f)(hc:PCall P fn ag h fun r h'=>r=v∧h'=h)(k:q)(ha:f→args.map (pev s)=ag:=by(intro W;(try simp only[Ty.w,simprocAttr,W]);try rfl))(hA:f→A v:=by(intro W;(try simp(maxSteps:=4000000) only[List.map_cons,List.map_nil,List.forall_mem_cons,W])<;>((repeat' apply And.intro)<;>first|trivial|exact .inl (by decide+kernel)|exact .inr trivial|exact(fun _ hx=>by cases hx))))
  (e:f→q→drn P ow wf n ops kk rest ((k',{dst:=some d,op:= .call {callee:= .value (.func fn),args:=args.toArray,argTypes:=ts},type:=ty,pos:=pos,after:=af,guard:=gd},s,v)::past) hist K (upd s d v) h:=by(first|(intro W k;simp(maxSteps:=2000000) only[Ty.w,simprocAttr,Option.getD_some,Option.getD_none,List.nil_append,Option.map_some,W];exact k)|(refine fun W (_:Nonempty Unit)=>?_;simp(maxSteps:=2000000) only[Ty.w,simprocAttr,Option.getD_some,Option.getD_none,List.nil_append,Option.map_some,W]))):
  ∃ v,Does P ow {dst:=some d,op:= .call {callee:= .value (.func fn),args:=args.toArray,argTypes:=ts},type:=ty,pos:=pos,after:=af,guard:=gd} (pev s) h v h∧A v∧
   drun P ow wf n ops kk rest (pastC P ow ((k',{dst:=some d,op:= .call {callee:= .value (.func fn),args:=args.toArray,argTypes:=ts},type:=ty,pos:=pos,after:=af,guard:=gd},s,v)::past)) hist K (upd s d v) h:=a_dcallA hc (ha W) (hA W) (e W k)
structure Tk(c:Code)(Q:Post):Type where
@[irreducible] def Kc (P:Program)(ow:Nat→Bool)(wf:FuncId→Bool)(n:Nat)(c:Code)(Q:Post)(_:Tk c Q)(s:Slots)(h:Heap):Prop:=awp P ow wf n c Q s h
structure Tq(Q:Post):Type where
@[irreducible] def Kn (Q:Post)(_:Tq Q)(s:Slots)(h:Heap):Prop:=Q .normal s h
structure Hd(p:Prop):Prop where
 out:p
structure It(n:Nat):Prop where
theorem sK{a b:Code}(k:awp P ow wf n a (Post.seq (Kc P ow wf n b Q ⟨⟩) Q) s h):awp P ow wf n (.seq a b) Q s h:=by
 simp only[awp];unfold Kc at k;exact k
theorem cK{b:Code}{t:Tk b Q}(k:awp P ow wf n b Q s h):Kc P ow wf n b Q t s h:=by
 unfold Kc;exact k
theorem nK{t:Tq Q}(k:q)(e:q→Q .normal s h:=by(first|(intro k;(try simp only[pst0,simprocAttr]);exact k)|(refine fun(_:Nonempty Unit)=>?_;simp only[pst0,simprocAttr]))):Kn Q t s h:=by
 unfold Kn;exact e k
theorem uq{id:Nat}{ops:List Oper}(W:f)(k:q)(e:f→q→lwn P ow n ops ops (Kn Q ⟨⟩) s h:=by(first|(intro W k;simp(maxSteps:=2000000) only[Ty.w,simprocAttr,Option.getD_some,Option.getD_none,List.nil_append,Option.map_some,W];exact k)|(refine fun W (_:Nonempty Unit)=>?_;simp(maxSteps:=2000000) only[Ty.w,simprocAttr,Option.getD_some,Option.getD_none,List.nil_append,Option.map_some,W]))):awp P ow wf n (.region id ops.toArray false) Q s h:=by
 simp only[awp,Bool.false_eq_true,if_false];have y:=e W k;unfold Kn at y;exact⟨_,_,.refl,lwn_lwp _ _ _ y⟩
theorem ue{id:Nat}{ops:List Oper}(W:f)(k:q)(hd:dOk ow wf ops=true:=by decide+kernel)(e:f→q→drn P ow wf n ops 0 ops [] [] (Kn Q ⟨⟩) s h:=by(first|(intro W k;simp(maxSteps:=2000000) only[Ty.w,simprocAttr,Option.getD_some,Option.getD_none,List.nil_append,Option.map_some,W];exact k)|(refine fun W (_:Nonempty Unit)=>?_;simp(maxSteps:=2000000) only[Ty.w,simprocAttr,Option.getD_some,Option.getD_none,List.nil_append,Option.map_some,W]))):awp P ow wf n (.region id ops.toArray true) Q s h:=by
 simp only[awp,if_true];have y:=e W k;unfold Kn at y;exact⟨_,_,.refl,.inl ⟨hd,drn_drun _ _ _ _ _ _ y⟩⟩
theorem yH{id i:Nat}{ops:Array Oper}{d:Bool}{x y:Code}(_:It i)(hh:Hd (awp P ow wf n (.seq (.seq (.region id ops d) x) y) Q s h))(e:id=i:=by rfl):awp P ow wf n (.seq (.seq (.region id ops d) x) y) Q s h:=hh.out
theorem yR{id i:Nat}{ops:Array Oper}{d:Bool}{y:Code}(_:It i)(hh:Hd (awp P ow wf n (.seq (.region id ops d) y) Q s h))(e:id=i:=by rfl):awp P ow wf n (.seq (.region id ops d) y) Q s h:=hh.out
theorem yB{id i:Nat}{ops:Array Oper}{d:Bool}(_:It i)(hh:Hd (awp P ow wf n (.region id ops d) Q s h))(e:id=i:=by rfl):awp P ow wf n (.region id ops d) Q s h:=hh.out
theorem wt{g:Prop}(W:f)(k:q)(e:f→q→g:=by(intro W k;(repeat'(first|refine cK ?_|refine nK ?_|refine sK ?_|refine a_block ?_|refine uR W ?_|refine uq W ?_|refine uT W ?_|refine uK ?_|refine uX ?_|refine uC1 W ?_|(refine uN hK ?_;clear hK)|(clear hK;refine uN hK ?_;clear hK)|(clear hK;clear hK;refine uN hK ?_;clear hK)|(clear hK;clear hK;clear hK;refine uN hK ?_;clear hK)|apply zI));exact k)):g:=e W k
theorem wm{g:Prop}(W:f)(k:q)(e:f→q→g:=by first|(intro W k;(repeat'(first|refine cK ?_|refine nK ?_|refine sK ?_|refine a_block ?_|refine uR W ?_|refine uq W ?_|refine uT W ?_|refine uK ?_|refine uX ?_|refine uC1 W ?_|(refine uN hK ?_;clear hK)|(clear hK;refine uN hK ?_;clear hK)|(clear hK;clear hK;refine uN hK ?_;clear hK)|(clear hK;clear hK;clear hK;refine uN hK ?_;clear hK)|apply zI));exact k)|(refine fun W (_:Nonempty Unit)=>?_;repeat'(first|refine cK ?_|refine nK ?_|refine sK ?_|refine a_block ?_|refine uR W ?_|refine uq W ?_|refine uT W ?_|refine uK ?_|refine uX ?_|refine uC1 W ?_|(refine uN hK ?_;clear hK)|(clear hK;refine uN hK ?_;clear hK)|(clear hK;clear hK;refine uN hK ?_;clear hK)|(clear hK;clear hK;clear hK;refine uN hK ?_;clear hK)|apply zI))):g:=e W k
theorem wz{g:Prop}(W:f)(e:f→g:=by(intro W;repeat'(first|refine cK ?_|refine nK ?_|refine sK ?_|refine a_block ?_|refine uR W ?_|refine uq W ?_|refine uT W ?_|refine uK ?_|refine uX ?_|refine uC1 W ?_|(refine uN hK ?_;clear hK)|(clear hK;refine uN hK ?_;clear hK)|(clear hK;clear hK;refine uN hK ?_;clear hK)|(clear hK;clear hK;clear hK;refine uN hK ?_;clear hK)|apply zI))):g:=e W
theorem wy{g:Prop}(W:f)(k:q)(e:f→q→g:=by(intro W k;(repeat'(first|refine cK ?_|refine nK ?_|refine sK ?_|refine a_block ?_|refine uR W ?_|refine uD W ?_|refine uq W ?_|refine ue W ?_|refine uT W ?_|refine uK ?_|refine uX ?_|refine uC1 W ?_|(refine uN hK ?_;clear hK)|(clear hK;refine uN hK ?_;clear hK)|(clear hK;clear hK;refine uN hK ?_;clear hK)|(clear hK;clear hK;clear hK;refine uN hK ?_;clear hK)|refine uP W ?_|refine uB W ?_|apply zI));exact k)):g:=e W k
theorem wo{g:Prop}(W:f)(k:q)(e:f→q→g:=by first|(intro W k;(repeat'(first|refine cK ?_|refine nK ?_|refine sK ?_|refine a_block ?_|refine uR W ?_|refine uD W ?_|refine uq W ?_|refine ue W ?_|refine uT W ?_|refine uK ?_|refine uX ?_|refine uC1 W ?_|(refine uN hK ?_;clear hK)|(clear hK;refine uN hK ?_;clear hK)|(clear hK;clear hK;refine uN hK ?_;clear hK)|(clear hK;clear hK;clear hK;refine uN hK ?_;clear hK)|refine uP W ?_|refine uB W ?_|apply zI));exact k)|(refine fun W (_:Nonempty Unit)=>?_;repeat'(first|refine cK ?_|refine nK ?_|refine sK ?_|refine a_block ?_|refine uR W ?_|refine uD W ?_|refine uq W ?_|refine ue W ?_|refine uT W ?_|refine uK ?_|refine uX ?_|refine uC1 W ?_|(refine uN hK ?_;clear hK)|(clear hK;refine uN hK ?_;clear hK)|(clear hK;clear hK;refine uN hK ?_;clear hK)|(clear hK;clear hK;clear hK;refine uN hK ?_;clear hK)|refine uP W ?_|refine uB W ?_|apply zI))):g:=e W k
theorem xH{g:Prop}(i:Nat)(W:f)(k:q)(e:It i→f→q→g:=by(intro I W k;(repeat'(first|refine cK ?_|(with_reducible refine yH I ?_)|refine cK ?_|refine nK ?_|refine sK ?_|refine a_block ?_|refine uR W ?_|refine uq W ?_|refine uT W ?_|refine uK ?_|refine uX ?_|refine uC1 W ?_|(refine uN hK ?_;clear hK)|(clear hK;refine uN hK ?_;clear hK)|(clear hK;clear hK;refine uN hK ?_;clear hK)|(clear hK;clear hK;clear hK;refine uN hK ?_;clear hK)|apply zI));exact k)):g:=e ⟨⟩ W k
theorem xG{g:Prop}(i:Nat)(W:f)(k:q)(e:It i→f→q→g:=by(intro I W k;(repeat'(first|refine cK ?_|(with_reducible refine yR I ?_)|refine cK ?_|refine nK ?_|refine sK ?_|refine a_block ?_|refine uR W ?_|refine uq W ?_|refine uT W ?_|refine uK ?_|refine uX ?_|refine uC1 W ?_|(refine uN hK ?_;clear hK)|(clear hK;refine uN hK ?_;clear hK)|(clear hK;clear hK;refine uN hK ?_;clear hK)|(clear hK;clear hK;clear hK;refine uN hK ?_;clear hK)|apply zI));exact k)):g:=e ⟨⟩ W k
theorem xB{g:Prop}(i:Nat)(W:f)(k:q)(e:It i→f→q→g:=by(intro I W k;(repeat'(first|refine cK ?_|(with_reducible refine yB I ?_)|refine cK ?_|refine nK ?_|refine sK ?_|refine a_block ?_|refine uR W ?_|refine uq W ?_|refine uT W ?_|refine uK ?_|refine uX ?_|refine uC1 W ?_|(refine uN hK ?_;clear hK)|(clear hK;refine uN hK ?_;clear hK)|(clear hK;clear hK;refine uN hK ?_;clear hK)|(clear hK;clear hK;clear hK;refine uN hK ?_;clear hK)|apply zI));exact k)):g:=e ⟨⟩ W k
theorem xM{g:Prop}(i:Nat)(W:f)(k:q)(e:It i→f→q→g:=by(intro I W k;(repeat'(first|refine cK ?_|(with_reducible refine yR I ?_)|refine cK ?_|refine nK ?_|refine sK ?_|refine a_block ?_|refine uR W ?_|refine uD W ?_|refine uq W ?_|refine ue W ?_|refine uT W ?_|refine uK ?_|refine uX ?_|refine uC1 W ?_|(refine uN hK ?_;clear hK)|(clear hK;refine uN hK ?_;clear hK)|(clear hK;clear hK;refine uN hK ?_;clear hK)|(clear hK;clear hK;clear hK;refine uN hK ?_;clear hK)|refine uP W ?_|refine uB W ?_|apply zI));exact k)):g:=e ⟨⟩ W k
theorem uG{fid:FuncId}{fn:Func}{c:Code}{args:List PV}{m:Nat}{rs:Array ResultVar}{K:PV→Heap→Prop}(hf:Tryz.prog.funcs[fid]? =some fn)(h1:fn.ntmps=m)(h2:fn.results=rs)(hh:hasBody Tryz.prog fid=true)(hw:awp Tryz.prog ow wf m c (retPost Tryz.prog rs.toList K) (slots0 args) h)(hb:fn.body=some c:=by rfl)(hn:args.length≤m:=by simp):PCall Tryz.prog fid args h K:=by
 subst h1 h2;exact pcall_body Ty.mixed hf hb hh hn hw
theorem uG0{fid:FuncId}{fn:Func}{c:Code}{args:List PV}{m:Nat}{rs:Array ResultVar}{K:PV→Heap→Prop}(hf:Tryz.prog.funcs[fid]? =some fn)(h1:fn.ntmps=m)(h2:fn.results=rs)(hh:hasBody Tryz.prog fid=true)(hw:awp Tryz.prog (fun _=>false) (fun _=>false) m c (retPost Tryz.prog rs.toList K) (slots0 args) h)(hb:fn.body=some c:=by rfl)(hn:args.length≤m:=by simp):PCall Tryz.prog fid args h K:=uG hf h1 h2 hh hw hb hn
end
set_option maxHeartbeats 2000000
def words:List ByteArray:=[⟨#[97,110,100]⟩,⟨#[111,114]⟩,⟨#[110,111,116]⟩,⟨#[105,109,112,108,121]⟩,⟨#[102,111,114,97,108,108]⟩,⟨#[101,120,105,115,116,115]⟩,⟨#[119,104,101,110]⟩,⟨#[97,115,115,105,103,110]⟩,⟨#[105,110,99,114,101,97,115,101]⟩,⟨#[100,101,99,114,101,97,115,101]⟩,⟨#[111,98,106,101,99,116]⟩]
theorem words_len:words.length=11:=rfl
def idxM(l:List ByteArray)(s:ByteArray):Int:=match l.findIdx? (fun w=>bEq s w)with
 |some i=>i
 |none=> -1
theorem strRows_get{l:List ByteArray}{i:Nat}{w:ByteArray}(h:l[i]? =some w):(strRows l)[i]? =some [sPV w]:=by simp[strRows,h]
theorem strRows_len(l:List ByteArray):(strRows l).length=l.length:=by simp[strRows]
theorem index_c{h:Heap}{l:List ByteArray}{s:ByteArray}(hl:l.length≤9223372036854775807):PCall Tryz.prog 117 [.imm 1 (strRows l),sPV s] h fun r h'=>r= .sc (.int .i64 (idxM l s))∧h'=h:=by
 have hlen:=strRows_len l;refine uG0 Tryz.func117 Tryz.ntmps117 Tryz.results117 Ty.hb_117 ?_;refine wt hlen ?_;refine a_loop (fun m S h'=>h'=h∧S 0= .imm 1 (strRows l)∧S 1=sPV s∧S 7= .sc (.int .i64 l.length)∧ ∃ k:Nat,S 8= .sc (.int .i64 k)∧k≤l.length∧m=l.length-k∧ ∀ (i:Nat)(w:ByteArray),i<k→l[i]? =some w→bEq s w=false) l.length ?_ ?_
 ·simp only[Ty.w,simprocAttr];exact⟨0,rfl,by omega,rfl,by omega⟩
 ·rintro m S h' ⟨rfl,g0,g1,g7,k,g8,hk,rfl,hall⟩;by_cases hlt:k<l.length
  ·have hd:decide ((k:Int)<(l.length:Int))=true:=(by simp;omega);have w7:IntKind.i64.wrap ((k:Int)+1)=k+1:=(by rw[wrap64 (by omega) (by omega)]);obtain⟨w,hx⟩: ∃ w,l[k]? =some w:=⟨l[k],List.getElem?_eq_getElem hlt⟩;have hr:=strRows_get hx;cases he:bEq s w with
   |true=>
    have he':=he;unfold bEq at he';replace zz:=uu7 g0 g1 g7 g8 hd hr he';refine wt zz ?_;have:l.findIdx? (fun w=>bEq s w)=some k:=by
     rw[List.findIdx?_eq_some_iff_getElem];refine⟨hlt,?_,fun j hj=>?_⟩
     ·rw [List.getElem?_eq_getElem hlt]at hx;simp only[Option.some.injEq]at hx;rw[hx];exact he
     ·rw [hall j l[j] hj (List.getElem?_eq_getElem (by omega))];simp
    simp only[idxM,this]
   |false=>
    have he':=he;unfold bEq at he';replace zz:=uu8 g0 g1 g7 g8 hd hr he' w7;refine wt zz ?_;refine⟨l.length-(k+1),by omega,k+1,by simp,by omega,rfl,fun i w2 hi hw=>?_⟩;by_cases hik:i=k
    ·subst hik;rw[hx]at hw;simp at hw;rw[← hw];exact he
    ·exact hall i w2 (by omega) hw
  ·have hd:decide ((k:Int)<(l.length:Int))=false:=(by simp;omega);replace zz:=uu5 g0 g1 g7 g8 hd;refine wt zz ?_;have:l.findIdx? (fun w=>bEq s w)=none:=by
    rw[List.findIdx?_eq_none_iff];intro w hw;obtain⟨i,hi⟩:=List.getElem?_of_mem hw;have:i<l.length:=(List.getElem?_eq_some_iff.1 hi).1;exact hall i w (by omega) hi
   simp only[idxM,this]
theorem idxM_any(l:List ByteArray)(s:ByteArray):decide (idxM l s≥0)=l.any (fun w=>bEq s w):=by
 unfold idxM;cases h:l.findIdx? (fun w=>bEq s w)with
 |none=>
  rw[List.findIdx?_eq_none_iff]at h;have:l.any (fun w=>bEq s w)=false:=by simpa using h
  rw[this];try rfl
 |some i=>
  rw[List.findIdx?_eq_some_iff_getElem]at h;obtain⟨hi,h1,_⟩:=h;have:l.any (fun w=>bEq s w)=true:=List.any_eq_true.2 ⟨l[i],List.getElem_mem hi,h1⟩;rw[this];simp
theorem contains_c{h:Heap}{l:List ByteArray}{s:ByteArray}(hl:l.length≤9223372036854775807):PCall Tryz.prog 60 [.imm 1 (strRows l),sPV s] h fun r h'=>r= .sc (.bool (l.any fun w=>bEq s w))∧h'=h:=by
 refine uG0 Tryz.func60 Tryz.ntmps60 Tryz.results60 Ty.hb_60 ?_;refine wt trivial ?_;refine uU trivial (index_c (l:=l) (s:=s) hl) ?_;refine wt trivial ?_;rw[← idxM_any]
theorem reserved_c{h:Heap}:PCall Tryz.prog 135 [] h fun r h'=>r= .imm 1 (strRows words)∧h'=h:=by
 refine uG0 Tryz.func135 Tryz.ntmps135 Tryz.results135 Ty.hb_135 ?_;refine wt trivial ?_;rfl
theorem rreserved_c{h:Heap}{s:ByteArray}:PCall Tryz.prog 129 [sPV s] h fun r h'=>r= .sc (.bool (words.any fun w=>bEq s w))∧h'=h:=by
 refine uG0 Tryz.func129 Tryz.ntmps129 Tryz.results129 Ty.hb_129 ?_;refine wt trivial ?_;refine a_loop (fun m S h'=>h'=h∧S 0=sPV s∧S 3= .imm 1 (strRows words)∧ ∃ k:Nat,S 4= .sc (.int .i64 k)∧k≤11∧m=11-k∧ ∀ (i:Nat)(w:ByteArray),i<k→words[i]? =some w→bEq s w=false) 11 ?_ ?_
 ·simp only[Ty.w,simprocAttr];refine⟨rfl,0,rfl,by omega,rfl,by omega⟩
 ·rintro m S h' ⟨rfl,g0,g3,k,g4,hk,rfl,hall⟩;have hlen:(strRows words).length=11:=rfl;by_cases hlt:k<11
  ·have hd:decide ((k:Int)<11)=true:=(by simp;omega);have w7:IntKind.i64.wrap ((k:Int)+1)=k+1:=(by rw[wrap64 (by omega) (by omega)]);obtain⟨w,hx⟩: ∃ w,words[k]? =some w:=⟨words[k],List.getElem?_eq_getElem (by rw[words_len];exact hlt)⟩;have hr:=strRows_get hx;cases he:bEq s w with
   |true=>
    have he':(w.data.toList==s.data.toList)=true:=(by rw[BEq.comm];exact he);replace zz:=uu7 g0 g3 g4 hlen hd hr he';refine wt zz ?_;rw[List.any_eq_true.2 ⟨w,List.mem_of_getElem? hx,he⟩]
   |false=>
    have he':(w.data.toList==s.data.toList)=false:=(by rw[BEq.comm];exact he);replace zz:=uu8 g0 g3 g4 hlen hd hr he' w7;refine wt zz ?_;refine⟨11-(k+1),by omega,k+1,by simp,by omega,rfl,fun i w2 hi hw=>?_⟩;by_cases hik:i=k
    ·subst hik;rw[hx]at hw;simp at hw;rw[← hw];exact he
    ·exact hall i w2 (by omega) hw
  ·have hd:decide ((k:Int)<11)=false:=(by simp;omega);replace zz:=uu5 g0 g3 g4 hlen hd;refine wt zz ?_;have:words.any (fun w=>bEq s w)=false:=by
    rw[List.any_eq_false];intro w hw;obtain⟨i,hi⟩:=List.getElem?_of_mem hw;have:i<words.length:=(List.getElem?_eq_some_iff.1 hi).1;rw[words_len]at this;rw[hall i w (by omega) hi];simp
   rw[this]
def letB(c:UInt8):Bool:=decide (97≤c.toNat)&&decide (c.toNat≤122)
def midB(c:UInt8):Bool:=letB c||(decide (48≤c.toNat)&&decide (c.toNat≤57))||decide (c.toNat=45)||decide (c.toNat=95)
def okAt(i:Nat)(c:UInt8):Bool:=letB c||(decide (i≠0)&&midB c)
def bytesOkB:List UInt8→Bool
 |[]=>true
 |c::l=>letB c&&l.all midB
def nameB(s:ByteArray):Bool:=bytesOkB s.data.toList&&decide (0<s.size)&&decide (s.size≤32)&&!(words.any fun w=>bEq s w)
def varB(s:ByteArray):Bool:=decide (2≤s.size)&&decide (s.size≤32)&&(match s.data.toList[0]? with|some c=>decide (c.toNat=63)|none=>false)&&nameB (s.extract 1 s.size)
theorem ba_get(s:ByteArray)(i:Nat):s[i]? =s.data.toList[i]?:=by
 rw[getElem?_def];by_cases hi:i<s.size
 ·rw [dif_pos hi,List.getElem?_eq_getElem (by simpa using hi)];rfl
 ·rw [dif_neg hi,List.getElem?_eq_none (by simp;omega)]
theorem letB_mid{c:UInt8}(h:letB c=true):midB c=true:=by simp[midB,h]
theorem bytesOk_true{l:List UInt8}(h: ∀ (j:Nat)(c:UInt8),l[j]? =some c→okAt j c=true):bytesOkB l=true:=by
 cases l with
 |nil=>rfl
 |cons c l=>
  simp only[bytesOkB,Bool.and_eq_true,List.all_eq_true];refine⟨by simpa[okAt]using h 0 c rfl,fun x hx=>?_⟩;obtain⟨i,hi⟩:=List.getElem?_of_mem hx;have:=h (i+1) x (by simpa using hi);simp only[okAt,Bool.or_eq_true,Bool.and_eq_true]at this;exact this.elim letB_mid (·.2)
theorem bytesOk_false{l:List UInt8}{j:Nat}{c:UInt8}(hj:l[j]? =some c)(h:okAt j c=false):bytesOkB l=false:=by
 cases l with
 |nil=>simp at hj
 |cons d l=>
  cases j with
  |zero=>
   simp at hj;subst hj;simp only[okAt]at h;simp at h;simp[bytesOkB,h]
  |succ j=>
   simp at hj;have hm:midB c=false:=(by simp[okAt]at h;exact h.2);have:l.all midB=false:=(by rw[List.all_eq_false];exact⟨c,List.mem_of_getElem? hj,by simp[hm]⟩);simp[bytesOkB,this]
set_option maxHeartbeats 800000
theorem byte_cls(c:UInt8):(letB c=true∧decide ((c.toNat:Int)≥97)=true∧decide ((c.toNat:Int)≤122)=true)∨
  (letB c=false∧decide ((c.toNat:Int)≥97)=false)∨(letB c=false∧midB c=false∧decide ((c.toNat:Int)≥97)=true∧decide ((c.toNat:Int)≤122)=false∧decide ((c.toNat:Int)<48)=false∧decide ((c.toNat:Int)>57)=true∧((c.toNat:Int) !=45)=true∧((c.toNat:Int) !=95)=true):=by
 by_cases h1:97≤c.toNat
 ·by_cases h2:c.toNat≤122
  ·exact .inl ⟨by simp[letB,h1,h2],by simp;omega,by simp;omega⟩
  ·refine .inr (.inr ⟨by simp[letB,h1,h2],by simp[midB,letB];omega,by simp;omega,by simp;omega,by simp;omega,by simp;omega,by simp;omega,by simp;omega⟩)
 ·exact .inr (.inl ⟨by simp[letB,h1],by simp;omega⟩)
theorem byte_cls2{c:UInt8}(h:decide ((c.toNat:Int)≥97)=false):
  (midB c=true∧decide ((c.toNat:Int)<48)=true∧((c.toNat:Int) !=45)=false)∨
  (midB c=false∧decide ((c.toNat:Int)<48)=true∧((c.toNat:Int) !=45)=true∧((c.toNat:Int) !=95)=true)∨
  (midB c=true∧decide ((c.toNat:Int)<48)=false∧decide ((c.toNat:Int)>57)=false)∨
  (midB c=true∧decide ((c.toNat:Int)<48)=false∧decide ((c.toNat:Int)>57)=true∧((c.toNat:Int) !=45)=true∧((c.toNat:Int) !=95)=false)∨
  (midB c=false∧decide ((c.toNat:Int)<48)=false∧decide ((c.toNat:Int)>57)=true∧((c.toNat:Int) !=45)=true∧((c.toNat:Int) !=95)=true):=by
 simp at h;by_cases h1:c.toNat<48
 ·by_cases h2:c.toNat=45
  ·exact .inl ⟨by simp[midB,h2],by simp;omega,by simp;omega⟩
  ·exact .inr (.inl ⟨by simp[midB,letB];omega,by simp;omega,by simp;omega,by simp;omega⟩)
 ·by_cases h2:c.toNat≤57
  ·exact .inr (.inr (.inl ⟨by simp[midB,letB];omega,by simp;omega,by simp;omega⟩))
  ·by_cases h3:c.toNat=95
   ·exact .inr (.inr (.inr (.inl ⟨by simp[midB,h3],by simp;omega,by simp;omega,by simp;omega,by simp;omega⟩)))
   ·exact .inr (.inr (.inr (.inr ⟨by simp[midB,letB];omega,by simp;omega,by simp;omega,by simp;omega,by simp;omega⟩)))
theorem byte_cls3(c:UInt8):(midB c=true∧decide ((c.toNat:Int)<97)=false∧decide ((c.toNat:Int)>122)=false)∨
  (midB c=false∧decide ((c.toNat:Int)<97)=false∧decide ((c.toNat:Int)>122)=true∧decide ((c.toNat:Int)<48)=false∧decide ((c.toNat:Int)>57)=true∧((c.toNat:Int) !=45)=true∧((c.toNat:Int) !=95)=true)∨
  (decide ((c.toNat:Int)<97)=true∧decide ((c.toNat:Int)≥97)=false):=by
 by_cases h1:97≤c.toNat
 ·by_cases h2:c.toNat≤122
  ·exact .inl ⟨by simp[midB,letB,h1,h2],by simp;omega,by simp;omega⟩
  ·exact .inr (.inl ⟨by simp[midB,letB];omega,by simp;omega,by simp;omega,by simp;omega,by simp;omega,by simp;omega,by simp;omega⟩)
 ·exact .inr (.inr ⟨by simp;omega,by simp;omega⟩)
theorem fname_c{h:Heap}{s:ByteArray}(hs:s.size≤9223372036854775807):PCall Tryz.prog 94 [sPV s] h fun r h'=>r= .sc (.bool (nameB s))∧h'=h:=by
 have hsl:s.data.toList.length=s.size:=by rw[Array.length_toList];try rfl
 refine uG0 Tryz.func94 Tryz.ntmps94 Tryz.results94 Ty.hb_94 ?_;refine wt trivial ?_;refine a_loop (fun m S h'=>h'=h∧S 0=sPV s∧S 7= .sc (.int .i64 s.size)∧ ∃ k:Nat,S 8= .sc (.int .i64 k)∧k≤s.size∧m=s.size-k∧ ∀ (i:Nat)(c:UInt8),i<k→s.data.toList[i]? =some c→okAt i c=true) s.size ?_ ?_
 ·simp only[Ty.w,simprocAttr];exact⟨0,rfl,by omega,rfl,by omega⟩
 ·rintro m S h' ⟨rfl,g0,g7,k,g8,hk,rfl,hall⟩;by_cases hlt:k<s.size
  ·have hd:decide ((k:Int)<(s.size:Int))=true:=(by simp;omega);have w7:IntKind.i64.wrap ((k:Int)+1)=k+1:=(by rw[wrap64 (by omega) (by omega)]);obtain⟨c,hx⟩: ∃ c,s.data.toList[k]? =some c:=⟨_,List.getElem?_eq_getElem (by omega)⟩;have hr:s[k]? =some c:=(by rw[ba_get];exact hx);have bad:okAt k c=false→nameB s=false:=fun e=>(by simp[nameB,bytesOk_false hx e]);have good:okAt k c=true→ ∃ m',m'<s.size-k∧ ∃ k':Nat,(k:Int)+1=k'∧k'≤s.size∧m'=s.size-k'∧ ∀ (i:Nat)(c:UInt8),i<k'→s.data.toList[i]? =some c→okAt i c=true:=fun e=>by
    refine⟨s.size-(k+1),by omega,k+1,by simp,by omega,rfl,fun i c2 hi hw=>?_⟩;by_cases hik:i=k
    ·subst hik;rw[hx]at hw;simp at hw;rw[← hw];exact e
    ·exact hall i c2 (by omega) hw
   (try clear zz);clear hall;have fin1: ∀ {e:Bool},okAt k c=false→e=false→PV.sc (.bool e)= .sc (.bool (nameB s)):=fun h1 h2=>(by rw[h2,bad h1]);rcases byte_cls c with⟨l1,c1,c2⟩|⟨l1,c1⟩|⟨l1,m1,c1,c2,c3,c4,c5,c6⟩
   ·replace zz:=uu8 g0 g7 g8 hd hr w7 c1 c2;refine wt zz ?_;have:=good (by simp[okAt,l1]);simpa using this
   ·cases k0:((k:Int)==0)with
    |true=>
     have hk0:k=0:=(by simpa using k0);have hbad:=bad (by simp[okAt,l1,hk0]);replace zz:=uu8 g0 g7 g8 hd hr w7 c1 k0;refine wt zz ?_;rw[hbad]
    |false=>
     have hk0:k≠0:=(by simpa using k0);rcases byte_cls2 c1 with⟨m1,c3,c5⟩|⟨m1,c3,c5,c6⟩|⟨m1,c3,c4⟩|⟨m1,c3,c4,c5,c6⟩|⟨m1,c3,c4,c5,c6⟩
     ·replace zz:=uu10 g0 g7 g8 hd hr w7 c1 k0 c3 c5;refine wt zz ?_;have:=good (by simp[okAt,m1,hk0]);simpa using this
     ·have hbad:=bad (by simp[okAt,l1,m1]);replace zz:=uu11 g0 g7 g8 hd hr w7 c1 k0 c3 c5 c6;refine wt zz ?_;rw[hbad]
     ·replace zz:=uu10 g0 g7 g8 hd hr w7 c1 k0 c3 c4;refine wt zz ?_;have:=good (by simp[okAt,m1,hk0]);simpa using this
     ·replace zz:=uu12 g0 g7 g8 hd hr w7 c1 k0 c3 c4 c5 c6;refine wt zz ?_;have:=good (by simp[okAt,m1,hk0]);simpa using this
     ·have hbad:=bad (by simp[okAt,l1,m1]);replace zz:=uu12 g0 g7 g8 hd hr w7 c1 k0 c3 c4 c5 c6;refine wt zz ?_;rw[hbad]
   ·have hbad:=bad (by simp[okAt,l1,m1]);cases k0:((k:Int)==0)with
    |true=>
     replace zz:=uu9 g0 g7 g8 hd hr w7 c1 c2 k0;refine wt zz ?_;rw[hbad]
    |false=>
     replace zz:=uu12 g0 g7 g8 hd hr w7 c1 c2 k0 c3 c4 (uu c5 c6);refine wt zz ?_;rw[hbad]
  ·have hd:decide ((k:Int)<(s.size:Int))=false:=(by simp;omega);have hok:bytesOkB s.data.toList=true:=bytesOk_true fun j c hj=>hall j c (by have:=(List.getElem?_eq_some_iff.1 hj).1;omega) hj;(try clear zz);clear hall;have hn:nameB s=(!(s.data.toList==(#[]:Array UInt8).toList)&&decide ((s.size:Int)≤32)&&!(words.any fun w=>bEq s w)):=by
    have e1:decide (0<s.size)=!(s.data.toList==(#[]:Array UInt8).toList):=by
     rw[← hsl];cases s.data.toList<;>simp
    have e2:decide ((s.size:Int)≤32)=decide (s.size≤32):=by
     exact decide_eq_decide.2 (by omega)
    simp only[nameB,hok,Bool.true_and,e1,e2]
   cases b1:(s.data.toList==(#[]:Array UInt8).toList)with
   |true=>
    replace zz:=uu5 g0 g7 g8 hd b1;refine wt zz ?_;rw[hn,b1];try rfl
   |false=>
    cases b2:decide ((s.size:Int)≤32)with
    |false=>
     replace zz:=uu6 g0 g7 g8 hd b1 b2;refine wt zz ?_;rw[hn,b1,b2];try rfl
    |true=>
     replace zz:=uu6 g0 g7 g8 hd b1 b2;refine wt zz ?_;have hwl:words.length≤9223372036854775807:=(by rw[words_len];omega);refine uU trivial (reserved_c) ?_;refine uU (uu3 b1 b2 g0) (contains_c (l:=words) (s:=s) hwl) ?_;refine wt (uu3 g0 b1 b2) ?_;rw[hn,b1,b2];try rfl
theorem fvariable_c{h:Heap}{s:ByteArray}(hs:s.size≤9223372036854775807):PCall Tryz.prog 95 [sPV s] h fun r h'=>r= .sc (.bool (varB s))∧h'=h:=by
 cases b1:decide ((s.size:Int)>1)with
 |false=>
  have:varB s=false:=by simp at b1;simp[varB];omega
  refine uG0 Tryz.func95 Tryz.ntmps95 Tryz.results95 Ty.hb_95 ?_;refine wt b1 ?_;rw[this]
 |true=>
  cases b2:decide ((s.size:Int)≤32)with
  |false=>
   have:varB s=false:=(by simp at b2;simp[varB];omega);refine uG0 Tryz.func95 Tryz.ntmps95 Tryz.results95 Ty.hb_95 ?_;refine wt (uu b1 b2) ?_;rw[this]
  |true=>
   simp at b1 b2;have hsl:s.data.toList.length=s.size:=(by rw[Array.length_toList];try rfl);obtain⟨c,hx⟩: ∃ c,s.data.toList[0]? =some c:=⟨_,List.getElem?_eq_getElem (by omega)⟩;have hr:s[0]? =some c:=(by rw[ba_get];exact hx);have d1:decide ((s.size:Int)>1)=true:=(by simp;omega);have d2:decide ((s.size:Int)≤32)=true:=(by simp;omega);have q1:(1:Int)≤(s.size:Int):=(by omega);have hv:varB s=(decide (c.toNat=63)&&nameB (s.extract 1 s.size)):=by
    have e1:decide (2≤s.size)=true:=(by simp;omega);have e2:decide (s.size≤32)=true:=(by simp;omega);simp only[varB,e1,e2,hx,Bool.true_and]
   cases b3:((c.toNat:Int)==63)with
   |false=>
    have:¬ c.toNat=63:=(by simp at b3;omega);refine uG0 Tryz.func95 Tryz.ntmps95 Tryz.results95 Ty.hb_95 ?_;replace zz:=uu4 d1 d2 hr b3;refine wt zz ?_;rw[hv];simp[this]
   |true=>
    have:c.toNat=63:=(by simp at b3;omega);refine uG0 Tryz.func95 Tryz.ntmps95 Tryz.results95 Ty.hb_95 ?_;have hsz:(s.extract 1 s.size).size≤9223372036854775807:=(by simp;omega);replace zz:=uu6 d1 d2 hr b3 q1 @Int.le_refl;refine wt zz ?_;replace zz:=uu6 d1 d2 hr b3 q1 @Int.le_refl;refine uU zz (fname_c (s:=s.extract 1 s.size) hsz) ?_;refine wt (uu3 d1 d2 b3) ?_;rw[hv,this];try rfl
theorem rname_c{h:Heap}{s:ByteArray}(hs:s.size≤9223372036854775807):PCall Tryz.prog 78 [sPV s] h fun r h'=>r= .sc (.bool (nameB s))∧h'=h:=by
  have hsl:s.data.toList.length=s.size:=by rw[Array.length_toList];try rfl
  cases b1:decide ((s.size:Int)<1)with
  |true=>
    have:nameB s=false:=(by simp at b1;simp[nameB];intros;omega);refine uG0 Tryz.func78 Tryz.ntmps78 Tryz.results78 Ty.hb_78 ?_;refine wt b1 ?_;rw[this]
  |false=>
    cases b2:decide ((s.size:Int)>32)with
    |true=>
      have : nameB s = false := by simp at b2; have : ¬ s.size ≤ 32 := by omega
                                   simp[nameB,this]
      refine uG0 Tryz.func78 Tryz.ntmps78 Tryz.results78 Ty.hb_78 ?_;refine wt (uu b1 b2) ?_;rw[this]
    |false=>
      have b1':=b1;have b2':=b2;simp at b1' b2';obtain⟨c,hx⟩: ∃ c,s.data.toList[0]? =some c:=⟨_,List.getElem?_eq_getElem (by omega)⟩;have hr:s[0]? =some c:=(by rw[ba_get];exact hx);cases b3:decide ((c.toNat:Int)<97)with
      |true=>
        have:letB c=false:=(by simp at b3;simp[letB];omega);have:nameB s=false:=(by simp[nameB,bytesOk_false hx (by simp[okAt,this])]);refine uG0 Tryz.func78 Tryz.ntmps78 Tryz.results78 Ty.hb_78 ?_;replace zz:=uu4 b1 b2 b3 hr;refine wt zz ?_;rw[this]
      |false=>
        cases b4:decide ((c.toNat:Int)>122)with
        |true=>
          have:letB c=false:=(by simp at b4;simp[letB];omega);have:nameB s=false:=(by simp[nameB,bytesOk_false hx (by simp[okAt,this])]);refine uG0 Tryz.func78 Tryz.ntmps78 Tryz.results78 Ty.hb_78 ?_;replace zz:=uu5 b1 b2 b3 b4 hr;refine wt zz ?_;rw[this]
        |false=>
          have hlet:letB c=true:=(by simp at b3 b4;simp[letB];omega);refine uG0 Tryz.func78 Tryz.ntmps78 Tryz.results78 Ty.hb_78 ?_;replace zz:=uu5 b1 b2 b3 b4 hr;refine wt zz ?_;cases b5:(words.any fun w=>bEq s w)with
          |true=>
            have:nameB s=false:=(by simp[nameB,b5]);replace zz:=uu5 b1 b2 b3 b4 hr;refine uU zz (rreserved_c (s:=s)) ?_;refine wt b5 ?_;rw[this]
          |false=>
            replace zz:=uu5 b1 b2 b3 b4 hr;refine uU zz (rreserved_c (s:=s)) ?_;refine wt b5 ?_;refine a_loop (fun m S h'=>h'=h∧S 0=sPV s∧ ∃ k:Nat,S 3= .sc (.int .i64 k)∧k≤s.size∧m=s.size-k∧ ∀ (i:Nat)(c:UInt8),i<k→s.data.toList[i]? =some c→midB c=true) s.size ?_ ?_
            · simp only [Ty.w, simprocAttr];exact⟨0,rfl,by omega,rfl,by omega⟩
            · rintro m S h' ⟨rfl, g0, k, g3, hk, rfl, hall⟩;by_cases hlt:k<s.size
              · have hd : decide ((k : Int) < (s.size : Int)) = true := (by simp; omega);have w7:IntKind.i64.wrap ((k:Int)+1)=k+1:=(by rw[wrap64 (by omega) (by omega)]);obtain⟨d,hx2⟩: ∃ d,s.data.toList[k]? =some d:=⟨_,List.getElem?_eq_getElem (by omega)⟩;have hr2:s[k]? =some d:=(by rw[ba_get];exact hx2);have bad:midB d=false→nameB s=false:=fun e=>by
                  by_cases hk0:k=0
                  · subst hk0;rw[hx]at hx2;simp at hx2;subst hx2;rw[letB_mid hlet]at e;simp at e
                  · simp[nameB,bytesOk_false hx2 (by simp[okAt,e];cases hl:letB d<;>simp;rw[letB_mid hl]at e;simp at e)]
                have good:midB d=true→ ∃ m',m'<s.size-k∧ ∃ k':Nat,(k:Int)+1=k'∧k'≤s.size∧m'=s.size-k'∧ ∀ (i:Nat)(c:UInt8),i<k'→s.data.toList[i]? =some c→midB c=true:=fun e=>by
                  refine⟨s.size-(k+1),by omega,k+1,by simp,by omega,rfl,fun i c2 hi hw=>?_⟩;by_cases hik:i=k
                  · subst hik;rw[hx2]at hw;simp at hw;rw[← hw];exact e
                  · exact hall i c2 (by omega) hw
                (try clear zz);clear hall;rcases byte_cls3 d with⟨m1,c1,c2⟩|⟨m1,c1,c2,c3,c4,c5,c6⟩|⟨c1,c2⟩
                · replace zz := uu7 g0 g3 hd hr2 w7 c1 c2;refine wt zz ?_;have:=good m1;simpa using this
                · have hbad := bad m1;replace zz:=uu11 g0 g3 hd hr2 w7 c1 c2 c3 c4 c5 c6;refine wt zz ?_;rw[hbad]
                · rcases byte_cls2 c2 with ⟨m1, c3, c5⟩ | ⟨m1, c3, c5, c6⟩ | ⟨m1, c3, c4⟩ | ⟨m1, c3, c4, c5, c6⟩ | ⟨m1, c3, c4, c5, c6⟩
                  · replace zz := uu8 g0 g3 hd hr2 w7 c1 c3 c5;refine wt zz ?_;have:=good m1;simpa using this
                  · have hbad := bad m1;replace zz:=uu9 g0 g3 hd hr2 w7 c1 c3 c5 c6;refine wt zz ?_;rw[hbad]
                  · replace zz := uu8 g0 g3 hd hr2 w7 c1 c3 c4;refine wt zz ?_;have:=good m1;simpa using this
                  · replace zz := uu10 g0 g3 hd hr2 w7 c1 c3 c4 c5 c6;refine wt zz ?_;have:=good m1;simpa using this
                  · have hbad := bad m1;replace zz:=uu10 g0 g3 hd hr2 w7 c1 c3 c4 c5 c6;refine wt zz ?_;rw[hbad]
              · have hd : decide ((k : Int) < (s.size : Int)) = false := (by simp; omega);have hok:bytesOkB s.data.toList=true:=by
                  refine bytesOk_true fun j d hj=>?_;by_cases hj0:j=0
                  · subst hj0;rw[hx]at hj;simp at hj;subst hj;simp[okAt,hlet]
                  · simp[okAt,hj0,hall j d (by have:=(List.getElem?_eq_some_iff.1 hj).1;omega) hj]
                have hn:nameB s=true:=by
                  have e1:decide (0<s.size)=true:=(by simp;omega);have e2:decide (s.size≤32)=true:=(by simp;omega);simp only[nameB,hok,b5,e1,e2];rfl
                (try clear zz);clear hall;refine wt (uu3 g0 g3 hd) ?_;rw[hn]
theorem rvariable_c{h:Heap}{s:ByteArray}(hs:s.size≤9223372036854775807):PCall Tryz.prog 77 [sPV s] h fun r h'=>r= .sc (.bool (varB s))∧h'=h:=by
 cases b1:decide ((s.size:Int)≥2)with
 |false=>
  have:varB s=false:=by simp at b1;simp[varB];omega
  refine uG0 Tryz.func77 Tryz.ntmps77 Tryz.results77 Ty.hb_77 ?_;refine wt b1 ?_;rw[this]
 |true=>
  cases b2:decide ((s.size:Int)≤32)with
  |false=>
   have:varB s=false:=(by simp at b2;simp[varB];omega);refine uG0 Tryz.func77 Tryz.ntmps77 Tryz.results77 Ty.hb_77 ?_;refine wt (uu b1 b2) ?_;rw[this]
  |true=>
   simp at b1 b2;have hsl:s.data.toList.length=s.size:=(by rw[Array.length_toList];try rfl);obtain⟨c,hx⟩: ∃ c,s.data.toList[0]? =some c:=⟨_,List.getElem?_eq_getElem (by omega)⟩;have hr:s[0]? =some c:=(by rw[ba_get];exact hx);have d1:decide ((s.size:Int)≥2)=true:=(by simp;omega);have d2:decide ((s.size:Int)≤32)=true:=(by simp;omega);have q1:(1:Int)≤(s.size:Int):=(by omega);have hv:varB s=(decide (c.toNat=63)&&nameB (s.extract 1 s.size)):=by
    have e1:decide (2≤s.size)=true:=(by simp;omega);have e2:decide (s.size≤32)=true:=(by simp;omega);simp only[varB,e1,e2,hx,Bool.true_and]
   cases b3:((c.toNat:Int)==63)with
   |false=>
    have:¬ c.toNat=63:=(by simp at b3;omega);refine uG0 Tryz.func77 Tryz.ntmps77 Tryz.results77 Ty.hb_77 ?_;replace zz:=uu4 d1 d2 hr b3;refine wt zz ?_;rw[hv];simp[this]
   |true=>
    have:c.toNat=63:=(by simp at b3;omega);refine uG0 Tryz.func77 Tryz.ntmps77 Tryz.results77 Ty.hb_77 ?_;have hsz:(s.extract 1 s.size).size≤9223372036854775807:=(by simp;omega);replace zz:=uu6 d1 d2 hr b3 q1 @Int.le_refl;refine wt zz ?_;replace zz:=uu6 d1 d2 hr b3 q1 @Int.le_refl;refine uU zz (rname_c (s:=s.extract 1 s.size) hsz) ?_;refine wt (uu3 d1 d2 b3) ?_;rw[hv,this];try rfl
end Go.Proofs.YtblgchkahpgdjaaGreat
namespace Go.AM
inductive Sx where
 |mk(kind value line col:Int)(text:ByteArray)(kids:List Sx)
mutual
def Sx.cells:Sx→List PV
 | .mk kind value line col text kids=>[.sc (.int .i64 kind),.sc (.int .i64 value),.sc (.int .i64 line),.sc (.int .i64 col),sPV text,.imm 6 (Sx.rows kids)]
def Sx.rows:List Sx→List (List PV)
 |[]=>[]
 |k::ks=>k.cells::Sx.rows ks
end
theorem Sx.rows_map: ∀ l:List Sx,Sx.rows l=l.map Sx.cells
 |[]=>rfl
 |k::ks=>by simp[Sx.rows,Sx.rows_map ks]
theorem Sx.rows_len(l:List Sx):(Sx.rows l).length=l.length:=by simp[Sx.rows_map]
theorem Sx.rows_get{l:List Sx}{i:Nat}{k:Sx}(h:l[i]? =some k):(Sx.rows l)[i]? =some k.cells:=by simp[Sx.rows_map,h]
theorem Sx.ind{C:Sx→Prop}(hC: ∀ kind value line col text kids,(∀ k∈kids,C k)→C (.mk kind value line col text kids)): ∀ e,C e
 | .mk kind value line col text kids=>hC kind value line col text kids fun k hk=>Sx.ind hC k
termination_by e=>SizeOf.sizeOf e
decreasing_by
 have:=List.sizeOf_lt_of_mem hk;simp only[Sx.mk.sizeOf_spec];omega
mutual
def Sx.ok:Sx→Prop
 | .mk kind value line col text kids=>(-9223372036854775808≤kind∧kind≤9223372036854775807)∧(-9223372036854775808≤value∧value≤9223372036854775807)∧text.size≤bigN∧kids.length≤bigN∧Sx.oks kids
def Sx.oks:List Sx→Prop
 |[]=>True
 |k::ks=>k.ok∧Sx.oks ks
end
theorem Sx.oks_iff:{l:List Sx}→(Sx.oks l↔ ∀ k∈l,k.ok)
 |[]=>by simp[Sx.oks]
 |k::ks=>by simp[Sx.oks,Sx.oks_iff (l:=ks)]
end Go.AM
namespace Go.Proofs.YtblgchkahpgdjaaGreat
open Go.AM
def digB(c:UInt8):Bool:=decide (48≤c.toNat)&&decide (c.toNat≤57)
def signs:List UInt8:=[45,95,63,58,60,62,61,43,42]
def wB(c:UInt8):Bool:=letB c||digB c||signs.contains c
def upB(c:UInt8):Bool:=decide (65≤c.toNat)&&decide (c.toNat≤90)
def lowB(c:UInt8):Option UInt8:=if upB c then some (c+32)else if wB c then some c else none
def lowL:List UInt8→Option (List UInt8)
 |[]=>some []
 |c::l=>match lowB c with
  |some d=>(lowL l).map (d::·)
  |none=>none
def lowS(s:ByteArray):ByteArray × Bool:=if 0<s.size∧s.size≤32 then(match lowL s.data.toList with|some l=>(⟨l.toArray⟩,true)|none=>(⟨#[]⟩,false))else(⟨#[]⟩,false)
def trimB(s:ByteArray):ByteArray:=match s.data.toList with
 |45::l=>⟨l.toArray⟩
 |_=>s
def numB(s:ByteArray):Bool:=(trimB s).data.toList.all digB&&decide (0<(trimB s).size)
def wordB(s:ByteArray):Bool:=(lowS s).2&&bEq (lowS s).1 s&&!(numB (lowS s).1)
mutual
def svalid:Sx→Nat→Nat→Bool × Nat
 | .mk kind value _ _ text kids,d,n=>
  if n+1>4096 then(false,n+1)
  else if kind=1 then(wordB text&&decide (value=0)&&kids.isEmpty,n+1)
  else if kind=2 then(bEq text ⟨#[]⟩&&kids.isEmpty&&decide (-1099511627776≤value)&&decide (value≤1099511627776),n+1)
  else if kind=3 then(if bEq text ⟨#[]⟩=true∧value=0∧d≠32 then svalids kids (d+1) (n+1)else(false,n+1))
  else(false,n+1)
def svalids:List Sx→Nat→Nat→Bool × Nat
 |[],_,n=>(true,n)
 |k::ks,d,n=>match svalid k d n with
  |(true,n')=>svalids ks d n'
  |(false,n')=>(false,n')
end
end Go.Proofs.YtblgchkahpgdjaaGreat
namespace Go.AM
def vEq:Value→Value→Bool
 | .int k a,.int k' b=>decide (k=k')&&decide (a=b)
 | .bool a,.bool b=>a==b
 | .string a,.string b=>decide (a.data.toList=b.data.toList)
 | .nilIface,.nilIface=>true
 | .pointer none,.pointer none=>true
 | .map none,.map none=>true
 | .slice none n m,.slice none n' m'=>decide (n=n')&&decide (m=m')
 | .func (.func f) a b,.func (.func f') a' b'=>decide (f=f')&&decide (a.size=0)&&decide (b.size=0)&&decide (a'.size=0)&&decide (b'.size=0)
 | .iface t v,.iface u x=>decide (t=u)&&vEq v x
 |_,_=>false
theorem vEq_eq(a b:Value)(h:vEq a b=true):a=b:=by
 fun_induction vEq a b
 case case3 a b=>
  obtain⟨⟨a⟩⟩:=a;obtain⟨⟨b⟩⟩:=b;simp at h;rw[h]
 case case8=>
  simp at h;obtain⟨⟨⟨⟨rfl,rfl⟩,rfl⟩,rfl⟩,rfl⟩:=h;rfl
 all_goals simp_all
mutual
def pvEq:PV→PV→Bool
 | .sc v,.sc u=>vEq v u
 | .ptr a b c,.ptr a' b' c'=>decide (a=a')&&decide (b=b')&&decide (c=c')
 | .own a b c,.own a' b' c'=>decide (a=a')&&decide (b=b')&&decide (c=c')
 | .mp a,.mp b=>decide (a=b)
 | .emp,.emp=>true
 | .cptr l,.cptr l'=>pvEqL l l'
 | .agg l,.agg l'=>pvEqL l l'
 | .tup l,.tup l'=>pvEqL l l'
 | .fn f a b,.fn f' a' b'=>decide (f=f')&&pvEqL a a'&&pvEqL b b'
 | .ab k a b c d,.ab k' a' b' c' d'=>decide (k=k')&&decide (a=a')&&decide (b=b')&&decide (c=c')&&decide (d=d')
 | .imm z r,.imm z' r'=>decide (z=z')&&pvEqR r r'
 |_,_=>false
def pvEqL:List PV→List PV→Bool
 |[],[]=>true
 |a::l,b::l'=>pvEq a b&&pvEqL l l'
 |_,_=>false
def pvEqR:List (List PV)→List (List PV)→Bool
 |[],[]=>true
 |a::l,b::l'=>pvEqL a b&&pvEqR l l'
 |_,_=>false
end
mutual
theorem pvEq_eq: ∀ (a b:PV),pvEq a b=true→a=b
 | .sc v,b,h=>by cases b<;>simp[pvEq]at h;rw[vEq_eq _ _ h]
 | .ptr a b c,x,h=>by cases x<;>simp[pvEq]at h;obtain⟨⟨rfl,rfl⟩,rfl⟩:=h;rfl
 | .own a b c,x,h=>by cases x<;>simp[pvEq]at h;obtain⟨⟨rfl,rfl⟩,rfl⟩:=h;rfl
 | .mp a,x,h=>by cases x<;>simp[pvEq]at h;rw[h]
 | .emp,x,h=>by cases x<;>simp[pvEq]at h;rfl
 | .cptr l,x,h=>by cases x<;>simp[pvEq]at h;rw[pvEqL_eq _ _ h]
 | .agg l,x,h=>by cases x<;>simp[pvEq]at h;rw[pvEqL_eq _ _ h]
 | .tup l,x,h=>by cases x<;>simp[pvEq]at h;rw[pvEqL_eq _ _ h]
 | .imm z r,x,h=>by cases x<;>simp[pvEq]at h;rw[h.1,pvEqR_eq _ _ h.2]
 | .fn f a b,x,h=>by cases x<;>simp[pvEq]at h;rw[h.1.1,pvEqL_eq _ _ h.1.2,pvEqL_eq _ _ h.2]
 | .ab k a b c d,x,h=>by cases x<;>simp[pvEq]at h;obtain⟨⟨⟨⟨rfl,rfl⟩,rfl⟩,rfl⟩,rfl⟩:=h;rfl
theorem pvEqL_eq: ∀ (a b:List PV),pvEqL a b=true→a=b
 |[],b,h=>by cases b<;>simp[pvEqL]at h;rfl
 |x::l,b,h=>by cases b<;>simp[pvEqL]at h;rw[pvEq_eq _ _ h.1,pvEqL_eq _ _ h.2]
theorem pvEqR_eq: ∀ (a b:List (List PV)),pvEqR a b=true→a=b
 |[],b,h=>by cases b<;>simp[pvEqR]at h;rfl
 |x::l,b,h=>by cases b<;>simp[pvEqR]at h;rw[pvEqL_eq _ _ h.1,pvEqR_eq _ _ h.2]
end
abbrev CallR:=FuncId→List PV→Heap→Option (PV × Bool × Heap)
section
variable (P:Program)(wf:FuncId→Bool)(own:FuncId→Nat→Bool)(ext:FuncId→List PV→Option PV)
def xop(call:CallR)(ow:Nat→Bool)(o:Oper)(ρ:Operand→PV)(h:Heap):Option (PV × Bool × Heap):=
 match callee ρ o.op with
 |some (f,args)=>call f args h
 |none=>match eff P (o.dst.any ow) o.op ρ h with
  |some (v,h')=>some (v,!(isW ow wf o),h')
  |none=>none
def xagain(call:CallR)(ow:Nat→Bool)(o:Oper)(ρ:Operand→PV)(h:Heap)(v:PV):Bool:=
 match xop P wf call ow o ρ h with
 |some (v',q,_)=>q&&pvEq v' v
 |none=>false
def xl(call:CallR)(ow:Nat→Bool)(n:Nat)(ops:List Oper):List Oper→Slots→Bool→Heap→Option (Slots × Bool × Heap)
 |[],s,q,h=>some (s,q,h)
 | o :: rest, s, q, h => if o.dst.all (fun d => decide (d < n)) = true then
   match wantedB ops s o with
   |none=>none
   |some false=>xl call ow n ops rest (updO s o.dst (.sc undef)) q h
   |some true=>match xop P wf call ow o (pev s) h with
    |some (v,q',h')=>xl call ow n ops rest (updO s o.dst v) (q&&q') h'
    |none=>none
  else none
def xd(call:CallR)(ow:Nat→Bool)(n:Nat)(ops:List Oper):Nat→List Oper→List (Nat × Oper × Slots × PV)→List (Nat × Heap)→Slots→Bool→Heap→Option (Slots × Bool × Heap)
 |_,[],_,_,s,q,h=>some (s,q,h)
 | k, o :: rest, past, hist, s, q, h => if o.dst.all (fun d => decide (d < n)) = true then
   match wantedB ops s o with
   |none=>none
   |some false=>xd call ow n ops (k+1) rest past hist (updO s o.dst (.sc undef)) q h
   |some true=>match xop P wf call ow o (pev s) h with
    |none=>none
    |some (v,q',h')=>
     if isW ow wf o=true then
      (if past.all (fun x=>pre ops x.1 k||xagain P wf call ow x.2.1 (pev x.2.2.1) h' x.2.2.2)=true then xd call ow n ops (k+1) rest past ((k,h)::hist) (updO s o.dst v) (q&&q') h' else none)
     else if q'=true then
      (if hist.all (fun x=>pre ops x.1 k||xagain P wf call ow o (pev s) x.2 v)=true then xd call ow n ops (k+1) rest ((k,o,s,v)::past) hist (updO s o.dst v) q h else none)
     else none
  else none
def xc(call:CallR)(ow:Nat→Bool)(n:Nat):Nat→Code→Slots→Bool→Heap→Option (Exit × Slots × Bool × Heap)
 |0,_,_,_,_=>none
 |k+1,c,s,q,h=>match c with
  | .skip=>some (.normal,s,q,h)
  | .region _ ops true=>if dOk ow wf ops.toList=true then(xd P wf call ow n ops.toList 0 ops.toList [] [] s q h).map (Exit.normal,·)else none
  | .region _ ops false=>(xl P wf call ow n ops.toList ops.toList s q h).map (Exit.normal,·)
  | .seq a b=>match xc call ow n k a s q h with
   |some (.normal,s',q',h')=>xc call ow n k b s' q' h'
   |r=>r
  | .cond c x y=>match pev s c with
   | .sc (.bool true)=>xc call ow n k x s q h
   | .sc (.bool false)=>xc call ow n k y s q h
   |_=>none
  | .block id c=>match xc call ow n k c s q h with
   |some (.exit id',s',q',h')=>some (if id'=id then .normal else .exit id',s',q',h')
   |r=>r
  | .loop c=>match xc call ow n k c s q h with
   |some (.normal,s',q',h')=>xc call ow n k (.loop c) s' q' h'
   |r=>r
  | .exit id=>some (.exit id,s,q,h)
  | .ret=>some (.ret,s,q,h)
  |_=>none
end
section
variable {P:Program}{wf:FuncId→Bool}{own:FuncId→Nat→Bool}
def ExtOk(P:Program)(ext:FuncId→List PV→Option PV):Prop:= ∀ f args r h,ext f args=some r→PCall P f args h (fun r' h'=>r'=r∧h'=h)
theorem eff_same{ow:Nat→Bool}{o:Oper}{ρ:Operand→PV}{h h':Heap}{v:PV}(hw:isW ow wf o=false)(hc:callee ρ o.op=none)(he:eff P (o.dst.any ow) o.op ρ h=some (v,h')):h'=h:=by
 obtain⟨dst,op,t,pos,after,guard⟩:=o;simp only at hc he hw;unfold eff at he;split at he<;>simp only[isW]at hw<;>(try(simp at hw;done));all_goals(repeat'(split at he))
 all_goals first
  |(simp[Option.bind_eq_some_iff,Option.map_eq_some_iff]at he;done)
  |(simp[Option.bind_eq_some_iff,Option.map_eq_some_iff]at he;grind)
  |skip
theorem Does.owp{ow:Nat→Bool}{o:Oper}{s:Slots}{h h':Heap}{v:PV}{K:Slots→Heap→Prop}(hd:Does P ow o (pev s) h v h')(hK:K (updO s o.dst v) h'):owp P ow o K s h:=by
 unfold Does at hd;unfold AM.owp;split at hd
 ·rename_i f args hc;exact hd.mono (fun r h'' hr=>by rw[hr.1,hr.2];exact hK)
 ·rename_i hc;rw[hd];exact hK
theorem pcall_indexByte{f:FuncId}{fn:Func}(hf:P.funcs[f]? =some fn)(hname:(fn.name== "runtime.NumGoroutine")=false)(hb:fn.body.isNone=true)(hn:Extern.findNext fn=none)(he:Extern.find fn=some Extern.BytealgIndexByte.indexByte)(s:ByteArray)(c:Int)(h:Heap):
  PCall P f [.sc (.string s),.sc (.int .u8 c)] h (fun r h'=>r= .sc (.int .i64 (firstIdx s c.toNat.toUInt8))∧h'=h):=by
 intro β w vals sm hr
 match vals,hr.len,hr with
 |[x,y],_,hr=>
  simp only[RepL,Rep]at hr;obtain⟨rfl,rfl,_⟩:=hr;exact .inr ⟨_,w,by rw[run_callFunc_extern hf hname hb hn he];simp only[run_indexByte_string];rfl,_,h,β,_,rfl,⟨rfl,rfl⟩,sm,by simp only[RepH,Rep],Ext.refl⟩
end
end Go.AM
namespace Go.Proofs.YtblgchkahpgdjaaGreat
open Go.AM
set_option maxHeartbeats 2000000
set_option maxRecDepth 100000
def ext(f:FuncId)(args:List PV):Option PV:=if f=190 then(match args with|[.sc (.string s),.sc (.int .u8 c)]=>some (.sc (.int .i64 (firstIdx s c.toNat.toUInt8)))|_=>none)else none
theorem ixb_ok:(Tryz.f190.name== "runtime.NumGoroutine")=false∧Tryz.f190.body.isNone=true∧Extern.findNext Tryz.f190=none∧Extern.find Tryz.f190=some Extern.BytealgIndexByte.indexByte:=
 ⟨by kernel_rfl,by kernel_rfl,by kernel_rfl,by kernel_rfl⟩
theorem ext_ok:ExtOk Tryz.prog ext:=by
 intro f args r h hr;unfold ext at hr;split at hr
 ·rename_i hf;subst hf;split at hr
  ·simp only[Option.some.injEq]at hr;subst hr;exact pcall_indexByte Tryz.func190 ixb_ok.1 ixb_ok.2.1 ixb_ok.2.2.1 ixb_ok.2.2.2 _ _ _
  ·simp at hr
 ·simp at hr
end Go.Proofs.YtblgchkahpgdjaaGreat
namespace Go.Proofs.YtblgchkahpgdjaaGreat
open Go.AM
set_option maxHeartbeats 2000000
set_option maxRecDepth 20000
theorem PCall.quiet2{P:Program}{f:FuncId}{args:List PV}{h:Heap}{v u:Value}(hb:hasBody P f=true)(hc:PCall P f args h fun r h'=>r= .tup [.sc v,.sc u]∧Grow h h'):PCall P f args h fun r h'=>r= .tup [.sc v,.sc u]∧h'=h:=by
 refine pcall_wf hb fun hw=>PCall.drop (hc.mono ?_);rintro r h' ⟨rfl,g⟩;refine⟨.tup [.sc v,.sc u],h,⟨rfl,rfl⟩,by simp only[FrzTo,FrzL];exact⟨_,rfl,rfl,rfl,trivial⟩,Nat.le_refl _,fun id o ho=>?_⟩;have hid:=hw id (by rw[ho];try rfl);exact⟨by rw[g.old id hid];exact ho,hid,.inl ho⟩
theorem digit_c{h:Heap}{c:UInt8}:PCall Tryz.prog 163 [.sc (.int .u8 c.toNat)] h fun r h'=>r= .sc (.bool (digB c))∧h'=h:=by
 cases b1:decide ((c.toNat:Int)≥48)with
 |false=>
  have:digB c=false:=by simp at b1;simp[digB];omega
  refine uG0 Tryz.func163 Tryz.ntmps163 Tryz.results163 Ty.hb_163 ?_;refine wt b1 ?_;rw[this]
 |true=>
  have:digB c=decide ((c.toNat:Int)≤57):=by
   simp at b1;have e1:decide (48≤c.toNat)=true:=(by simp;omega);simp only[digB,e1,Bool.true_and];exact decide_eq_decide.2 (by omega)
  refine uG0 Tryz.func163 Tryz.ntmps163 Tryz.results163 Ty.hb_163 ?_;refine wt b1 ?_;rw[this]
theorem firstIdx_ge(s:ByteArray)(c:UInt8):decide (firstIdx s c≥0)=s.data.toList.contains c:=by
 unfold firstIdx;have hsl:s.data.toList.length=s.size:=by rw[Array.length_toList];try rfl
 have hget: ∀ i,i<s.size→s[i]! =s.data.toList[i]!:=by
  intro i hi;have h1:s[i]? =s.data.toList[i]?:=ba_get s i;rw[getElem!_def,getElem!_def,h1]
 cases hf:(List.range s.size).find? fun i=>s[i]! ==c with
 |none=>
  rw[List.find?_eq_none]at hf;have:s.data.toList.contains c=false:=by
   rw[Bool.eq_false_iff];intro hc;rw[List.contains_iff_mem]at hc;obtain⟨i,hi,he⟩:=List.getElem_of_mem hc;have h2:=hf i (by simp;omega);rw[hget i (by omega),getElem!_pos s.data.toList i hi,he]at h2;simp at h2
  rw[this];try rfl
 |some i=>
  have h1:=List.find?_some hf;have h2:=List.mem_of_find?_eq_some hf;simp at h2;have:s.data.toList.contains c=true:=by
   rw[List.contains_iff_mem];rw[hget i h2]at h1;rw[getElem!_pos s.data.toList i (by omega)]at h1;have:=beq_iff_eq.1 h1;rw[← this];exact List.getElem_mem _
  rw[this];simp
theorem indexByte_c{h:Heap}{s:ByteArray}{c:UInt8}:PCall Tryz.prog 164 [sPV s,.sc (.int .u8 c.toNat)] h fun r h'=>r= .sc (.int .i64 (firstIdx s c))∧h'=h:=by
 have hx:PCall Tryz.prog 190 [sPV s,.sc (.int .u8 c.toNat)] h fun r h'=>r= .sc (.int .i64 (firstIdx s c))∧h'=h:=by
  have:=pcall_indexByte (P:=Tryz.prog) Tryz.func190 ixb_ok.1 ixb_ok.2.1 ixb_ok.2.2.1 ixb_ok.2.2.2 s c.toNat h;simpa using this
 have hy:PCall Tryz.prog 176 [sPV s,.sc (.int .u8 c.toNat)] h fun r h'=>r= .sc (.int .i64 (firstIdx s c))∧h'=h:=by
  refine uG0 Tryz.func176 Tryz.ntmps176 Tryz.results176 Ty.hb_176 ?_;refine wt trivial ?_;refine uU trivial (hx) ?_;exact wz trivial
 refine uG0 Tryz.func164 Tryz.ntmps164 Tryz.results164 Ty.hb_164 ?_;refine wt trivial ?_;refine uU trivial (hy) ?_;exact wz trivial
theorem ba_ext{a b:ByteArray}(h:a.data.toList=b.data.toList):a=b:=by
 obtain⟨⟨a⟩⟩:=a;obtain⟨⟨b⟩⟩:=b;simp at h;rw[h]
theorem hasPrefix_c{h:Heap}{s:ByteArray}:PCall Tryz.prog 191 [sPV s,sPV ⟨#[45]⟩] h fun r h'=>r= .sc (.bool (match s.data.toList with|45::_=>true|_=>false))∧h'=h:=by
 have hsl:s.data.toList.length=s.size:=by rw[Array.length_toList];try rfl
 have h1:(ByteArray.mk #[45]).size=1:=rfl;cases b1:decide ((s.size:Int)≥1)with
 |false=>
  have:(match s.data.toList with|45::_=>true|_=>false)=false:=by
   simp at b1;have:s.data.toList=[]:=List.eq_nil_of_length_eq_zero (by omega);rw[this]
  refine uG0 Tryz.func191 Tryz.ntmps191 Tryz.results191 Ty.hb_191 ?_;repeat'(first|refine a_seq fun K hK=>?_|((first|refine a_regionS ?_|refine a_ret ?_);simp(maxSteps:=2000000) only[Ty.w,simprocAttr,h1,Int.natCast_one,b1])|(refine hK _ _ ?_;clear hK;(try simp only[pst0,simprocAttr])))
  rw[this]
 |true=>
  have b1':=b1;simp at b1';have q1:(1:Int)≤(s.size:Int):=by omega
  have:(match s.data.toList with|45::_=>true|_=>false)=((s.extract 0 1).data.toList==(#[45]:Array UInt8).toList):=by
   have he:(s.extract 0 1).data.toList=s.data.toList.take 1:=(by simp);rw[he];cases hl:s.data.toList with
   |nil=>rw[hl]at hsl;simp at hsl;omega
   |cons c l=>
    simp only[List.take_succ_cons,List.take_zero];by_cases hc:c=45
    ·subst hc;rfl
    ·have:([c]==(#[45]:Array UInt8).toList)=false:=(by simp[hc]);rw[this];split
     ·rename_i heq;simp at heq;exact absurd heq.1 hc
     ·rfl
  refine uG0 Tryz.func191 Tryz.ntmps191 Tryz.results191 Ty.hb_191 ?_;repeat'(first|refine a_seq fun K hK=>?_|((first|refine a_regionS ?_|refine a_ret ?_);simp(maxSteps:=2000000) only[Ty.w,simprocAttr,h1,Int.natCast_one,b1,q1,Option.getD_some,Option.getD_none,Int.le_refl,Int.toNat_one,Int.toNat_zero])|(refine hK _ _ ?_;clear hK;(try simp only[pst0,simprocAttr])))
  rw[this]
theorem trimPrefix_c{h:Heap}{s:ByteArray}:PCall Tryz.prog 165 [sPV s,sPV ⟨#[45]⟩] h fun r h'=>r=sPV (trimB s)∧h'=h:=by
 have hsl:s.data.toList.length=s.size:=by rw[Array.length_toList];try rfl
 have h1:(ByteArray.mk #[45]).size=1:=rfl;have hy:PCall Tryz.prog 177 [sPV s,sPV ⟨#[45]⟩] h fun r h'=>r=sPV (trimB s)∧h'=h:=by
  cases b1:(match s.data.toList with|45::_=>true|_=>false)with
  |false=>
   have:trimB s=s:=by
    unfold trimB;split
    ·rename_i heq;rw[heq]at b1;simp at b1
    ·rfl
   refine uG0 Tryz.func177 Tryz.ntmps177 Tryz.results177 Ty.hb_177 ?_;refine wt trivial ?_;refine uU b1 (hasPrefix_c (s:=s)) ?_;refine wt b1 ?_;rw[this]
  |true=>
   have hq: ∃ l,s.data.toList=45::l:=by
    split at b1
    ·rename_i l heq;exact⟨l,heq⟩
    ·simp at b1
   obtain⟨l,hl⟩:=hq;have q1:(1:Int)≤(s.size:Int):=(by rw[hl]at hsl;simp at hsl;omega);have:trimB s=s.extract 1 s.size:=by
    unfold trimB;rw[hl];refine ba_ext ?_;have hl2:=hsl;rw[hl]at hl2;simp at hl2;simp only[ByteArray.data_extract,Array.toList_extract,List.extract_eq_take_drop,hl];rw[List.drop_succ_cons,List.drop_zero,List.take_of_length_le (by omega)]
   refine uG0 Tryz.func177 Tryz.ntmps177 Tryz.results177 Ty.hb_177 ?_;refine wt trivial ?_;refine uU b1 (hasPrefix_c (s:=s)) ?_;(repeat'(first|refine cK ?_|(refine nK ?_;try exact zI)|refine a_seq fun K hK=>?_|((first|refine a_regionS ?_|refine a_ret ?_);simp(maxSteps:=2000000) only[Ty.w,simprocAttr,b1,h1,Int.natCast_one,q1,Option.getD_some,Option.getD_none,Int.le_refl,Int.toNat_one])|(refine hK _ _ ?_;clear hK;(try simp only[pst0,simprocAttr]))));rw[this]
 refine uG0 Tryz.func165 Tryz.ntmps165 Tryz.results165 Ty.hb_165 ?_;refine wt trivial ?_;refine uU trivial (hy) ?_;exact wz trivial
theorem numeric_c{h:Heap}{s:ByteArray}(hs:s.size≤bigN):PCall Tryz.prog 143 [sPV s] h fun r h'=>r= .sc (.bool (numB s))∧h'=h:=by
 have htl:(trimB s).data.toList.length=(trimB s).size:=by rw[Array.length_toList];try rfl
 have hts:(trimB s).size≤bigN:=by
  have hsl:s.data.toList.length=s.size:=by rw[Array.length_toList];try rfl
  unfold trimB;split
  ·rename_i l heq;rw[heq]at hsl;have:(ByteArray.mk l.toArray).size=l.length:=(by simp[ByteArray.size]);simp at hsl;omega
  ·exact hs
 unfold bigN at hts;have hN:numB s=((trimB s).data.toList.all digB&&decide (0<(trimB s).size)):=rfl;have ht:PCall Tryz.prog 165 [sPV s,sPV ⟨#[45]⟩] h fun r h'=>r=sPV (trimB s)∧h'=h:=trimPrefix_c;generalize trimB s=u at htl hts hN ht;rw[hN];try clear zz
 clear hN;refine uG0 Tryz.func143 Tryz.ntmps143 Tryz.results143 Ty.hb_143 ?_;refine wt trivial ?_;refine uU trivial (ht) ?_;refine wt trivial ?_;refine a_loop (fun m S h'=>h'=h∧S 0=sPV u∧S 7= .sc (.int .i64 u.size)∧ ∃ k:Nat,S 8= .sc (.int .i64 k)∧k≤u.size∧m=u.size-k∧ ∀ (i:Nat)(c:UInt8),i<k→u.data.toList[i]? =some c→digB c=true) u.size ?_ ?_
 ·simp only[Ty.w,simprocAttr];exact⟨0,rfl,by omega,rfl,by omega⟩
 ·rintro m S h' ⟨rfl,g0,g7,k,g8,hk,rfl,hall⟩;by_cases hlt:k<u.size
  ·have hd:decide ((k:Int)<(u.size:Int))=true:=(by simp;omega);have w7:IntKind.i64.wrap ((k:Int)+1)=k+1:=(by rw[wrap64 (by omega) (by omega)]);obtain⟨c,hx⟩: ∃ c,u.data.toList[k]? =some c:=⟨_,List.getElem?_eq_getElem (by omega)⟩;have hr:u[k]? =some c:=(by rw[ba_get];exact hx);cases hg:digB c with
   |false=>
    have:u.data.toList.all digB=false:=(by rw[List.all_eq_false];exact⟨c,List.mem_of_getElem? hx,by simp[hg]⟩);replace zz:=uu5 g0 g7 g8 hd hr;refine wt zz ?_;replace zz:=uu6 g0 g7 g8 hd hr hg;refine uU zz (digit_c (c:=c)) ?_;refine wt (uu hg yF) ?_;rw[this];try rfl
   |true=>
    replace zz:=uu5 g0 g7 g8 hd hr;refine wt zz ?_;replace zz:=uu6 g0 g7 g8 hd hr hg;refine uU zz (digit_c (c:=c)) ?_;replace zz:=uu6 g0 g7 g8 hg w7 yT;refine wt zz ?_;refine⟨u.size-(k+1),by omega,k+1,by simp,by omega,rfl,fun i c2 hi hw=>?_⟩;by_cases hik:i=k
    ·subst hik;rw[hx]at hw;simp at hw;rw[← hw];exact hg
    ·exact hall i c2 (by omega) hw
  ·have hd:decide ((k:Int)<(u.size:Int))=false:=(by simp;omega);have hok:u.data.toList.all digB=true:=by
    rw[List.all_eq_true];intro c hc;obtain⟨i,hi⟩:=List.getElem?_of_mem hc;exact hall i c (by have:=(List.getElem?_eq_some_iff.1 hi).1;omega) hi
   have e1:decide (0<u.size)=!(u.data.toList==(#[]:Array UInt8).toList):=by
    rw[← htl];cases u.data.toList<;>simp
   (try clear zz);clear hall;replace zz:=uu4 g0 g7 g8 hd;refine wt zz ?_;rw[hok,e1];try rfl
end Go.Proofs.YtblgchkahpgdjaaGreat
namespace Go.Proofs.YtblgchkahpgdjaaGreat
open Go.AM
set_option maxHeartbeats 2000000
set_option maxRecDepth 20000
theorem lowL_none{l:List UInt8}{k:Nat}{c:UInt8}(h:l[k]? =some c)(hc:lowB c=none):lowL l=none:=by
 induction l generalizing k with
 |nil=>simp at h
 |cons d l ih=>
  simp only[lowL];cases k with
  |zero=>simp at h;subst h;rw[hc]
  |succ k=>
   simp at h;rw[ih h];cases lowB d<;>simp
theorem lowL_take{l p:List UInt8}{k:Nat}{c d:UInt8}(h:l[k]? =some c)(hc:lowB c=some d)(hp:lowL (l.take k)=some p):lowL (l.take (k+1))=some (p++[d]):=by
 induction l generalizing k p with
 |nil=>simp at h
 |cons e l ih=>
  cases k with
  |zero=>simp at h;subst h;simp[lowL]at hp;subst hp;simp[lowL,hc]
  |succ k=>
   simp at h;simp only[List.take_succ_cons,lowL]at hp⊢;cases he:lowB e with
   |none=>simp[he]at hp
   |some e'=>
    rw[he]at hp;cases hq:lowL (l.take k)with
    |none=>simp[hq]at hp
    |some p'=>
     simp[hq]at hp;subst hp;rw[ih h hq];simp
theorem lowL_len{l p:List UInt8}(h:lowL l=some p):p.length=l.length:=by
 induction l generalizing p with
 |nil=>simp[lowL]at h;subst h;rfl
 |cons e l ih=>
  simp only[lowL]at h;split at h
  ·cases hq:lowL l with
   |none=>simp[hq]at h
   |some p'=>simp[hq]at h;subst h;simp[ih hq]
  ·simp at h
theorem bytesR_len(l:List UInt8):(bytesR l).length=l.length:=by simp[bytesR]
theorem bytesR_get{l:List UInt8}{k:Nat}{c:UInt8}(h:l[k]? =some c):(bytesR l)[k]? =some [.sc (.int .u8 c.toNat)]:=by simp[bytesR,h]
theorem bytesR_set(l:List UInt8)(k:Nat)(c:UInt8):(bytesR l).set k [.sc (.int .u8 c.toNat)]=bytesR (l.set k c):=by simp[bytesR,List.map_set]
structure LowI(h:Heap)(l:List UInt8)(k:Nat)(h':Heap):Prop where
 grow:Grow h h'
 ex: ∃ p,lowL (l.take k)=some p∧h'.obj h.next=some (.arr 1 (bytesR (p++l.drop k)))
theorem LowI.keep{h h':Heap}{l:List UInt8}{k:Nat}{c:UInt8}(i:LowI h l k h')(hc:l[k]? =some c)(hl:lowB c=some c):LowI h l (k+1) h':=by
 obtain⟨p,hp,ho⟩:=i.ex;refine⟨i.grow,p++[c],lowL_take hc hl hp,?_⟩;rw[ho];obtain⟨hk,rfl⟩:=List.getElem?_eq_some_iff.1 hc;rw[List.drop_eq_getElem_cons hk];simp
theorem LowI.put{h h':Heap}{l:List UInt8}{k:Nat}{c d:UInt8}{rows:List (List PV)}(i:LowI h l k h')(hc:l[k]? =some c)(hl:lowB c=some d)(hr:h'.obj h.next=some (.arr 1 rows)):
  LowI h l (k+1) (h'.set h.next (.arr 1 (rows.set k [.sc (.int .u8 d.toNat)]))):=by
 obtain⟨p,hp,ho⟩:=i.ex;refine⟨i.grow.set (Nat.le_refl _) _,p++[d],lowL_take hc hl hp,?_⟩;rw[ho]at hr;simp at hr;subst hr;have hpl:=lowL_len hp;obtain⟨hk,rfl⟩:=List.getElem?_eq_some_iff.1 hc;simp only[Heap.set,if_true,bytesR_set];rw[List.length_take]at hpl;rw[List.set_append_right _ _ (by omega),List.drop_eq_getElem_cons hk,show k-p.length=0 by omega,List.set_cons_zero];simp
theorem u8w(x:Int)(h0:0≤x)(h1:x<256):IntKind.u8.wrap x=x:=by
 unfold IntKind.wrap;simp[IntKind.signed,IntKind.bits];omega
theorem byte_cls5(c:UInt8):
  (upB c=false∧letB c=false∧decide ((c.toNat:Int)≥65)=false∧decide ((c.toNat:Int)≥97)=false)∨
  (upB c=true∧decide ((c.toNat:Int)≥65)=true∧decide ((c.toNat:Int)≤90)=true)∨
  (upB c=false∧letB c=false∧decide ((c.toNat:Int)≥65)=true∧decide ((c.toNat:Int)≤90)=false∧decide ((c.toNat:Int)≥97)=false)∨
  (upB c=false∧letB c=true∧decide ((c.toNat:Int)≥65)=true∧decide ((c.toNat:Int)≤90)=false∧decide ((c.toNat:Int)≥97)=true∧decide ((c.toNat:Int)≤122)=true)∨
  (upB c=false∧letB c=false∧decide ((c.toNat:Int)≥65)=true∧decide ((c.toNat:Int)≤90)=false∧decide ((c.toNat:Int)≥97)=true∧decide ((c.toNat:Int)≤122)=false):=by
 simp only[upB,letB,Bool.and_eq_true,Bool.and_eq_false_iff,decide_eq_true_eq,decide_eq_false_iff_not];omega
theorem lower_c{h:Heap}{s:ByteArray}:PCall Tryz.prog 142 [sPV s] h fun r h'=>r= .tup [sPV (lowS s).1,.sc (.bool (lowS s).2)]∧h'=h:=by
 have hsl:s.data.toList.length=s.size:=by rw[Array.length_toList];try rfl
 refine PCall.quiet2 Ty.hb_142 ?_;cases b1:(s.data.toList==(#[]:Array UInt8).toList)with
 |true=>
  have:lowS s=(⟨#[]⟩,false):=by
   unfold lowS;rw[if_neg];have:s.data.toList=[]:=(by simpa using b1);rw[this]at hsl;simp at hsl;omega
  refine uG0 Tryz.func142 Tryz.ntmps142 Tryz.results142 Ty.hb_142 ?_;refine wt b1 ?_;rw[this];exact⟨rfl,Grow.refl _⟩
 |false=>
  have hpos:0<s.size:=by
   rcases Nat.eq_zero_or_pos s.size with h0|h0
   ·rw [h0]at hsl;have:=List.eq_nil_of_length_eq_zero hsl;rw[this]at b1;simp at b1
   ·exact h0
  cases b2:decide ((s.size:Int)>32)with
  |true=>
   have:lowS s=(⟨#[]⟩,false):=by
    unfold lowS;rw[if_neg];simp at b2;omega
   refine uG0 Tryz.func142 Tryz.ntmps142 Tryz.results142 Ty.hb_142 ?_;refine wt (uu b1 b2) ?_;rw[this];exact⟨rfl,Grow.refl _⟩
  |false=>
   have h32:s.size≤32:=(by simp at b2;omega);have hsz:s.size≤140737488355328:=(by omega);have hS:lowS s=(match lowL s.data.toList with|some l=>(⟨l.toArray⟩,true)|none=>(⟨#[]⟩,false)):=(by unfold lowS;rw[if_pos ⟨hpos,h32⟩];try rfl);refine uG (ow:=fun t=>t==15) (wf:=fun _=>false) Tryz.func142 Tryz.ntmps142 Tryz.results142 Ty.hb_142 ?_;refine wt (uu3 b1 b2 hsz) ?_;refine a_loop (fun m S h'=>S 4= .own h.next 0 s.data.toList.length∧S 16= .own h.next 0 s.data.toList.length∧S 17= .sc (.int .i64 s.data.toList.length)∧ ∃ k:Nat,S 18= .sc (.int .i64 k)∧k≤s.data.toList.length∧m=s.data.toList.length-k∧LowI h s.data.toList k h') s.data.toList.length ?_ ?_
   ·simp only[Ty.w,simprocAttr];refine⟨0,rfl,by omega,rfl,(Grow.refl h).new _,[],rfl,?_⟩;simp[Heap.new]
   ·rintro m S h' ⟨g4,g16,g17,k,g18,hk,rfl,hI⟩;by_cases hlt:k<s.data.toList.length
    ·have hd:decide ((k:Int)<(s.data.toList.length:Int))=true:=(by simp;omega);have w7:IntKind.i64.wrap ((k:Int)+1)=k+1:=(by rw[wrap64 (by omega) (by omega)]);obtain⟨c,hx⟩: ∃ c,s.data.toList[k]? =some c:=⟨_,List.getElem?_eq_getElem hlt⟩;obtain⟨p,hp,ho⟩:=hI.ex;have hpl:=lowL_len hp;rw[List.length_take]at hpl;have hgr:=hI.grow;have hlen:(bytesR (p++s.data.toList.drop k)).length=s.data.toList.length:=(by rw[bytesR_len,List.length_append,List.length_drop];omega);have hr:(bytesR (p++s.data.toList.drop k))[k]? =some [.sc (.int .u8 c.toNat)]:=by
      refine bytesR_get ?_;rw[List.getElem?_append_right (by omega),List.getElem?_drop,show k+(k-p.length)=k by omega];exact hx
     have bad:lowB c=none→PV.tup [.sc (.string ⟨#[]⟩),.sc (.bool false)]= .tup [sPV (lowS s).1,.sc (.bool (lowS s).2)]:=fun e=>(by rw[hS,lowL_none hx e]);generalize hrows:bytesR (p++s.data.toList.drop k)=rows at ho hlen hr;have hho:=ho;rcases byte_cls5 c with⟨hup,hlet,a1,a3⟩|⟨hup,a1,a2⟩|⟨hup,hlet,a1,a2,a3⟩|⟨hup,hlet,a1,a2,a3,a4⟩|⟨hup,hlet,a1,a2,a3,a4⟩
     ·cases hg:digB c with
      |true=>
       have hw:wB c=true:=(by simp[wB,hg]);replace zz:=uu12 g4 g16 g17 g18 hd hho hlen hr hlt @Nat.zero_add a1 a3;refine wt zz ?_;replace zz:=uu12 g4 g16 g17 g18 hd hho hlen hr hlt @Nat.zero_add a1 (uu a3 hg);refine uU zz (digit_c (c:=c)) ?_;replace zz:=uu12 g4 g16 g17 g18 hd hho hlen hr hlt @Nat.zero_add a1 (uu3 a3 hg w7);refine wt zz ?_;exact⟨s.data.toList.length-(k+1),by omega,k+1,by simp,by omega,rfl,hI.keep hx (by simp[lowB,hup,hw])⟩
      |false=>
       cases hs2:signs.contains c with
       |true=>
        have hw:wB c=true:=(by simp only[wB,hs2,Bool.or_true]);have hfi:decide (firstIdx ⟨#[45,95,63,58,60,62,61,43,42]⟩ c≥0)=true:=(by rw[firstIdx_ge];exact hs2);replace zz:=uu12 g4 g16 g17 g18 hd hho hlen hr hlt @Nat.zero_add a1 a3;refine wt zz ?_;replace zz:=uu12 g4 g16 g17 g18 hd hho hlen hr hlt @Nat.zero_add a1 (uu a3 hg);refine uU zz (digit_c (c:=c)) ?_;refine wt zz ?_;replace zz:=uu12 g4 g16 g17 g18 hd hho hlen hr hlt @Nat.zero_add a1 (uu3 a3 hg hfi);refine uU zz (indexByte_c (s:=⟨#[45,95,63,58,60,62,61,43,42]⟩) (c:=c)) ?_;replace zz:=uu12 g4 g16 g17 g18 hd hho hlen hr hlt @Nat.zero_add a1 (uu4 a3 hg hfi w7);refine wt zz ?_;exact⟨s.data.toList.length-(k+1),by omega,k+1,by simp,by omega,rfl,hI.keep hx (by simp[lowB,hup,hw])⟩
       |false=>
        have hw:wB c=false:=(by simp only[wB,hs2,hg,hlet,Bool.or_false]);have hfi:decide (firstIdx ⟨#[45,95,63,58,60,62,61,43,42]⟩ c≥0)=false:=(by rw[firstIdx_ge];exact hs2);replace zz:=uu12 g4 g16 g17 g18 hd hho hlen hr hlt @Nat.zero_add a1 a3;refine wt zz ?_;replace zz:=uu12 g4 g16 g17 g18 hd hho hlen hr hlt @Nat.zero_add a1 (uu a3 hg);refine uU zz (digit_c (c:=c)) ?_;refine wt zz ?_;replace zz:=uu12 g4 g16 g17 g18 hd hho hlen hr hlt @Nat.zero_add a1 (uu3 a3 hg hfi);refine uU zz (indexByte_c (s:=⟨#[45,95,63,58,60,62,61,43,42]⟩) (c:=c)) ?_;refine wt zz ?_;exact⟨bad (by simp[lowB,hup,hw]),hgr⟩
     ·have hu:65≤c.toNat∧c.toNat≤90:=(by simpa[upB]using hup);have hadd:(c+32).toNat=c.toNat+32:=(by rw[UInt8.toNat_add];simp;omega);have w1:IntKind.u8.wrap ((c.toNat:Int)+97)=(c.toNat:Int)+97:=u8w _ (by omega) (by omega);have w2:IntKind.u8.wrap ((c.toNat:Int)+97-65)=((c+32).toNat:Int):=(by rw[u8w _ (by omega) (by omega),hadd];omega);replace zz:=uu12 g4 g16 g17 g18 hd hho hlen hr hlt a1 a2 (uu4 w1 w2 w7 @Nat.zero_add);refine wt zz ?_;exact⟨s.data.toList.length-(k+1),by omega,k+1,by simp,by omega,rfl,hI.put hx (by simp[lowB,hup]) ho⟩
     ·cases hg:digB c with
      |true=>
       have hw:wB c=true:=(by simp[wB,hg]);replace zz:=uu12 g4 g16 g17 g18 hd hho hlen hr hlt @Nat.zero_add a1 (uu a2 a3);refine wt zz ?_;replace zz:=uu12 g4 g16 g17 g18 hd hho hlen hr hlt @Nat.zero_add a1 (uu3 a2 a3 hg);refine uU zz (digit_c (c:=c)) ?_;replace zz:=uu12 g4 g16 g17 g18 hd hho hlen hr hlt @Nat.zero_add a1 (uu4 a2 a3 hg w7);refine wt zz ?_;exact⟨s.data.toList.length-(k+1),by omega,k+1,by simp,by omega,rfl,hI.keep hx (by simp[lowB,hup,hw])⟩
      |false=>
       cases hs2:signs.contains c with
       |true=>
        have hw:wB c=true:=(by simp only[wB,hs2,Bool.or_true]);have hfi:decide (firstIdx ⟨#[45,95,63,58,60,62,61,43,42]⟩ c≥0)=true:=(by rw[firstIdx_ge];exact hs2);replace zz:=uu12 g4 g16 g17 g18 hd hho hlen hr hlt @Nat.zero_add a1 (uu a2 a3);refine wt zz ?_;replace zz:=uu12 g4 g16 g17 g18 hd hho hlen hr hlt @Nat.zero_add a1 (uu3 a2 a3 hg);refine uU zz (digit_c (c:=c)) ?_;refine wt zz ?_;replace zz:=uu12 g4 g16 g17 g18 hd hho hlen hr hlt @Nat.zero_add a1 (uu4 a2 a3 hg hfi);refine uU zz (indexByte_c (s:=⟨#[45,95,63,58,60,62,61,43,42]⟩) (c:=c)) ?_;replace zz:=uu12 g4 g16 g17 g18 hd hho hlen hr hlt @Nat.zero_add a1 (uu5 a2 a3 hg hfi w7);refine wt zz ?_;exact⟨s.data.toList.length-(k+1),by omega,k+1,by simp,by omega,rfl,hI.keep hx (by simp[lowB,hup,hw])⟩
       |false=>
        have hw:wB c=false:=(by simp only[wB,hs2,hg,hlet,Bool.or_false]);have hfi:decide (firstIdx ⟨#[45,95,63,58,60,62,61,43,42]⟩ c≥0)=false:=(by rw[firstIdx_ge];exact hs2);replace zz:=uu12 g4 g16 g17 g18 hd hho hlen hr hlt @Nat.zero_add a1 (uu a2 a3);refine wt zz ?_;replace zz:=uu12 g4 g16 g17 g18 hd hho hlen hr hlt @Nat.zero_add a1 (uu3 a2 a3 hg);refine uU zz (digit_c (c:=c)) ?_;refine wt zz ?_;replace zz:=uu12 g4 g16 g17 g18 hd hho hlen hr hlt @Nat.zero_add a1 (uu4 a2 a3 hg hfi);refine uU zz (indexByte_c (s:=⟨#[45,95,63,58,60,62,61,43,42]⟩) (c:=c)) ?_;refine wt zz ?_;exact⟨bad (by simp[lowB,hup,hw]),hgr⟩
     ·replace zz:=uu12 g4 g16 g17 g18 hd hho hlen hr hlt a1 a2 (uu4 a3 a4 w7 @Nat.zero_add);refine wt zz ?_;exact⟨s.data.toList.length-(k+1),by omega,k+1,by simp,by omega,rfl,hI.keep hx (by simp[lowB,hup,wB,hlet])⟩
     ·cases hg:digB c with
      |true=>
       have hw:wB c=true:=(by simp[wB,hg]);replace zz:=uu12 g4 g16 g17 g18 hd hho hlen hr hlt @Nat.zero_add a1 (uu3 a2 a3 a4);refine wt zz ?_;replace zz:=uu12 g4 g16 g17 g18 hd hho hlen hr hlt @Nat.zero_add a1 (uu4 a2 a3 a4 hg);refine uU zz (digit_c (c:=c)) ?_;replace zz:=uu12 g4 g16 g17 g18 hd hho hlen hr hlt @Nat.zero_add a1 (uu5 a2 a3 a4 hg w7);refine wt zz ?_;exact⟨s.data.toList.length-(k+1),by omega,k+1,by simp,by omega,rfl,hI.keep hx (by simp[lowB,hup,hw])⟩
      |false=>
       cases hs2:signs.contains c with
       |true=>
        have hw:wB c=true:=(by simp only[wB,hs2,Bool.or_true]);have hfi:decide (firstIdx ⟨#[45,95,63,58,60,62,61,43,42]⟩ c≥0)=true:=(by rw[firstIdx_ge];exact hs2);replace zz:=uu12 g4 g16 g17 g18 hd hho hlen hr hlt @Nat.zero_add a1 (uu3 a2 a3 a4);refine wt zz ?_;replace zz:=uu12 g4 g16 g17 g18 hd hho hlen hr hlt @Nat.zero_add a1 (uu4 a2 a3 a4 hg);refine uU zz (digit_c (c:=c)) ?_;refine wt zz ?_;replace zz:=uu12 g4 g16 g17 g18 hd hho hlen hr hlt @Nat.zero_add a1 (uu5 a2 a3 a4 hg hfi);refine uU zz (indexByte_c (s:=⟨#[45,95,63,58,60,62,61,43,42]⟩) (c:=c)) ?_;replace zz:=uu12 g4 g16 g17 g18 hd hho hlen hr hlt @Nat.zero_add a1 (uu6 a2 a3 a4 hg hfi w7);refine wt zz ?_;exact⟨s.data.toList.length-(k+1),by omega,k+1,by simp,by omega,rfl,hI.keep hx (by simp[lowB,hup,hw])⟩
       |false=>
        have hw:wB c=false:=(by simp only[wB,hs2,hg,hlet,Bool.or_false]);have hfi:decide (firstIdx ⟨#[45,95,63,58,60,62,61,43,42]⟩ c≥0)=false:=(by rw[firstIdx_ge];exact hs2);replace zz:=uu12 g4 g16 g17 g18 hd hho hlen hr hlt @Nat.zero_add a1 (uu3 a2 a3 a4);refine wt zz ?_;replace zz:=uu12 g4 g16 g17 g18 hd hho hlen hr hlt @Nat.zero_add a1 (uu4 a2 a3 a4 hg);refine uU zz (digit_c (c:=c)) ?_;refine wt zz ?_;replace zz:=uu12 g4 g16 g17 g18 hd hho hlen hr hlt @Nat.zero_add a1 (uu5 a2 a3 a4 hg hfi);refine uU zz (indexByte_c (s:=⟨#[45,95,63,58,60,62,61,43,42]⟩) (c:=c)) ?_;refine wt zz ?_;exact⟨bad (by simp[lowB,hup,hw]),hgr⟩
    ·have hd:decide ((k:Int)<(s.data.toList.length:Int))=false:=(by simp;omega);have hke:k=s.data.toList.length:=(by omega);subst hke;obtain⟨p,hp,ho⟩:=hI.ex;rw[List.take_length]at hp;rw[List.drop_length,List.append_nil]at ho;have hpl:=lowL_len hp;have hlen:(bytesR p).length=s.data.toList.length:=(by rw[bytesR_len];exact hpl);have htk:List.take s.data.toList.length (bytesR p)=bytesR p:=(by rw[List.take_of_length_le (by omega)]);have hbr:=byteRow_bytesR p;replace zz:=uu10 g4 g16 g17 g18 hd ho hlen htk hbr @Nat.zero_add;(repeat'(first|refine cK ?_|refine nK ?_|refine a_seq fun K hK=>?_|refine uR zz ?_|refine uT zz ?_|refine uX ?_|refine uC1 zz ?_|(refine uN hK ?_;clear hK)|(clear hK;refine uN hK ?_;clear hK)|(rw[if_pos];rotate_left 1;omega;simp(maxSteps:=2000000) only[Ty.w,simprocAttr,g4,g16,g17,g18,hd,ho,hlen,htk,hbr,Nat.zero_add])|apply zI));rw[hS,hp];exact⟨rfl,hI.grow⟩
end Go.Proofs.YtblgchkahpgdjaaGreat
namespace Go.Proofs.YtblgchkahpgdjaaGreat
open Go.AM
set_option maxHeartbeats 2000000
set_option maxRecDepth 20000
theorem drop_of_get{α:Type}{l:List α}{k:Nat}{a:α}(h:l[k]? =some a):l.drop k=a::l.drop (k+1):=by
 obtain⟨hl,rfl⟩:=List.getElem?_eq_some_iff.1 h;exact List.drop_eq_getElem_cons hl
theorem bsEq_len: ∀ {l m:List ByteArray},¬ l.length=m.length→bsEq l m=false
 |[],[],h=>by simp at h
 |[],_::_,_=>rfl
 |_::_,[],_=>rfl
 |a::l,b::m,h=>by simp only[bsEq,bsEq_len (l:=l) (m:=m) (by simpa using h),Bool.and_false]
theorem pmsEq_len: ∀ {l m:List Pm},¬ l.length=m.length→pmsEq l m=false
 |[],[],h=>by simp at h
 |[],_::_,_=>rfl
 |_::_,[],_=>rfl
 |a::l,b::m,h=>by simp only[pmsEq,pmsEq_len (l:=l) (m:=m) (by simpa using h),Bool.and_false]
theorem ftexts_c{h:Heap}{l m:List ByteArray}(hl:l.length≤bigN)(hm:m.length≤bigN):PCall Tryz.prog 137 [.imm 1 (strRows l),.imm 1 (strRows m)] h fun r h'=>r= .sc (.bool (bsEq l m))∧h'=h:=by
 unfold bigN at hl hm;have hll:=strRows_len l;have hlm:=strRows_len m;refine uG0 Tryz.func137 Tryz.ntmps137 Tryz.results137 Ty.hb_137 ?_;cases hne:((l.length:Int) !=m.length)with
 |true=>
  have:bsEq l m=false:=bsEq_len (by simp at hne;omega);refine wt (uu3 hll hlm hne) ?_;rw[this]
 |false=>
  have hlen:l.length=m.length:=by simp at hne;omega
  refine wt (uu3 hll hlm hne) ?_;refine a_loop (fun c S h'=>h'=h∧S 0= .imm 1 (strRows l)∧S 1= .imm 1 (strRows m)∧S 12= .sc (.int .i64 l.length)∧ ∃ k:Nat,S 13= .sc (.int .i64 k)∧k≤l.length∧c=l.length-k∧bsEq l m=bsEq (l.drop k) (m.drop k)) l.length ?_ ?_
  ·simp only[Ty.w,simprocAttr];exact⟨0,rfl,by omega,rfl,by simp⟩
  ·rintro c S h' ⟨rfl,g0,g1,g12,k,gk,hkl,rfl,hinv⟩;by_cases hlt:k<l.length
   ·have hd:decide ((k:Int)<(l.length:Int))=true:=(by simp;omega);have w7:IntKind.i64.wrap ((k:Int)+1)=k+1:=(by rw[wrap64 (by omega) (by omega)]);obtain⟨a,hx⟩: ∃ a,l[k]? =some a:=⟨_,List.getElem?_eq_getElem hlt⟩;obtain⟨b,hy⟩: ∃ b,m[k]? =some b:=⟨_,List.getElem?_eq_getElem (by omega)⟩;rw[drop_of_get hx,drop_of_get hy]at hinv;simp only[bsEq]at hinv;have hr:=strRows_get hx;have hr2:=strRows_get hy;cases he:(a.data.toList==b.data.toList)with
    |false=>
     simp only[bEq,he,Bool.false_and]at hinv;replace zz:=uu12 g0 g1 g12 gk hll hlm hd hr hr2 he w7 yF;refine wy zz ?_;rw[hinv]
    |true=>
     simp only[bEq,he,Bool.true_and]at hinv;replace zz:=uu12 g0 g1 g12 gk hll hlm hd hr hr2 he w7 yT;refine wy zz ?_;exact⟨l.length-(k+1),by omega,k+1,by simp,by omega,rfl,hinv⟩
   ·have hd:decide ((k:Int)<(l.length:Int))=false:=(by simp;omega);rw[List.drop_eq_nil_of_le (by omega),List.drop_eq_nil_of_le (by omega)]at hinv;simp only[bsEq]at hinv;replace zz:=uu6 g0 g1 g12 gk hll hd;refine wt zz ?_;rw[hinv]
theorem rtexts_c{h:Heap}{l m:List ByteArray}(hl:l.length≤bigN)(hm:m.length≤bigN):PCall Tryz.prog 115 [.imm 1 (strRows l),.imm 1 (strRows m)] h fun r h'=>r= .sc (.bool (bsEq l m))∧h'=h:=by
 unfold bigN at hl hm;have hll:=strRows_len l;have hlm:=strRows_len m;refine uG0 Tryz.func115 Tryz.ntmps115 Tryz.results115 Ty.hb_115 ?_;cases hne:((l.length:Int) !=m.length)with
 |true=>
  have:bsEq l m=false:=bsEq_len (by simp at hne;omega);refine wt (uu3 hll hlm hne) ?_;rw[this]
 |false=>
  have hlen:l.length=m.length:=by simp at hne;omega
  refine wt (uu3 hll hlm hne) ?_;refine a_loop (fun c S h'=>h'=h∧S 0= .imm 1 (strRows l)∧S 1= .imm 1 (strRows m)∧ ∃ k:Nat,S 5= .sc (.int .i64 k)∧k≤l.length∧c=l.length-k∧bsEq l m=bsEq (l.drop k) (m.drop k)) l.length ?_ ?_
  ·simp only[Ty.w,simprocAttr];exact⟨0,rfl,by omega,rfl,by simp⟩
  ·rintro c S h' ⟨rfl,g0,g1,k,gk,hkl,rfl,hinv⟩;by_cases hlt:k<l.length
   ·have hd:decide ((k:Int)<(l.length:Int))=true:=(by simp;omega);have w7:IntKind.i64.wrap ((k:Int)+1)=k+1:=(by rw[wrap64 (by omega) (by omega)]);obtain⟨a,hx⟩: ∃ a,l[k]? =some a:=⟨_,List.getElem?_eq_getElem hlt⟩;obtain⟨b,hy⟩: ∃ b,m[k]? =some b:=⟨_,List.getElem?_eq_getElem (by omega)⟩;rw[drop_of_get hx,drop_of_get hy]at hinv;simp only[bsEq]at hinv;have hr:=strRows_get hx;have hr2:=strRows_get hy;cases he:(a.data.toList==b.data.toList)with
    |false=>
     simp only[bEq,he,Bool.false_and]at hinv;replace zz:=uu11 g0 g1 gk hll hlm hd hr hr2 he w7 yF;refine wy zz ?_;rw[hinv]
    |true=>
     simp only[bEq,he,Bool.true_and]at hinv;replace zz:=uu11 g0 g1 gk hll hlm hd hr hr2 he w7 yT;refine wy zz ?_;exact⟨l.length-(k+1),by omega,k+1,by simp,by omega,rfl,hinv⟩
   ·have hd:decide ((k:Int)<(l.length:Int))=false:=(by simp;omega);rw[List.drop_eq_nil_of_le (by omega),List.drop_eq_nil_of_le (by omega)]at hinv;simp only[bsEq]at hinv;replace zz:=uu5 g0 g1 gk hll hd;refine wt zz ?_;rw[hinv]
theorem fparams_c{h:Heap}{l m:List Pm}(hl:l.length≤bigN)(hm:m.length≤bigN):PCall Tryz.prog 69 [.imm 2 (pmRows l),.imm 2 (pmRows m)] h fun r h'=>r= .sc (.bool (pmsEq l m))∧h'=h:=by
 unfold bigN at hl hm;have hll:=pmRows_len l;have hlm:=pmRows_len m;refine uG0 Tryz.func69 Tryz.ntmps69 Tryz.results69 Ty.hb_69 ?_;cases hne:((l.length:Int) !=m.length)with
 |true=>
  have:pmsEq l m=false:=pmsEq_len (by simp at hne;omega);refine wt (uu3 hll hlm hne) ?_;rw[this]
 |false=>
  have hlen:l.length=m.length:=by simp at hne;omega
  refine wt (uu3 hll hlm hne) ?_;refine a_loop (fun c S h'=>h'=h∧S 0= .imm 2 (pmRows l)∧S 1= .imm 2 (pmRows m)∧S 12= .sc (.int .i64 l.length)∧ ∃ k:Nat,S 13= .sc (.int .i64 k)∧k≤l.length∧c=l.length-k∧pmsEq l m=pmsEq (l.drop k) (m.drop k)) l.length ?_ ?_
  ·simp only[Ty.w,simprocAttr];exact⟨0,rfl,by omega,rfl,by simp⟩
  ·rintro c S h' ⟨rfl,g0,g1,g12,k,gk,hkl,rfl,hinv⟩;by_cases hlt:k<l.length
   ·have hd:decide ((k:Int)<(l.length:Int))=true:=(by simp;omega);have w7:IntKind.i64.wrap ((k:Int)+1)=k+1:=(by rw[wrap64 (by omega) (by omega)]);obtain⟨a,hx⟩: ∃ a,l[k]? =some a:=⟨_,List.getElem?_eq_getElem hlt⟩;obtain⟨b,hy⟩: ∃ b,m[k]? =some b:=⟨_,List.getElem?_eq_getElem (by omega)⟩;rw[drop_of_get hx,drop_of_get hy]at hinv;simp only[pmsEq]at hinv;have hr:=pmRows_get hx;have hr2:=pmRows_get hy;cases he:pmEq a b with
    |false=>
     have he':(a.name.data.toList==b.name.data.toList&&a.type.data.toList==b.type.data.toList)=false:=he;rw[he,Bool.false_and]at hinv;replace zz:=uu12 g0 g1 g12 gk hll hlm hd hr hr2 he' w7 yF;refine wy zz ?_;rw[hinv]
    |true=>
     have he':(a.name.data.toList==b.name.data.toList&&a.type.data.toList==b.type.data.toList)=true:=he;rw[he,Bool.true_and]at hinv;replace zz:=uu12 g0 g1 g12 gk hll hlm hd hr hr2 he' w7 yT;refine wy zz ?_;exact⟨l.length-(k+1),by omega,k+1,by simp,by omega,rfl,hinv⟩
   ·have hd:decide ((k:Int)<(l.length:Int))=false:=(by simp;omega);rw[List.drop_eq_nil_of_le (by omega),List.drop_eq_nil_of_le (by omega)]at hinv;simp only[pmsEq]at hinv;replace zz:=uu6 g0 g1 g12 gk hll hd;refine wt zz ?_;rw[hinv]
end Go.Proofs.YtblgchkahpgdjaaGreat
namespace Go.AM
def Tl(h:Heap)(id0 z:Nat)(p:PV)(rows:List (List PV)):Prop:=
 (rows=[]∧(p= .sc (.slice none 0 0)∨p= .emp))∨ ∃ id,id0≤id∧id<h.next∧p= .own id 0 rows.length∧h.obj id=some (.arr z rows)
variable {h:Heap}{id0 z:Nat}{p:PV}{rows:List (List PV)}
theorem Tl.nil:Tl h id0 z (.sc (.slice none 0 0)) []:= .inl ⟨rfl,.inl rfl⟩
theorem Tl.tail(t:Tl h id0 z p rows): ∃ H,isTail h p=some (H,rows)∧zOk h z p=true∧H.next=h.next∧(∀ j,j<id0→H.obj j=h.obj j)∧(∀ h0,Keep h0 h→h0.next≤id0→Keep h0 H):=by
 rcases t with⟨rfl,rfl|rfl⟩|⟨id,h1,h2,rfl,ho⟩
 ·exact ⟨h,rfl,rfl,rfl,fun _ _=>rfl,fun _ hk _=>hk⟩
 ·exact ⟨h,rfl,rfl,rfl,fun _ _=>rfl,fun _ hk _=>hk⟩
 ·refine ⟨h.kill id,by simp[isTail,ho],by simp[zOk,ho],rfl,fun j hj=>?_,fun h0 hk hn=>keep_kill (by omega) hk⟩;rw[kill_obj,if_neg (by omega)]
theorem Tl.grow{H:Heap}{len:Nat}(hn:id0≤H.next)(hl:len=rows.length):Tl (H.new (.arr z rows)) id0 z (.own H.next 0 len) rows:=
 .inr ⟨H.next,hn,Nat.lt_succ_self _,by rw[hl],by rw[new_obj,if_pos rfl]⟩
theorem Tl.up{h':Heap}(t:Tl h id0 z p rows)(hn:h.next≤h'.next)(ho: ∀ j,id0≤j→j<h.next→h'.obj j=h.obj j):Tl h' id0 z p rows:=by
 rcases t with ht|⟨id,h1,h2,rfl,h3⟩
 ·exact .inl ht
 ·exact .inr ⟨id,h1,by omega,rfl,by rw[ho id h1 h2];exact h3⟩
theorem owp_useH{P:Program}{ow:Nat→Bool}{n:Nat}{s:Slots}{f:FuncId}{dst:Option Tmp}{args:List Operand}{ts:Array TypeId}{ty:TypeId}{pos:String}{af:Array Edge}{gd:Option (Nat × Bool)}{ags:List PV}{v:PV}{h1:Heap}{K:Slots→Heap→Prop}{ops rest:List Oper}
  (hc:PCall P f ags h fun r h'=>r=v∧h'=h1)(ha:args.map (pev s)=ags)(hk:lwn P ow n ops rest K (updO s dst v) h1):
  owp P ow {dst:=dst,op:= .call {callee:= .value (.func f),args:=args.toArray,argTypes:=ts},type:=ty,pos:=pos,after:=af,guard:=gd} (lwp P ow n ops rest K) s h:=
 owp_useL hc ha fun r h' hr=>by rw[hr.1,hr.2];exact hk
end Go.AM
namespace Go.Proofs.YtblgchkahpgdjaaGreat
open Go.AM
set_option maxHeartbeats 2000000
set_option maxRecDepth 20000
structure GrowX(h:Heap)(id:Nat)(o:AObj)(h':Heap):Prop where
 le:h.next≤h'.next
 old: ∀ i,i<h.next→i≠id→h'.obj i=h.obj i
 at_:h'.obj id=some o
theorem GrowX.new{h h':Heap}{id:Nat}{o o2:AObj}(g:GrowX h id o h')(hid:id<h.next):GrowX h id o (h'.new o2):=
 ⟨Nat.le_trans g.le (by simp[Heap.new]),fun i hi hne=>by simp only[Heap.new];rw[if_neg (by have:=g.le;omega)];exact g.old i hi hne,by simp only[Heap.new];rw[if_neg (by have:=g.le;omega)];exact g.at_⟩
theorem GrowX.set{h h':Heap}{id j:Nat}{o o2:AObj}(g:GrowX h id o h')(hid:id<h.next)(hj:h.next≤j):GrowX h id o (h'.set j o2):=
 ⟨g.le,fun i hi hne=>by simp only[Heap.set];rw[if_neg (by omega)];exact g.old i hi hne,by simp only[Heap.set];rw[if_neg (by omega)];exact g.at_⟩
theorem GrowX.put{h h':Heap}{id:Nat}{o o2:AObj}(g:GrowX h id o h'):GrowX h id o2 (h'.set id o2):=
 ⟨g.le,fun i hi hne=>by simp only[Heap.set];rw[if_neg hne];exact g.old i hi hne,by simp[Heap.set]⟩
theorem GrowX.refl{h:Heap}{id:Nat}{o:AObj}(ho:h.obj id=some o):GrowX h id o h:=⟨Nat.le_refl _,fun _ _ _=>rfl,ho⟩
theorem PCall.quietX{P:Program}{f:FuncId}{args:List PV}{h:Heap}{v:Value}{id:Nat}{o o0:AObj}(hb:hasBody P f=true)(hid:h.obj id=some o0)(hfl:inNO h.next o)(hc:PCall P f args h fun r h'=>r= .sc v∧GrowX h id o h'):
  PCall P f args h fun r h'=>r= .sc v∧h'=h.set id o:=by
 refine pcall_wf hb fun hw=>PCall.drop (hc.mono ?_);rintro r h' ⟨rfl,g⟩;refine⟨.sc v,h.set id o,⟨rfl,rfl⟩,by simp only[FrzTo],Nat.le_refl _,fun i oo ho=>?_⟩;have hlt:=hw id (by rw[hid];try rfl);simp only[Heap.set]at ho;split at ho
 ·rename_i hi;subst hi;simp at ho;subst ho;exact⟨g.at_,hlt,.inr hfl⟩
 ·rename_i hi;have h1:=hw i (by rw[ho];try rfl);exact⟨by rw[g.old i h1 hi];exact ho,h1,.inl ho⟩
theorem lowS_size(s:ByteArray):(lowS s).1.size≤32:=by
 unfold lowS;split
 ·rename_i hc;split
  ·rename_i l hl;have h1:=lowL_len hl;have hsl:s.data.toList.length=s.size:=(by rw[Array.length_toList];try rfl);have:(ByteArray.mk l.toArray).size=l.length:=(by simp[ByteArray.size]);simp only[this];omega
  ·simp [ByteArray.size]
 ·simp [ByteArray.size]
mutual
theorem svalid_le: ∀ (x:Sx)(d n:Nat),(svalid x d n).1=true→(svalid x d n).2≤4096
 | .mk kind value line col text kids,d,n=>by
  unfold svalid;split
  ·simp
  ·rename_i hn;split
   ·intro _;simp only;omega
   ·split
    ·intro _;simp only;omega
    ·split
     ·split
      ·exact svalids_le kids (d+1) (n+1) (by omega)
      ·simp
     ·simp
theorem svalids_le: ∀ (l:List Sx)(d n:Nat),n≤4096→(svalids l d n).1=true→(svalids l d n).2≤4096
 |[],d,n,hn=>by simp[svalids,hn]
 |k::ks,d,n,hn=>by
  unfold svalids;have h1:=svalid_le k d n;split
  ·rename_i n' he;rw[he]at h1;exact svalids_le ks d n' (h1 rfl)
  ·simp
end
theorem natc(n:Nat):((n+1:Nat):Int)=(n:Int)+1:=by simp
def cntO(n:Nat):AObj:= .arr 1 [[.sc (.int .i64 n)]]
theorem valid_c: ∀ (x:Sx),x.ok→ ∀ (d n:Nat),d≤32→n≤4096→ ∀ (id:Nat)(h:Heap),h.obj id=some (cntO n)→
  PCall Tryz.prog 101 [.agg x.cells,.sc (.int .i64 d),.ptr id 0 0] h fun r h'=>r= .sc (.bool (svalid x d n).1)∧h'=h.set id (cntO (svalid x d n).2):=by
 refine Sx.ind ?_;intro kind value line col text kids ih hok d n hd hn id h ho;simp only[Sx.ok]at hok;obtain⟨_,_,ht,hk,hks⟩:=hok;rw[Sx.oks_iff]at hks;have hlen:=Sx.rows_len kids;have wn:IntKind.i64.wrap ((n:Int)+1)=(n:Int)+1:=by rw[wrap64 (by omega) (by omega)]
 refine pcall_wf Ty.hb_101 fun hwf=>?_;have hid:id<h.next:=hwf id (by rw[ho];try rfl)
 refine PCall.quietX Ty.hb_101 ho (by simp[cntO,inNO,inNR,inNL,inN]) ?_;have ho':=ho;simp only[cntO]at ho';have G1:GrowX h id (cntO (n+1)) (h.set id (.arr 1 [[.sc (.int .i64 ((n:Int)+1))]])):=by
  have:=(GrowX.refl ho).put (o2:=cntO (n+1));simp only[cntO,natc]at this⊢;exact this
 unfold svalid;simp only[Sx.cells];cases b0:decide ((n:Int)+1>4096)with
 |true=>
  rw[if_pos (by simp at b0;omega)];refine uG0 Tryz.func101 Tryz.ntmps101 Tryz.results101 Ty.hb_101 ?_;refine wt (uu3 ho' wn b0) ?_;first|exact G1|exact⟨rfl,G1⟩
 |false=>
  rw[if_neg (by simp at b0;omega)];cases k1:(kind==1)with
  |true=>
   have hk1:kind=1:=(by simpa using k1);rw[if_pos hk1];have e1:(kids.isEmpty)=((kids.length:Int)==0):=(by cases kids<;>simp;omega);have hlow:=fun h:Heap=>lower_c (h:=h) (s:=text);have hsz:=lowS_size text;have hW:wordB text=((lowS text).2&&((lowS text).1.data.toList==text.data.toList)&&!(numB (lowS text).1)):=rfl;generalize hL:lowS text=L at hlow hsz hW;obtain⟨w,ok⟩:=L;simp only at hlow hsz hW;have hwb:w.size≤bigN:=(by unfold bigN;omega);rw[hW];cases ok with
   |false=>
    refine uG0 Tryz.func101 Tryz.ntmps101 Tryz.results101 Ty.hb_101 ?_;replace zz:=uu4 ho' wn b0 k1;refine wt zz ?_;replace zz:=uu4 ho' wn b0 k1;refine uU zz (hlow _) ?_;refine wt zz ?_;first|exact G1|exact⟨rfl,G1⟩
   |true=>
    cases c1:(w.data.toList==text.data.toList)with
    |false=>
     refine uG0 Tryz.func101 Tryz.ntmps101 Tryz.results101 Ty.hb_101 ?_;replace zz:=uu4 ho' wn b0 k1;refine wt zz ?_;replace zz:=uu4 ho' wn b0 k1;refine uU zz (hlow _) ?_;replace zz:=uu5 ho' wn b0 k1 c1;refine wt zz ?_;first|exact G1|exact⟨rfl,G1⟩
    |true=>
     cases c2:numB w with
     |true=>
      refine uG0 Tryz.func101 Tryz.ntmps101 Tryz.results101 Ty.hb_101 ?_;replace zz:=uu4 ho' wn b0 k1;refine wt zz ?_;replace zz:=uu4 ho' wn b0 k1;refine uU zz (hlow _) ?_;replace zz:=uu5 ho' wn b0 k1 c1;refine wt zz ?_;replace zz:=uu7 ho' wn b0 k1 c1 c2 yT;refine uU zz (numeric_c (s:=w) hwb) ?_;refine wt zz ?_;first|exact G1|exact⟨rfl,G1⟩
     |false=>
      cases c3:(value==0)with
      |false=>
       have c3':decide (value=0)=false:=(by simpa using c3);refine uG0 Tryz.func101 Tryz.ntmps101 Tryz.results101 Ty.hb_101 ?_;replace zz:=uu4 ho' wn b0 k1;refine wt zz ?_;replace zz:=uu4 ho' wn b0 k1;refine uU zz (hlow _) ?_;replace zz:=uu5 ho' wn b0 k1 c1;refine wt zz ?_;replace zz:=uu9 ho' wn b0 k1 c1 c2 c3 hlen yF;refine uU zz (numeric_c (s:=w) hwb) ?_;replace zz:=uu8 ho' wn b0 k1 c1 c2 c3 yF;refine wt zz ?_;first|exact G1|exact⟨by simp only[c3',Bool.and_false,Bool.false_and],G1⟩
      |true=>
       have c3':decide (value=0)=true:=(by simpa using c3);refine uG0 Tryz.func101 Tryz.ntmps101 Tryz.results101 Ty.hb_101 ?_;replace zz:=uu4 ho' wn b0 k1;refine wt zz ?_;replace zz:=uu4 ho' wn b0 k1;refine uU zz (hlow _) ?_;replace zz:=uu5 ho' wn b0 k1 c1;refine wt zz ?_;replace zz:=uu9 ho' wn b0 k1 c1 c2 c3 hlen yF;refine uU zz (numeric_c (s:=w) hwb) ?_;replace zz:=uu9 ho' wn b0 k1 c1 c2 c3 yF hlen;refine wt zz ?_;exact⟨by simp only[c3',e1,Bool.not_false,Bool.true_and],G1⟩
  |false=>
   have hk1:¬ kind=1:=(by simpa using k1);rw[if_neg hk1];cases k2:(kind==2)with
   |true=>
    have hk2:kind=2:=(by simpa using k2);rw[if_pos hk2];have e1:(kids.isEmpty)=((kids.length:Int)==0):=(by cases kids<;>simp;omega);cases c1:(text.data.toList==(#[]:Array UInt8).toList)with
    |false=>
     refine uG0 Tryz.func101 Tryz.ntmps101 Tryz.results101 Ty.hb_101 ?_;replace zz:=uu6 ho' wn b0 k1 k2 c1;refine wt zz ?_;first|exact⟨by simp only[bEq,c1,Bool.false_and],G1⟩|(simp only[bEq,c1,e1,c2,Bool.true_and];exact G1)|exact G1
    |true=>
     cases c2:((kids.length:Int)==0)with
     |false=>
      refine uG0 Tryz.func101 Tryz.ntmps101 Tryz.results101 Ty.hb_101 ?_;replace zz:=uu8 ho' wn b0 k1 k2 c1 c2 hlen;refine wt zz ?_;first|exact⟨by simp only[bEq,c1,e1,c2,Bool.and_false,Bool.false_and],G1⟩|(simp only[bEq,c1,e1,c2,Bool.true_and];exact G1)|exact G1
     |true=>
      cases c3:decide (value≥ -1099511627776)with
      |false=>
       refine uG0 Tryz.func101 Tryz.ntmps101 Tryz.results101 Ty.hb_101 ?_;replace zz:=uu9 ho' wn b0 k1 k2 c1 c2 c3 hlen;refine wt zz ?_;have c3':decide (-1099511627776≤value)=false:=c3;first|exact⟨by simp only[bEq,c1,e1,c2,c3',Bool.and_false,Bool.false_and],G1⟩|(simp only[bEq,c1,e1,c2,Bool.true_and];exact G1)|exact G1
      |true=>
       refine uG0 Tryz.func101 Tryz.ntmps101 Tryz.results101 Ty.hb_101 ?_;replace zz:=uu9 ho' wn b0 k1 k2 c1 c2 c3 hlen;refine wt zz ?_;have c3':decide (-1099511627776≤value)=true:=c3;first|exact⟨by simp only[bEq,c1,e1,c2,c3',Bool.true_and],G1⟩|(simp only[bEq,c1,e1,c2,Bool.true_and];exact G1)|exact G1
   |false=>
    have hk2:¬ kind=2:=(by simpa using k2);rw[if_neg hk2];cases k3:(kind==3)with
    |false=>
     have hk3:¬ kind=3:=(by simpa using k3);rw[if_neg hk3];refine uG0 Tryz.func101 Tryz.ntmps101 Tryz.results101 Ty.hb_101 ?_;replace zz:=uu6 ho' wn b0 k1 k2 k3;refine wt zz ?_;first|exact G1|exact⟨rfl,G1⟩
    |true=>
     have hk3:kind=3:=(by simpa using k3);rw[if_pos hk3];cases c1:(text.data.toList==(#[]:Array UInt8).toList)with
     |false=>
      rw[if_neg (by simp[bEq,c1])];refine uG0 Tryz.func101 Tryz.ntmps101 Tryz.results101 Ty.hb_101 ?_;replace zz:=uu8 ho' wn b0 k1 k2 k3 c1 yF;refine wt zz ?_;first|exact G1|exact⟨rfl,G1⟩
     |true=>
      cases c2:(value !=0)with
      |true=>
       rw[if_neg (by simp at c2;simp[c2])];refine uG0 Tryz.func101 Tryz.ntmps101 Tryz.results101 Ty.hb_101 ?_;replace zz:=uu9 ho' wn b0 k1 k2 k3 c1 c2 yT;refine wt zz ?_;first|exact G1|exact⟨rfl,G1⟩
      |false=>
       cases c3:((d:Int)==32)with
       |true=>
        rw[if_neg (by simp at c3;simp;omega)];refine uG0 Tryz.func101 Tryz.ntmps101 Tryz.results101 Ty.hb_101 ?_;replace zz:=uu10 ho' wn b0 k1 k2 k3 c1 c2 c3 yT;refine wt zz ?_;first|exact G1|exact⟨rfl,G1⟩
       |false=>
        rw[if_pos (by simp at c2 c3;exact⟨c1,c2,by omega⟩)];refine uG0 Tryz.func101 Tryz.ntmps101 Tryz.results101 Ty.hb_101 ?_;replace zz:=uu11 ho' wn b0 k1 k2 k3 c1 c2 c3 yT hlen;refine wt zz ?_;generalize hV:svalids kids (d+1) (n+1)=V;refine a_loop (fun c S h'=>S 1= .sc (.int .i64 d)∧S 2= .ptr id 0 0∧S 89= .imm 6 (Sx.rows kids)∧S 90= .sc (.int .i64 kids.length)∧ ∃ k n':Nat,S 91= .sc (.int .i64 k)∧k≤kids.length∧c=kids.length-k∧n'≤4096∧GrowX h id (cntO n') h'∧V=svalids (kids.drop k) (d+1) n') kids.length ?_ ?_
        ·simp only[Ty.w,simprocAttr];exact⟨0,n+1,rfl,by omega,rfl,by simp at b0;omega,G1,hV.symm⟩
        ·(try clear zz);clear G1 ho';rintro c S h' ⟨g1,g2,g89,g90,k,n',g91,hkl,rfl,hn',hG,hinv⟩;by_cases hlt:k<kids.length
         ·have hdk:decide ((k:Int)<(kids.length:Int))=true:=(by simp;omega);have w7:IntKind.i64.wrap ((k:Int)+1)=k+1:=(by unfold bigN at hk;rw[wrap64 (by omega) (by omega)]);have wd:IntKind.i64.wrap ((d:Int)+1)=(d:Int)+1:=(by rw[wrap64 (by omega) (by omega)]);obtain⟨e,hx⟩: ∃ e,kids[k]? =some e:=⟨_,List.getElem?_eq_getElem hlt⟩;have hmem:=List.mem_of_getElem? hx;have hc:=ih e hmem (hks e hmem) (d+1) n' (by simp at c3;omega) hn' id;have hle:=svalid_le e (d+1) n';rw[drop_of_get hx]at hinv;simp only[svalids]at hinv;generalize svalid e (d+1) n'=W at hc hle hinv;obtain⟨b,n''⟩:=W;simp only[natc]at hc hle hinv;have hr:=Sx.rows_get hx;have hne:id≠h'.next:=by have:=hG.le;omega
          have hne':(h'.next=id)=False:=(by simp;omega);have hc2:=hc ((h'.new (.arr 6 [[.sc (.int .i64 0),.sc (.int .i64 0),.sc (.int .i64 0),.sc (.int .i64 0),.sc (.string ⟨#[]⟩),.sc (.slice none 0 0)]])).set h'.next (.arr 6 [e.cells])) (by simp only[Heap.set,Heap.new];rw[if_neg hne,if_neg hne];exact hG.at_);have hG2:GrowX h id (cntO n') ((h'.new (.arr 6 [[.sc (.int .i64 0),.sc (.int .i64 0),.sc (.int .i64 0),.sc (.int .i64 0),.sc (.string ⟨#[]⟩),.sc (.slice none 0 0)]])).set h'.next (.arr 6 [e.cells])):=(hG.new hid).set hid hG.le;obtain⟨ki,va,li,co,te,ks⟩:=e;simp only[Sx.cells]at hr hc2 hG2;replace zz:=uu9 g1 g2 g89 g90 g91 hlen hdk hr wd;refine wt zz ?_;refine owp_useH (hc2) (by(try simp only[Ty.w,simprocAttr,g1,g2,g89,g90,g91,hlen,hdk,hr,wd]);try rfl) ?_;simp(maxSteps:=2000000) only[Ty.w,simprocAttr,g1,g2,g89,g90,g91,hlen,hdk,hr,wd];cases b with
          |false=>
           subst hinv;replace zz:=uu7 g1 g2 g89 g90 g91 w7 yF;refine wt zz ?_;exact hG2.put
          |true=>
           replace zz:=uu7 g1 g2 g89 g90 g91 w7 yT;refine wt zz ?_;exact⟨kids.length-(k+1),by omega,k+1,n'',by simp,by omega,rfl,hle rfl,hG2.put,hinv⟩
         ·have hdk:decide ((k:Int)<(kids.length:Int))=false:=(by simp;omega);rw[List.drop_eq_nil_of_le (by omega)]at hinv;simp only[svalids]at hinv;subst hinv;replace zz:=uu6 g1 g2 g89 g90 g91 hdk;refine wt zz ?_;(try rw[hV]);first|exact⟨rfl,hG⟩|exact hG
theorem svalid_c{x:Sx}(hx:x.ok)(h:Heap):PCall Tryz.prog 47 [.agg x.cells] h fun r h'=>r= .sc (.bool (svalid x 0 0).1)∧h'=h:=by
 have hc:=valid_c x hx 0 0 (by omega) (by omega) h.next ((h.new (.arr 1 [[.sc (.int .i64 0)]])).set h.next (.arr 1 [[.sc (.int .i64 0)]])) (by simp[Heap.set,cntO])
 refine PCall.quiet Ty.hb_47 ?_;generalize svalid x 0 0=W at hc;obtain⟨b,n⟩:=W;obtain⟨ki,va,li,co,te,ks⟩:=x;simp only[Sx.cells,Int.natCast_zero]at hc⊢;refine uG0 Tryz.func47 Tryz.ntmps47 Tryz.results47 Ty.hb_47 ?_;refine wt trivial ?_;refine owp_useH (hc) (by(try simp only[Ty.w,simprocAttr]);try rfl) ?_;simp(maxSteps:=2000000) only[Ty.w,simprocAttr];refine wt trivial ?_;exact(((Grow.refl h).new _).set (Nat.le_refl _) _).set (Nat.le_refl _) _
end Go.Proofs.YtblgchkahpgdjaaGreat
namespace Go.Proofs.YtblgchkahpgdjaaGreat
open Go.AM
set_option maxHeartbeats 2000000
set_option maxRecDepth 20000
theorem sx_in(n:Nat): ∀ x:Sx,inNL n x.cells:=by
 refine Sx.ind ?_;intro kind value line col text kids ih;have:inNR n (Sx.rows kids):=by
  try clear zz
  clear kind value line col text
  induction kids with
  |nil=>simp only[Sx.rows,inNR]
  |cons k ks ih2=>
   simp only[Sx.rows,inNR];exact⟨ih k (by simp),ih2 fun q hq=>ih q (by simp[hq])⟩
 simp only[Sx.cells,inNL,inN,and_true,true_and];exact this
theorem sxs_in(n:Nat): ∀ l:List Sx,inNR n (Sx.rows l)
 |[]=>by simp only[Sx.rows,inNR]
 |k::ks=>by simp only[Sx.rows,inNR];exact⟨sx_in n k,sxs_in n ks⟩
theorem sx_frz(n:Nat)(h:Heap)(x:Sx):FrzL n h x.cells x.cells:=by
 obtain⟨kind,value,line,col,text,kids⟩:=x;simp only[Sx.cells,FrzL,FrzTo,and_true,true_and];exact .inl (sxs_in n kids)
theorem sxs_frz(n:Nat)(h:Heap): ∀ l:List Sx,FrzR n h (Sx.rows l) (Sx.rows l)
 |[]=>by simp only[Sx.rows,FrzR]
 |k::ks=>by simp only[Sx.rows,FrzR];exact⟨sx_frz n h k,sxs_frz n h ks⟩
theorem PCall.frz{P:Program}{f:FuncId}{args:List PV}{h:Heap}{v:PV}(hb:hasBody P f=true)(hc:PCall P f args h fun r' h'=>FrzTo h.next h' v r'∧Grow h h'):PCall P f args h fun r h'=>r=v∧h'=h:=by
 refine pcall_wf hb fun hw=>PCall.drop (hc.mono ?_);rintro r' h' ⟨hf,g⟩;refine⟨v,h,⟨rfl,rfl⟩,hf,Nat.le_refl _,fun id o ho=>?_⟩;have hid:=hw id (by rw[ho];try rfl);exact⟨by rw[g.old id hid];exact ho,hid,.inl ho⟩
theorem frz_own{n id off len:Nat}{h':Heap}(hid:id<n):FrzTo n h' (.own id off len) (.own id off len):=by simp only[FrzTo];exact⟨trivial,hid⟩
def wordM(s:ByteArray):Sx:= .mk 1 0 0 0 s []
def listM(l:List Sx):Sx:= .mk 3 0 0 0 ⟨#[]⟩ l
def wordsM(first:ByteArray)(l:List ByteArray):Sx:=listM ((first::l).map wordM)
theorem word_c{h:Heap}{s:ByteArray}:PCall Tryz.prog 136 [sPV s] h fun r h'=>r= .agg (wordM s).cells∧h'=h:=by
 refine PCall.frz Ty.hb_136 ?_;refine uG0 Tryz.func136 Tryz.ntmps136 Tryz.results136 Ty.hb_136 ?_;refine wt trivial ?_;refine⟨?_,((Grow.refl h).new _).set (Nat.le_refl _) _⟩;simp only[wordM,Sx.cells,Sx.rows,FrzTo,FrzL];exact⟨_,rfl,rfl,rfl,rfl,rfl,rfl,.inr (.inl ⟨rfl,.inr rfl⟩),trivial⟩
theorem list_c{h:Heap}{p:PV}(h1:oneC p=true)(hf: ∀ h',FrzTo h.next h' p p):PCall Tryz.prog 175 [p] h fun r h'=>r= .agg [.sc (.int .i64 3),.sc (.int .i64 0),.sc (.int .i64 0),.sc (.int .i64 0),.sc (.string ⟨#[]⟩),p]∧h'=h:=by
 refine PCall.frz Ty.hb_175 ?_;have hc:p.cells=[p]:=by cases p<;>simp[oneC]at h1<;>rfl
 refine uG0 Tryz.func175 Tryz.ntmps175 Tryz.results175 Ty.hb_175 ?_;refine wt (uu hc h1) ?_;refine⟨?_,((Grow.refl h).new _).set (Nat.le_refl _) _⟩;simp only[FrzTo,FrzL];exact⟨_,rfl,rfl,rfl,rfl,rfl,rfl,hf _,trivial⟩
structure WordsI(h:Heap)(first:ByteArray)(l:List ByteArray)(k:Nat)(h':Heap):Prop where
 grow:Grow h h'
 ex: ∃ id,h.next+1+1<h'.next∧id≠h.next+1+1∧h.next<id∧id<h'.next∧
  h'.obj h.next=some (.arr 6 [[.sc (.int .i64 0),.sc (.int .i64 0),.sc (.int .i64 0),.sc (.int .i64 0),.sc (.string ⟨#[]⟩),.sc (.slice none 0 0)]])∧
  h'.obj (h.next+1+1)=some (.arr 6 [[.sc (.int .i64 3),.sc (.int .i64 0),.sc (.int .i64 0),.sc (.int .i64 0),.sc (.string ⟨#[]⟩),.own id 0 (k+1)]])∧
  h'.obj id=some (.arr 6 (Sx.rows ((first::l.take k).map wordM)))
theorem words_c{h:Heap}{first:ByteArray}{l:List ByteArray}(hl:l.length≤1048576):PCall Tryz.prog 174 [sPV first,.imm 1 (strRows l)] h fun r h'=>r= .agg (wordsM first l).cells∧h'=h:=by
 refine PCall.frz Ty.hb_174 ?_;have hll:=strRows_len l;have hw: ∀ (s:ByteArray)(h:Heap),PCall Tryz.prog 136 [sPV s] h fun r h'=>r= .agg (wordM s).cells∧h'=h:=fun s h=>word_c;simp only[wordM,Sx.cells,Sx.rows]at hw;refine uG (ow:=fun t=>t==10) (wf:=fun _=>false) Tryz.func174 Tryz.ntmps174 Tryz.results174 Ty.hb_174 ?_;refine wt trivial ?_;refine uU trivial (hw first _) ?_;refine wt trivial ?_;refine uU trivial (list_c (p:= .own (h.next+1) 0 1) rfl (fun _=>frz_own (by simp[Heap.new]))) ?_;refine wt hll ?_;refine a_loop (fun m S h'=>S 4= .ptr h.next 0 0∧S 5= .ptr (h.next+1+1) 0 0∧S 12= .imm 1 (strRows l)∧S 13= .sc (.int .i64 l.length)∧ ∃ k:Nat,S 14= .sc (.int .i64 k)∧k≤l.length∧m=l.length-k∧WordsI h first l k h') l.length ?_ ?_
 ·simp only[Ty.w,simprocAttr];refine⟨0,rfl,by omega,rfl,?_⟩;have e1:¬ h.next=h.next+1+1:=by omega
  refine⟨(((((Grow.refl h).new _).new _).new _).set (show h.next≤h.next+1+1 by omega) _),h.next+1,by simp[Heap.new,Heap.set],by omega,by omega,by simp[Heap.new,Heap.set],?_,?_,?_⟩
  ·simp [Heap.new,Heap.set,e1]
  ·simp [Heap.new,Heap.set]
  ·simp [Heap.new,Heap.set,wordM,Sx.rows,Sx.cells]
 ·rintro m S h' ⟨g4,g5,g12,g13,k,g14,hk,rfl,hI⟩;obtain⟨hg,id,hn2,hne,hlo,hhi,o1,o2,o3⟩:=hI;by_cases hlt:k<l.length
  ·have hd:decide ((k:Int)<(l.length:Int))=true:=(by simp;omega);have w7:IntKind.i64.wrap ((k:Int)+1)=k+1:=(by rw[wrap64 (by omega) (by omega)]);obtain⟨s,hx⟩: ∃ s,l[k]? =some s:=⟨_,List.getElem?_eq_getElem hlt⟩;have hr:=strRows_get hx;have hrl:(Sx.rows ((first::l.take k).map wordM)).length=k+1:=(by rw[Sx.rows_len];simp;omega);generalize hR:Sx.rows ((first::l.take k).map wordM)=R at o3 hrl;have n1:(h.next+1+1=id)=False:=(by simp;omega);have n2:(h.next+1+1=h'.next)=False:=(by simp;omega);have htk:List.take (k+1) R=R:=List.take_of_length_le (by omega);have hb:(k+1+1)*72≤140737488355328:=(by omega);replace zz:=uu10 g4 g5 g12 g13 g14 hd hr w7 o2 o3;refine wy zz ?_;replace zz:=uu7 g4 g5 g12 g13 g14 o2 o3;(first|refine uV zz (hw s _) ?_|refine uA zz (hw s _) ?_);replace zz:=uu12 g4 g5 g12 g13 g14 w7 o2 o3 n1 n2 hrl (uu htk hb);(repeat'(first|refine cK ?_|refine nK ?_|refine uR zz ?_|(refine uN hK ?_;clear hK)|refine uB zz ?_|(rw[if_pos];rotate_left 1;omega;simp(maxSteps:=2000000) only[Ty.w,simprocAttr,g4,g5,g12,g13,g14,w7,o2,o3,n1,n2,hrl,htk,hb])|apply zI));refine⟨l.length-(k+1),by omega,k+1,by simp,by omega,rfl,((hg.kill (by omega)).new _).set (by omega) _,h'.next,?_,?_,?_,?_,?_,?_,?_⟩
   ·simp only[Heap.set,Heap.new,Heap.kill];omega
   ·omega
   ·omega
   ·simp only[Heap.set,Heap.new,Heap.kill];omega
   ·have a1:¬ h.next=h.next+1+1:=by omega
    have a2:¬ h.next=h'.next:=by omega
    have a3:¬ h.next=id:=by omega
    simp only[Heap.set,Heap.new,Heap.kill,a1,a2,a3,if_false];exact o1
   ·simp only[Heap.set,if_true]
   ·have a1:¬ h'.next=h.next+1+1:=by omega
    simp only[Heap.set,Heap.new,Heap.kill,a1,if_false,if_true];rw[List.take_add_one,hx, ← hR];simp only[Sx.rows_map,List.map_cons,List.map_append,List.map_nil,Option.toList_some,List.cons_append,wordM,Sx.cells]
  ·have hd:decide ((k:Int)<(l.length:Int))=false:=(by simp;omega);have hke:k=l.length:=(by omega);subst hke;rw[List.take_length]at o3;have n1:(h.next+1+1=h.next)=False:=(by simp;omega);replace zz:=uu9 g4 g5 g12 g13 g14 hd o1 o2 o3;refine wt zz ?_;refine⟨?_,hg.set (Nat.le_refl _) _⟩;simp only[wordsM,listM,Sx.cells,FrzTo,FrzL];refine⟨_,rfl,rfl,rfl,rfl,rfl,rfl,.inr (.inr ⟨id,0,l.length+1,Sx.rows ((first::l).map wordM),rfl,by omega,?_,?_,?_⟩),trivial⟩
   ·simp only[Heap.set];rw[if_neg (by omega)];exact o3
   ·rw [Sx.rows_len];simp
   ·rw [List.drop_zero,List.take_of_length_le (by rw[Sx.rows_len];simp)];exact sxs_frz _ _ _
end Go.Proofs.YtblgchkahpgdjaaGreat
namespace Go.AM
mutual
def Ex.small:Ex→Prop
 | .mk _ _ _ args kids=>args.length≤1048576∧Ex.smalls kids
def Ex.smalls:List Ex→Prop
 |[]=>True
 |k::ks=>k.small∧Ex.smalls ks
end
theorem Ex.smalls_iff:{l:List Ex}→(Ex.smalls l↔ ∀ k∈l,k.small)
 |[]=>by simp[Ex.smalls]
 |k::ks=>by simp[Ex.smalls,Ex.smalls_iff (l:=ks)]
end Go.AM
namespace Go.Proofs.YtblgchkahpgdjaaGreat
open Go.AM
set_option maxHeartbeats 2000000
set_option maxRecDepth 20000
def opNum:ByteArray:=⟨#[110,117,109,98,101,114]⟩
def opFlu:ByteArray:=⟨#[102,108,117,101,110,116]⟩
def opPls:ByteArray:=⟨#[43]⟩
def opMin:ByteArray:=⟨#[45]⟩
def opTim:ByteArray:=⟨#[42]⟩
def emptyB(s:ByteArray):Bool:=bEq s ⟨#[]⟩
def termB(s:ByteArray):Bool:=nameB s||varB s
def inNum(n:Int):Bool:=decide (-1099511627776≤n)&&decide (n≤1099511627776)
def shapedE:Ex→Bool
 | .mk op name n args kids=>
  if bEq op opNum then emptyB name&&args.isEmpty&&kids.isEmpty&&inNum n
  else if bEq op opFlu then decide (n=0)&&kids.isEmpty&&nameB name&&args.all termB
  else if bEq op opPls||bEq op opMin||bEq op opTim then decide (n=0)&&emptyB name&&args.isEmpty&&(match kids with
   |[a,b]=>shapedE a&&shapedE b
   |_=>false)
  else false
termination_by e=>SizeOf.sizeOf e
decreasing_by all_goals(simp_wf;omega)
def formedM:Ex→Nat→Nat→Bool × Nat
 | .mk op name n args kids,d,c=>
  if c+1≤4096∧d≤32 then
   if bEq op opNum then(emptyB name&&args.isEmpty&&kids.isEmpty&&inNum n,c+1)
   else if bEq op opFlu then(decide (n=0)&&kids.isEmpty&&nameB name&&args.all termB,c+1)
   else if bEq op opPls||bEq op opMin||bEq op opTim then
    (if (decide (n = 0) && emptyB name && args.isEmpty) = true then (match kids with
     |[a,b]=>(match formedM a (d+1) (c+1)with
      |(true,c')=>formedM b (d+1) c'
      |(false,c')=>(false,c'))
     |_=>(false,c+1))else(false,c+1))
   else(false,c+1)
  else(false,c+1)
termination_by e=>SizeOf.sizeOf e
decreasing_by all_goals(simp_wf;omega)
def exW:Ex→Sx
 | .mk op name n args kids=>
  if bEq op opNum then .mk 2 n 0 0 ⟨#[]⟩ []
  else if bEq op opFlu then wordsM name args
  else match kids with
   |[a,b]=>listM [wordM op,exW a,exW b]
   |_=>listM [wordM op]
termination_by e=>SizeOf.sizeOf e
decreasing_by all_goals(simp_wf;omega)
theorem frz_imm{n z:Nat}{h':Heap}{rows:List (List PV)}(h:inNR n rows):FrzTo n h' (.imm z rows) (.imm z rows):=by simp only[FrzTo];exact .inl ⟨trivial,h⟩
theorem writeE_c: ∀ e:Ex,e.small→shapedE e=true→ ∀ h:Heap,PCall Tryz.prog 167 [.agg e.cells] h fun r h'=>r= .agg (exW e).cells∧h'=h:=by
 refine Ex.ind ?_;intro op name n args kids ih hsm hsh h;simp only[Ex.small]at hsm;obtain⟨hal,hks⟩:=hsm;rw[Ex.smalls_iff]at hks;unfold shapedE at hsh;unfold exW;refine PCall.frz Ty.hb_167 ?_;cases c1:bEq op opNum with
 |true=>
  have c1':(op.data.toList==(#[110,117,109,98,101,114]:Array UInt8).toList)=true:=c1;simp only[if_true,Ex.cells];refine uG0 Tryz.func167 Tryz.ntmps167 Tryz.results167 Ty.hb_167 ?_;refine wt c1' ?_;refine⟨?_,((Grow.refl h).new _).set (Nat.le_refl _) _⟩;simp only[Sx.cells,Sx.rows,FrzTo,FrzL];exact⟨_,rfl,rfl,rfl,rfl,rfl,rfl,.inr (.inl ⟨rfl,.inr rfl⟩),trivial⟩
 |false=>
  have c1':(op.data.toList==(#[110,117,109,98,101,114]:Array UInt8).toList)=false:=c1;rw[c1]at hsh;simp only[Bool.false_eq_true,if_false]at hsh⊢;cases c2:bEq op opFlu with
  |true=>
   have c2':(op.data.toList==(#[102,108,117,101,110,116]:Array UInt8).toList)=true:=c2;have hw:=fun h:Heap=>words_c (h:=h) (first:=name) hal;have hfz:=fun(n:Nat)(h:Heap)=>sx_frz n h (wordsM name args);simp only[if_true,Ex.cells];generalize wordsM name args=X at hw hfz;obtain⟨ki,va,li,co,te,ks⟩:=X;simp only[Sx.cells]at hw hfz⊢;refine uG0 Tryz.func167 Tryz.ntmps167 Tryz.results167 Ty.hb_167 ?_;refine wt (uu c1' c2') ?_;refine uU (uu c1' c2') (hw _) ?_;refine wt trivial ?_;refine⟨?_,((Grow.refl h).new _).set (Nat.le_refl _) _⟩;simp only[FrzTo];exact⟨_,rfl,hfz _ _⟩
  |false=>
   have c2':(op.data.toList==(#[102,108,117,101,110,116]:Array UInt8).toList)=false:=c2;rw[c2]at hsh;simp only[Bool.false_eq_true,if_false]at hsh⊢;split at hsh
   case isFalse=>simp at hsh
   simp only[Bool.and_eq_true]at hsh;obtain⟨⟨⟨_,_⟩,_⟩,hsh⟩:=hsh;split at hsh
   case h_2=>simp at hsh
   rename_i a b;simp only[Bool.and_eq_true]at hsh;have ca:=ih a (by simp) (hks a (by simp)) hsh.1;have cb:=ih b (by simp) (hks b (by simp)) hsh.2;have hw:=fun h:Heap=>word_c (h:=h) (s:=op);have hfz:=fun(n:Nat)(h:Heap)=>sx_frz n h (listM [wordM op,exW a,exW b]);have hl:=fun h:Heap=>list_c (h:=h) (p:= .imm 6 (Sx.rows [wordM op,exW a,exW b])) rfl (fun _=>frz_imm (sxs_in _ _));generalize exW a=xa at ca hfz hl⊢;generalize exW b=xb at cb hfz hl⊢;(try clear zz);clear ih hks hsh;obtain⟨aop,aname,an,aargs,akids⟩:=a;obtain⟨bop,bname,bn,bargs,bkids⟩:=b;obtain⟨ki,va,li,co,te,ks⟩:=xa;obtain⟨ki2,va2,li2,co2,te2,ks2⟩:=xb;simp only[Ex.cells,Ex.rows,listM,Sx.cells,Sx.rows,wordM]at ca cb hw hfz hl⊢;refine uG0 Tryz.func167 Tryz.ntmps167 Tryz.results167 Ty.hb_167 ?_;refine wy (uu c1' c2') ?_;(first|refine uV trivial (hw _) ?_|refine uA trivial (hw _) ?_);refine wy trivial ?_;(first|refine uV trivial (ca _) ?_|refine uA trivial (ca _) ?_);refine wy trivial ?_;(first|refine uV trivial (cb _) ?_|refine uA trivial (cb _) ?_);refine wy trivial ?_;(first|refine uV trivial (hl _) ?_|refine uA trivial (hl _) ?_);refine wy trivial ?_;refine⟨?_,((Grow.refl h).new _).set (Nat.le_refl _) _⟩;simp only[FrzTo];exact⟨_,rfl,hfz _ _⟩
end Go.Proofs.YtblgchkahpgdjaaGreat
namespace Go.Proofs.YtblgchkahpgdjaaGreat
open Go.AM
set_option maxHeartbeats 2000000
set_option maxRecDepth 20000
structure Hold(p:Prop):Prop where
 out:p
theorem a_hold{P:Program}{ow:Nat→Bool}{wf:FuncId→Bool}{n:Nat}{Q:Post}{s:Slots}{h:Heap}(id:Nat){ops:Array Oper}{d:Bool}{x y:Code}(hh:Hold (awp P ow wf n (.seq (.seq (.region id ops d) x) y) Q s h)):awp P ow wf n (.seq (.seq (.region id ops d) x) y) Q s h:=hh.out
theorem a_cut{P:Program}{ow:Nat→Bool}{wf:FuncId→Bool}{n:Nat}{Q:Post}{s:Slots}{h:Heap}{a b:Code}(I:Slots→Heap→Prop)(h1:awp P ow wf n a (Post.seq I Q) s h)(h2: ∀ s h,I s h→awp P ow wf n b Q s h):awp P ow wf n (.seq a b) Q s h:=by
 simp only[awp];refine awp_mono a (fun e s h hh=>?_) h1;cases e<;>simp only[Post.seq]at hh⊢
 ·exact h2 _ _ hh
 all_goals exact hh
theorem a_cutK{P:Program}{ow:Nat→Bool}{wf:FuncId→Bool}{n:Nat}{Q:Post}{K:Slots→Heap→Prop}{s:Slots}{h:Heap}{a:Code}(I:Slots→Heap→Prop)(h1:awp P ow wf n a (Post.seq I Q) s h)(h2: ∀ s h,I s h→K s h):awp P ow wf n a (Post.seq K Q) s h:=by
 refine awp_mono a (fun e s h hh=>?_) h1;cases e<;>simp only[Post.seq]at hh⊢
 ·exact h2 _ _ hh
 all_goals exact hh
theorem set_set(h:Heap)(id:Nat)(a b:AObj):(h.set id a).set id b=h.set id b:=by
 unfold Heap.set;congr 1;funext i;simp only;by_cases hi:i=id
 ·simp [hi]
 ·simp [hi]
theorem emp_len{α:Type}(l:List α):((l.length:Int)==0)=l.isEmpty:=by cases l<;>simp;omega
theorem cntO_c(n:Nat):cntO (n+1)= .arr 1 [[.sc (.int .i64 ((n:Int)+1))]]:=by simp only[cntO,natc]
theorem term_c{h:Heap}{s:ByteArray}(hs:s.size≤bigN):PCall Tryz.prog 189 [sPV s] h fun r h'=>r= .sc (.bool (termB s))∧h'=h:=by
 have hs':s.size≤9223372036854775807:=by unfold bigN at hs;omega
 cases c1:nameB s with
 |true=>
  have:termB s=true:=by simp[termB,c1]
  refine uG0 Tryz.func189 Tryz.ntmps189 Tryz.results189 Ty.hb_189 ?_;refine wt trivial ?_;refine uU c1 (fname_c (s:=s) hs') ?_;refine wt c1 ?_;rw[this]
 |false=>
  have:termB s=varB s:=by simp[termB,c1]
  refine uG0 Tryz.func189 Tryz.ntmps189 Tryz.results189 Ty.hb_189 ?_;refine wt trivial ?_;refine uU c1 (fname_c (s:=s) hs') ?_;refine wt c1 ?_;refine uU c1 (fvariable_c (s:=s) hs') ?_;refine wt c1 ?_;rw[this]
theorem fclosure1_c{h:Heap}{s:ByteArray}(hs:s.size≤bigN):PCall Tryz.prog 192 [sPV s] h fun r h'=>r= .sc (.bool (!termB s))∧h'=h:=by
 refine uG0 Tryz.func192 Tryz.ntmps192 Tryz.results192 Ty.hb_192 ?_;refine wt trivial ?_;refine uU trivial (term_c (s:=s) hs) ?_;exact wz trivial
theorem fclosure2_c{h:Heap}{s:ByteArray}(hs:s.size≤bigN):PCall Tryz.prog 188 [sPV s] h fun r h'=>r= .sc (.bool (!termB s))∧h'=h:=by
 refine uG0 Tryz.func188 Tryz.ntmps188 Tryz.results188 Ty.hb_188 ?_;refine wt trivial ?_;refine uU trivial (term_c (s:=s) hs) ?_;exact wz trivial
def idxT(l:List ByteArray):Int:=match l.findIdx? (fun s=>!termB s)with
 |some i=>i
 |none=> -1
theorem idxT_any(l:List ByteArray):decide (idxT l≥0)=!l.all termB:=by
 unfold idxT;cases h:l.findIdx? (fun s=>!termB s)with
 |none=>
  rw[List.findIdx?_eq_none_iff]at h;have:l.all termB=true:=by
   rw[List.all_eq_true];intro s hs;simpa using h s hs
  rw[this];try rfl
 |some i=>
  rw[List.findIdx?_eq_some_iff_getElem]at h;obtain⟨hi,h1,_⟩:=h;have:l.all termB=false:=by
   rw[List.all_eq_false];exact⟨l[i],List.getElem_mem hi,by simpa using h1⟩
  rw[this];simp
theorem indexFunc_c{h:Heap}{g:FuncId}{l:List ByteArray}(hl:l.length≤bigN)(hf: ∀ s∈l, ∀ h:Heap,PCall Tryz.prog g [sPV s] h fun r h'=>r= .sc (.bool (!termB s))∧h'=h):
  PCall Tryz.prog 201 [.imm 1 (strRows l),.sc (.func (.func g) #[] #[])] h fun r h'=>r= .sc (.int .i64 (idxT l))∧h'=h:=by
 unfold bigN at hl;have hlen:=strRows_len l;refine uG0 Tryz.func201 Tryz.ntmps201 Tryz.results201 Ty.hb_201 ?_;refine wt hlen ?_;refine a_loop (fun m S h'=>h'=h∧S 0= .imm 1 (strRows l)∧S 1= .sc (.func (.func g) #[] #[])∧S 7= .sc (.int .i64 l.length)∧ ∃ k:Nat,S 8= .sc (.int .i64 k)∧k≤l.length∧m=l.length-k∧ ∀ (i:Nat)(w:ByteArray),i<k→l[i]? =some w→termB w=true) l.length ?_ ?_
 ·simp only[Ty.w,simprocAttr];exact⟨0,rfl,by omega,rfl,by omega⟩
 ·rintro m S h' ⟨rfl,g0,g1,g7,k,g8,hk,rfl,hall⟩;by_cases hlt:k<l.length
  ·have hd:decide ((k:Int)<(l.length:Int))=true:=(by simp;omega);have w7:IntKind.i64.wrap ((k:Int)+1)=k+1:=(by rw[wrap64 (by omega) (by omega)]);obtain⟨w,hx⟩: ∃ w,l[k]? =some w:=⟨l[k],List.getElem?_eq_getElem hlt⟩;have hr:=strRows_get hx;have hc:=hf w (List.mem_of_getElem? hx);cases he:termB w with
   |false=>
    rw[he]at hc;replace zz:=uu6 g0 g1 g7 g8 hd hr;refine wt zz ?_;refine owp_useV (by simp only[Ty.w,simprocAttr,g1]) (hc _) (by simp only[Ty.w,simprocAttr,g0,g1,g7,g8];try rfl) ?_;simp(maxSteps:=2000000) only[Ty.w,simprocAttr,Ty.all];replace zz:=uu5 g0 g1 g7 g8 yF;refine wt zz ?_;have:l.findIdx? (fun s=>!termB s)=some k:=by
     rw[List.findIdx?_eq_some_iff_getElem];refine⟨hlt,?_,fun j hj=>?_⟩
     ·rw [List.getElem?_eq_getElem hlt]at hx;simp only[Option.some.injEq]at hx;rw[hx,he];try rfl
     ·rw [hall j l[j] hj (List.getElem?_eq_getElem (by omega))];simp
    simp only[idxT,this]
   |true=>
    rw[he]at hc;replace zz:=uu6 g0 g1 g7 g8 hd hr;refine wt zz ?_;refine owp_useV (by simp only[Ty.w,simprocAttr,g1]) (hc _) (by simp only[Ty.w,simprocAttr,g0,g1,g7,g8];try rfl) ?_;simp(maxSteps:=2000000) only[Ty.w,simprocAttr,Ty.all];replace zz:=uu6 g0 g1 g7 g8 w7 yT;refine wt zz ?_;refine⟨l.length-(k+1),by omega,k+1,by simp,by omega,rfl,fun i w2 hi hw=>?_⟩;by_cases hik:i=k
    ·subst hik;rw[hx]at hw;simp at hw;rw[← hw];exact he
    ·exact hall i w2 (by omega) hw
  ·have hd:decide ((k:Int)<(l.length:Int))=false:=(by simp;omega);replace zz:=uu5 g0 g1 g7 g8 hd;refine wt zz ?_;have:l.findIdx? (fun s=>!termB s)=none:=by
    rw[List.findIdx?_eq_none_iff];intro w hw;obtain⟨i,hi⟩:=List.getElem?_of_mem hw;have:i<l.length:=(List.getElem?_eq_some_iff.1 hi).1;rw[hall i w (by omega) hi];try rfl
   simp only[idxT,this]
theorem containsFunc_c{h:Heap}{g:FuncId}{l:List ByteArray}(hl:l.length≤bigN)(hf: ∀ s∈l, ∀ h:Heap,PCall Tryz.prog g [sPV s] h fun r h'=>r= .sc (.bool (!termB s))∧h'=h):
  PCall Tryz.prog 187 [.imm 1 (strRows l),.sc (.func (.func g) #[] #[])] h fun r h'=>r= .sc (.bool (!l.all termB))∧h'=h:=by
 refine uG0 Tryz.func187 Tryz.ntmps187 Tryz.results187 Ty.hb_187 ?_;refine wt trivial ?_;refine uU trivial (indexFunc_c (l:=l) (g:=g) hl hf) ?_;refine wt trivial ?_;rw[← idxT_any]
theorem take_c{h:Heap}{id d n:Nat}{b:Bool}(hd:d≤100)(hn:n≤4096)(ho:h.obj id=some (cntO n))(hb:decide (n+1≤4096∧d≤32)=b):PCall Tryz.prog 186 [.ptr id 0 0,.sc (.int .i64 d)] h fun r h'=>r= .sc (.bool b)∧h'=h.set id (cntO (n+1)):=by
 have ho':=ho;simp only[cntO]at ho';rw[cntO_c];have wn:IntKind.i64.wrap ((n:Int)+1)=(n:Int)+1:=by rw[wrap64 (by omega) (by omega)]
 cases b0:decide ((n:Int)+1≤4096)with
 |false=>
  have:b=false:=by rw[← hb];simp only[decide_eq_false_iff_not]at b0⊢;omega
  subst this;try clear zz
  clear hb;refine uG0 Tryz.func186 Tryz.ntmps186 Tryz.results186 Ty.hb_186 ?_;exact wz (uu3 ho' wn b0)
 |true=>
  have:b=decide ((d:Int)≤32):=by rw[← hb];simp only[decide_eq_true_eq]at b0;exact decide_eq_decide.2 (by omega)
  subst this;try clear zz
  clear hb;refine uG0 Tryz.func186 Tryz.ntmps186 Tryz.results186 Ty.hb_186 ?_;exact wz (uu3 ho' wn b0)
theorem formedM_le: ∀ (e:Ex)(d n:Nat),(formedM e d n).1=true→(formedM e d n).2≤4096:=by
 refine Ex.ind ?_;intro op name nn args kids ih d n;unfold formedM;split
 ·rename_i hc;split
  ·intro _;simp only;omega
  ·split
   ·intro _;simp only;omega
   ·split
    ·split
     ·split
      ·rename_i a b;have ha:=ih a (by simp) (d+1) (n+1);split
       ·rename_i c' he;exact ih b (by simp) (d+1) c'
       ·simp
      ·simp
     ·simp
    ·simp
 ·simp
theorem formed_c: ∀ e:Ex,e.ok→ ∀ (d n:Nat),d≤33→n≤4096→ ∀ (id:Nat)(h:Heap),h.obj id=some (cntO n)→
  PCall Tryz.prog 178 [.agg e.cells,.sc (.int .i64 d),.ptr id 0 0] h fun r h'=>r= .sc (.bool (formedM e d n).1)∧h'=h.set id (cntO (formedM e d n).2):=by
 refine Ex.ind ?_;intro op name v args kids ih hok d n hd hn id h ho;simp only[Ex.ok]at hok;obtain⟨_,hnm,_,⟨hal,hargs⟩,hkl,hks⟩:=hok;rw[Ex.oks_iff]at hks;have hnm':name.size≤9223372036854775807:=by unfold bigN at hnm;omega
 have hlA:=strRows_len args;have hlK:=Ex.rows_len kids;have e1:=emp_len args;have e2:=emp_len kids;generalize hF:formedM (.mk op name v args kids) d n=F;unfold formedM at hF;by_cases hc:n+1≤4096∧d≤32;rotate_left
 ·rw [if_neg hc]at hF;subst hF;have hT:=take_c (by omega) hn ho (decide_eq_false hc);simp only[Ex.cells];refine uG0 Tryz.func178 Tryz.ntmps178 Tryz.results178 Ty.hb_178 ?_;refine wt trivial ?_;refine owp_useH (hT) (by(try simp only[Ty.w,simprocAttr,Bool.not_false]);try rfl) ?_;simp(maxSteps:=2000000) only[Ty.w,simprocAttr,Bool.not_false];exact wz yF
 ·rw [if_pos hc]at hF;have hT:=take_c (by omega) hn ho (decide_eq_true hc);have wd:IntKind.i64.wrap ((d:Int)+1)=(d:Int)+1:=by rw[wrap64 (by omega) (by omega)]
  simp only[Ex.cells];have n1:bEq op opNum=(op.data.toList==(#[110,117,109,98,101,114]:Array UInt8).toList):=rfl;have n2:bEq op opFlu=(op.data.toList==(#[102,108,117,101,110,116]:Array UInt8).toList):=rfl;have n3:bEq op opPls=(op.data.toList==(#[43]:Array UInt8).toList):=rfl;have n4:bEq op opMin=(op.data.toList==(#[45]:Array UInt8).toList):=rfl;have n5:bEq op opTim=(op.data.toList==(#[42]:Array UInt8).toList):=rfl;have n6:emptyB name=(name.data.toList==(#[]:Array UInt8).toList):=rfl;have n7:decide (v=0)=(v==0):=by by_cases h0:v=0<;>simp[h0]
  have n8:inNum v=(decide (v≥ -1099511627776)&&decide (v≤1099511627776)):=rfl;rw[n1,n2,n3,n4,n5,n6,n7,n8, ← e1, ← e2]at hF;try clear zz
  clear n1 n2 n3 n4 n5 n6 n7 n8 e1 e2;cases k1:(op.data.toList==(#[110,117,109,98,101,114]:Array UInt8).toList)with
  |true=>
   rw[k1]at hF;simp only[if_true]at hF;cases q1:(name.data.toList==(#[]:Array UInt8).toList)with
   |false=>
    rw[q1]at hF;simp only[Bool.false_and,Bool.and_false]at hF;subst hF;refine uG0 Tryz.func178 Tryz.ntmps178 Tryz.results178 Ty.hb_178 ?_;refine wt (uu k1 q1) ?_;refine owp_useH (hT) (by(try simp only[Ty.w,simprocAttr,k1,q1,Bool.not_true]);try rfl) ?_;simp(maxSteps:=2000000) only[Ty.w,simprocAttr,k1,q1,Bool.not_true];replace zz:=uu5 k1 q1 hlA hlK yT;exact wz zz
   |true=>
    rw[q1]at hF;cases q2:((args.length:Int)==0)with
    |false=>
     rw[q2]at hF;simp only[Bool.false_and,Bool.and_false]at hF;subst hF;refine uG0 Tryz.func178 Tryz.ntmps178 Tryz.results178 Ty.hb_178 ?_;refine wt (uu3 k1 q1 q2) ?_;refine owp_useH (hT) (by(try simp only[Ty.w,simprocAttr,k1,q1,q2,Bool.not_true]);try rfl) ?_;simp(maxSteps:=2000000) only[Ty.w,simprocAttr,k1,q1,q2,Bool.not_true];replace zz:=uu6 k1 q1 q2 hlA hlK yT;exact wz zz
    |true=>
     rw[q2]at hF;cases q3:((kids.length:Int)==0)with
     |false=>
      rw[q3]at hF;simp only[Bool.false_and,Bool.and_false]at hF;subst hF;refine uG0 Tryz.func178 Tryz.ntmps178 Tryz.results178 Ty.hb_178 ?_;replace zz:=uu4 k1 q1 q2 q3;refine wt zz ?_;refine owp_useH (hT) (by(try simp only[Ty.w,simprocAttr,k1,q1,q2,q3,Bool.not_true]);try rfl) ?_;simp(maxSteps:=2000000) only[Ty.w,simprocAttr,k1,q1,q2,q3,Bool.not_true];replace zz:=uu7 k1 q1 q2 q3 hlA hlK yT;exact wz zz
     |true=>
      rw[q3]at hF;cases q4:decide (v≥ -1099511627776)with
      |false=>
       rw[q4]at hF;simp only[Bool.false_and,Bool.and_false]at hF;subst hF;refine uG0 Tryz.func178 Tryz.ntmps178 Tryz.results178 Ty.hb_178 ?_;replace zz:=uu5 k1 q1 q2 q3 q4;refine wt zz ?_;refine owp_useH (hT) (by(try simp only[Ty.w,simprocAttr,k1,q1,q2,q3,q4,Bool.not_true]);try rfl) ?_;simp(maxSteps:=2000000) only[Ty.w,simprocAttr,k1,q1,q2,q3,q4,Bool.not_true];replace zz:=uu8 k1 q1 q2 q3 q4 hlA hlK yT;exact wz zz
      |true=>
       rw[q4]at hF;simp only[Bool.true_and]at hF;subst hF;refine uG0 Tryz.func178 Tryz.ntmps178 Tryz.results178 Ty.hb_178 ?_;replace zz:=uu5 k1 q1 q2 q3 q4;refine wt zz ?_;refine owp_useH (hT) (by(try simp only[Ty.w,simprocAttr,k1,q1,q2,q3,q4,Bool.not_true]);try rfl) ?_;simp(maxSteps:=2000000) only[Ty.w,simprocAttr,k1,q1,q2,q3,q4,Bool.not_true];replace zz:=uu8 k1 q1 q2 q3 q4 hlA hlK yT;exact wz zz
  |false=>
   rw[k1]at hF;simp only[Bool.false_eq_true,if_false]at hF;cases k2:(op.data.toList==(#[102,108,117,101,110,116]:Array UInt8).toList)with
   |true=>
    rw[k2]at hF;simp only[if_true]at hF;have hfc: ∀ s∈args, ∀ h:Heap,PCall Tryz.prog 192 [sPV s] h fun r h'=>r= .sc (.bool (!termB s))∧h'=h:=fun s hs h=>fclosure1_c (hargs s hs);cases q1:(v==0)with
    |false=>
     rw[q1]at hF;simp only[Bool.false_and,Bool.and_false]at hF;subst hF;refine uG0 Tryz.func178 Tryz.ntmps178 Tryz.results178 Ty.hb_178 ?_;refine wt (uu3 k1 k2 q1) ?_;refine owp_useH (hT) (by(try simp only[Ty.w,simprocAttr,k1,k2,q1,Bool.not_true]);try rfl) ?_;simp(maxSteps:=2000000) only[Ty.w,simprocAttr,k1,k2,q1,Bool.not_true];replace zz:=uu6 k1 k2 q1 hlA hlK yT;exact wz zz
    |true=>
     rw[q1]at hF;cases q2:((kids.length:Int)==0)with
     |false=>
      rw[q2]at hF;simp only[Bool.false_and,Bool.and_false]at hF;subst hF;refine uG0 Tryz.func178 Tryz.ntmps178 Tryz.results178 Ty.hb_178 ?_;replace zz:=uu4 k1 k2 q1 q2;refine wt zz ?_;refine owp_useH (hT) (by(try simp only[Ty.w,simprocAttr,k1,k2,q1,q2,Bool.not_true]);try rfl) ?_;simp(maxSteps:=2000000) only[Ty.w,simprocAttr,k1,k2,q1,q2,Bool.not_true];replace zz:=uu7 k1 k2 q1 q2 hlA hlK yT;exact wz zz
     |true=>
      rw[q2]at hF;cases q3:nameB name with
      |false=>
       rw[q3]at hF;simp only[Bool.false_and,Bool.and_false]at hF;subst hF;refine uG0 Tryz.func178 Tryz.ntmps178 Tryz.results178 Ty.hb_178 ?_;replace zz:=uu4 k1 k2 q1 q2;refine wt zz ?_;refine owp_useH (hT) (by(try simp only[Ty.w,simprocAttr,k1,k2,q1,q2,Bool.not_true]);try rfl) ?_;simp(maxSteps:=2000000) only[Ty.w,simprocAttr,k1,k2,q1,q2,Bool.not_true];replace zz:=uu7 k1 k2 q1 q2 hlA hlK yT;refine wt zz ?_;replace zz:=uu6 k1 k2 q1 q2 q3 hlK;refine uU zz (fname_c (s:=name) hnm') ?_;exact wz zz
      |true=>
       rw[q3]at hF;simp only[Bool.true_and]at hF;subst hF;refine uG0 Tryz.func178 Tryz.ntmps178 Tryz.results178 Ty.hb_178 ?_;replace zz:=uu4 k1 k2 q1 q2;refine wt zz ?_;refine owp_useH (hT) (by(try simp only[Ty.w,simprocAttr,k1,k2,q1,q2,Bool.not_true]);try rfl) ?_;simp(maxSteps:=2000000) only[Ty.w,simprocAttr,k1,k2,q1,q2,Bool.not_true];replace zz:=uu7 k1 k2 q1 q2 hlA hlK yT;refine wt zz ?_;replace zz:=uu6 k1 k2 q1 q2 q3 hlK;refine uU zz (fname_c (s:=name) hnm') ?_;refine wt zz ?_;replace zz:=uu6 k1 k2 q1 q2 q3 hlK;refine uU zz (containsFunc_c hal hfc) ?_;repeat'(first|refine cK ?_|(refine nK ?_;try exact zI)|(refine a_ret ?_;simp(maxSteps:=2000000) only[Ty.w,simprocAttr,k1,k2,q1,q2,q3,hlK,Bool.not_not])|(refine hK _ _ ?_;clear hK;(try simp only[pst0,simprocAttr])))
   |false=>
    rw[k2]at hF;simp only[Bool.false_eq_true,if_false]at hF;generalize hk3:(op.data.toList==(#[43]:Array UInt8).toList)=b3 at hF;generalize hk4:(op.data.toList==(#[45]:Array UInt8).toList)=b4 at hF;generalize hk5:(op.data.toList==(#[42]:Array UInt8).toList)=b5 at hF;refine uG0 Tryz.func178 Tryz.ntmps178 Tryz.results178 Ty.hb_178 ?_;refine wt (uu k1 k2) ?_;refine owp_useH (hT) (by(try simp only[Ty.w,simprocAttr,k1,k2,Bool.not_true]);try rfl) ?_;simp(maxSteps:=2000000) only[Ty.w,simprocAttr,k1,k2,Bool.not_true];iterate 15 (first|refine cK ?_|refine nK ?_|refine a_seq fun K hK=>?_|refine uR (uu3 k1 k2 yT) ?_|refine uK ?_|refine uC1 (uu3 k1 k2 yT) ?_|(refine uN hK ?_;clear hK)|apply zI)
    refine a_cutK (fun S h'=>h'=h.set id (cntO (n+1))∧S 1= .sc (.int .i64 d)∧S 2= .ptr id 0 0∧S 3= .cptr (Ex.mk op name v args kids).cells∧S 62= .sc (.bool (b3||b4||b5))) ?_ ?_
    ·(try clear zz);clear hF;cases b3 with
     |true=>
      refine wm hk3 ?_;try exact zI
      all_goals(simp(maxSteps:=2000000) only[Ty.w,simprocAttr,Ex.cells,Bool.true_or,Bool.false_or,and_self])
     |false=>
      cases b4 with
      |true=>
       refine wm (uu hk3 hk4) ?_;try exact zI
       all_goals(simp(maxSteps:=2000000) only[Ty.w,simprocAttr,Ex.cells,Bool.true_or,Bool.false_or,and_self])
      |false=>
       refine wm (uu3 hk3 hk4 hk5) ?_;try exact zI
       all_goals(simp(maxSteps:=2000000) only[Ty.w,simprocAttr,Ex.cells,Bool.true_or,Bool.false_or,and_self])
    ·generalize (b3||b4||b5)=bb at hF⊢;rintro S h' ⟨rfl,g1,g2,g3,g62⟩;(first|refine hK _ _ ?_|refine cK ?_);(try clear hK);simp only[Ex.cells]at g3;(try clear zz);clear hT;cases bb with
     |false=>
      simp only[Bool.false_eq_true,if_false]at hF;subst hF;replace zz:=uu4 g1 g2 g3 g62;exact wz zz
     |true=>
      simp only[if_true]at hF;cases q1:(v==0)with
      |false=>
       rw[q1]at hF;simp only[Bool.false_and,Bool.and_false,Bool.false_eq_true,if_false]at hF;subst hF;replace zz:=uu6 g1 g2 g3 g62 q1 hlA;exact wz zz
      |true=>
       rw[q1]at hF;cases q2:(name.data.toList==(#[]:Array UInt8).toList)with
       |false=>
        rw[q2]at hF;simp only[Bool.false_and,Bool.and_false,Bool.false_eq_true,if_false]at hF;subst hF;replace zz:=uu7 g1 g2 g3 g62 q1 q2 hlA;exact wz zz
       |true=>
        rw[q2]at hF;cases q3:((args.length:Int)==0)with
        |false=>
         rw[q3]at hF;simp only[Bool.false_and,Bool.and_false,Bool.false_eq_true,if_false]at hF;subst hF;replace zz:=uu8 g1 g2 g3 g62 q1 q2 q3 hlA;exact wz zz
        |true=>
         rw[q3]at hF;simp only[Bool.true_and,if_true]at hF;cases q4:((kids.length:Int)==2)with
         |false=>
          have hF2:F=(false,n+1):=by
           rw[← hF];split
           ·simp at q4
           ·rfl
          (try clear zz);clear hF;subst hF2;replace zz:=uu10 g1 g2 g3 g62 q1 q2 q3 q4 hlA hlK;exact wz zz
         |true=>
          obtain⟨a,b,rfl⟩: ∃ a b,kids=[a,b]:=by
           match kids,q4 with
           |[],q=>simp at q
           |[a],q=>simp at q
           |[a,b],_=>exact⟨a,b,rfl⟩
           |_::_::_::_,q=>simp at q;omega
          have ca:=ih a (by simp) (hks a (by simp)) (d+1) (n+1) (by omega) (by omega) id (h.set id (cntO (n+1))) (by simp[Heap.set]);have cb0:=ih b (by simp) (hks b (by simp)) (d+1);have hle:=formedM_le a (d+1) (n+1);have hF3:F=(match formedM a (d+1) (n+1)with|(true,c')=>formedM b (d+1) c'|(false,c')=>(false,c')):=hF.symm;(try clear zz);clear hF;have r0:=Ex.rows_get (l:=[a,b]) (i:=0) rfl;have r1:=Ex.rows_get (l:=[a,b]) (i:=1) rfl;have q5:(((Ex.rows [a,b]).length:Int)==2)=true:=(by rw[Ex.rows_len];exact q4);generalize Ex.rows [a,b]=RR at r0 r1 q5 g3;(try clear zz);clear q4;generalize formedM a (d+1) (n+1)=W at ca hle hF3;obtain⟨b1,c1⟩:=W;simp only[set_set,natc]at ca hle hF3;(try clear zz);clear ih hks hlK;cases b1 with
          |false=>
           simp only at hF3;subst hF3;(try clear zz);clear cb0;obtain⟨aop,aname,an,aargs,akids⟩:=a;obtain⟨bop,bname,bn,bargs,bkids⟩:=b;simp only[Ex.cells]at ca r0 r1;replace zz:=uu12 g1 g2 g3 g62 q1 q2 q3 q5 r0 r1 hlA wd;refine wt zz ?_;refine owp_useH (ca) (by(try simp only[Ty.w,simprocAttr,g1,g2,g3,g62,q1,q2,q3,q5,r0,r1,hlA,wd]);try rfl) ?_;simp(maxSteps:=2000000) only[Ty.w,simprocAttr,g1,g2,g3,g62,q1,q2,q3,q5,r0,r1,hlA,wd];replace zz:=uu12 g1 g2 g3 g62 q1 q2 q3 q5 r0 r1 hlA wd;exact wz zz
          |true=>
           have cb:=cb0 c1 (by omega) (hle rfl) id (h.set id (cntO c1)) (by simp[Heap.set]);simp only at hF3;rw[← hF3]at cb;obtain⟨b2,c2⟩:=F;simp only[set_set,natc]at cb⊢;(try clear zz);clear cb0 hF3;obtain⟨aop,aname,an,aargs,akids⟩:=a;obtain⟨bop,bname,bn,bargs,bkids⟩:=b;simp only[Ex.cells]at ca cb r0 r1;replace zz:=uu12 g1 g2 g3 g62 q1 q2 q3 q5 r0 r1 hlA wd;refine wt zz ?_;refine owp_useH (ca) (by(try simp only[Ty.w,simprocAttr,g1,g2,g3,g62,q1,q2,q3,q5,r0,r1,hlA,wd]);try rfl) ?_;simp(maxSteps:=2000000) only[Ty.w,simprocAttr,g1,g2,g3,g62,q1,q2,q3,q5,r0,r1,hlA,wd];replace zz:=uu12 g1 g2 g3 g62 q1 q2 q3 q5 r0 r1 hlA wd;refine wt zz ?_;refine owp_useH (cb) (by(try simp only[Ty.w,simprocAttr,g1,g2,g3,g62,q1,q2,q3,q5,r0,r1,hlA,wd]);try rfl) ?_;simp(maxSteps:=2000000) only[Ty.w,simprocAttr,g1,g2,g3,g62,q1,q2,q3,q5,r0,r1,hlA,wd];replace zz:=uu12 g1 g2 g3 g62 q1 q2 q3 q5 r0 r1 hlA wd;exact wz zz
def validE(e:Ex):Bool:=(formedM e 0 0).1&&(svalid (exW e) 0 0).1
theorem formedM_shaped: ∀ (e:Ex)(d n:Nat),(formedM e d n).1=true→shapedE e=true:=by
 refine Ex.ind ?_;intro op name v args kids ih d n;unfold formedM shapedE;split
 ·split
  ·exact id
  ·split
   ·exact id
   ·split
    ·split
     ·rename_i h0;rw[h0];split
      ·rename_i a b;have ha:=ih a (by simp) (d+1) (n+1);split
       ·rename_i c' he;rw[he]at ha;intro hb;have:=ih b (by simp) (d+1) c' hb;simp[ha rfl,this]
       ·simp
      ·simp
     ·simp
    ·simp
 ·simp
end Go.Proofs.YtblgchkahpgdjaaGreat
namespace Go.Proofs.YtblgchkahpgdjaaGreat
open Go.AM
set_option maxHeartbeats 2000000
set_option maxRecDepth 20000
theorem wordM_ok{s:ByteArray}(h:s.size≤bigN):(wordM s).ok:=by
 simp only[wordM,Sx.ok,Sx.oks,List.length_nil];exact⟨by omega,by omega,h,Nat.zero_le _,trivial⟩
theorem listM_ok{l:List Sx}(hl:l.length≤bigN)(h:Sx.oks l):(listM l).ok:=by
 simp only[listM,Sx.ok];refine⟨by omega,by omega,by simp[bigN,ByteArray.size],hl,h⟩
theorem wordsM_ok{first:ByteArray}{l:List ByteArray}(h0:first.size≤bigN)(hl:l.length≤1048576)(h: ∀ s∈l,s.size≤bigN):(wordsM first l).ok:=by
 refine listM_ok (by simp[bigN];omega) (Sx.oks_iff.2 ?_);intro k hk;simp only[List.map_cons,List.mem_cons,List.mem_map]at hk;rcases hk with rfl|⟨s,hs,rfl⟩
 ·exact wordM_ok h0
 ·exact wordM_ok (h s hs)
theorem exW_ok: ∀ e:Ex,e.ok→e.small→(exW e).ok:=by
 refine Ex.ind ?_;intro op name n args kids ih hok hsm;simp only[Ex.ok]at hok;simp only[Ex.small]at hsm;obtain⟨hop,hname,hn,hargs,hkl,hks⟩:=hok;rw[Ex.oks_iff]at hks;have hsk:=Ex.smalls_iff.1 hsm.2;unfold exW;split
 ·simp only[Sx.ok,Sx.oks,List.length_nil];refine⟨by omega,hn,by simp[bigN,ByteArray.size],by simp,trivial⟩
 ·split
  ·exact wordsM_ok hname hsm.1 hargs.2
  ·split
   ·rename_i a b;refine listM_ok (by simp[bigN]) ?_;simp only[Sx.oks];exact⟨wordM_ok hop,ih a (by simp) (hks a (by simp)) (hsk a (by simp)),ih b (by simp) (hks b (by simp)) (hsk b (by simp)),trivial⟩
   ·refine listM_ok (by simp[bigN]) ?_;simp only[Sx.oks];exact⟨wordM_ok hop,trivial⟩
theorem validE_c{e:Ex}(hok:e.ok)(hsm:e.small)(h:Heap):PCall Tryz.prog 166 [.agg e.cells] h fun r h'=>r= .sc (.bool (validE e))∧h'=h:=by
 have hf:=formed_c e hok 0 0 (by omega) (by omega) h.next (h.new (.arr 1 [[.sc (.int .i64 0)]])) (by simp[Heap.new,cntO])
 have hsh:=formedM_shaped e 0 0;have hx:=exW_ok e hok hsm;have hv:validE e=((formedM e 0 0).1&&(svalid (exW e) 0 0).1):=rfl;rw[hv];refine PCall.quiet Ty.hb_166 ?_;generalize formedM e 0 0=W at hf hsh⊢;obtain⟨b,c⟩:=W;cases b with
 |false=>
  obtain⟨op,name,n,args,kids⟩:=e;simp only[Ex.cells,Int.natCast_zero]at hf⊢;refine uG (ow:=fun t=>t==5) (wf:=fun _=>false) Tryz.func166 Tryz.ntmps166 Tryz.results166 Ty.hb_166 ?_;refine wt trivial ?_;refine owp_useH (hf) (by(try simp only[Ty.w,simprocAttr]);try rfl) ?_;simp(maxSteps:=2000000) only[Ty.w,simprocAttr];refine wt trivial ?_;exact((Grow.refl h).new _).set (Nat.le_refl _) _
 |true=>
  have hw:=writeE_c e hsm (hsh rfl);have hvv:=svalid_c hx;generalize exW e=X at hw hvv⊢;obtain⟨op,name,n,args,kids⟩:=e;obtain⟨ki,va,li,co,te,ks⟩:=X;simp only[Ex.cells,Sx.cells,Int.natCast_zero]at hf hw hvv⊢;refine uG (ow:=fun t=>t==5) (wf:=fun _=>false) Tryz.func166 Tryz.ntmps166 Tryz.results166 Ty.hb_166 ?_;refine wt trivial ?_;refine owp_useH (hf) (by(try simp only[Ty.w,simprocAttr]);try rfl) ?_;simp(maxSteps:=2000000) only[Ty.w,simprocAttr];refine wt trivial ?_;refine uU trivial (hw _) ?_;refine wt trivial ?_;refine uU trivial (hvv _) ?_;refine wt trivial ?_;exact((Grow.refl h).new _).set (Nat.le_refl _) _
def errV(n:Int):PV:= .sc (.iface 42 (.int .i64 n))
def zeroSx:Sx:= .mk 0 0 0 0 ⟨#[]⟩ []
theorem WriteExpr_c{e:Ex}(hok:e.ok)(hsm:e.small)(h:Heap):PCall Tryz.prog 146 [.agg e.cells] h fun r h'=>r=(if validE e then .tup [.agg (exW e).cells,.sc .nilIface]else .tup [.agg zeroSx.cells,errV 2])∧h'=h:=by
 have hv:=validE_c hok hsm;refine PCall.frz Ty.hb_146 ?_;cases hb:validE e with
 |false=>
  rw[hb]at hv;obtain⟨op,name,n,args,kids⟩:=e;simp only[Ex.cells,Bool.false_eq_true,if_false]at hv⊢;refine uG0 Tryz.func146 Tryz.ntmps146 Tryz.results146 Ty.hb_146 ?_;refine wt trivial ?_;refine uU yF (hv _) ?_;refine wt yF ?_;refine⟨?_,((Grow.refl h).new _).set (Nat.le_refl _) _⟩;simp only[zeroSx,errV,Sx.cells,Sx.rows,FrzTo,FrzL];exact⟨_,rfl,⟨_,rfl,rfl,rfl,rfl,rfl,rfl,.inr (.inl ⟨rfl,.inr rfl⟩),trivial⟩,rfl,trivial⟩
 |true=>
  rw[hb]at hv;have hsh:=formedM_shaped e 0 0 (by unfold validE at hb;simp only[Bool.and_eq_true]at hb;exact hb.1);have hw:=writeE_c e hsm hsh;have hfz:=fun(n:Nat)(h:Heap)=>sx_frz n h (exW e);generalize exW e=X at hw hfz⊢;obtain⟨op,name,n,args,kids⟩:=e;obtain⟨ki,va,li,co,te,ks⟩:=X;simp only[Ex.cells,Sx.cells,if_true]at hv hw hfz⊢;refine uG0 Tryz.func146 Tryz.ntmps146 Tryz.results146 Ty.hb_146 ?_;refine wt trivial ?_;refine uU yT (hv _) ?_;refine wt yT ?_;refine uU trivial (hw _) ?_;refine wt trivial ?_;refine⟨?_,((Grow.refl h).new _).set (Nat.le_refl _) _⟩;simp only[FrzTo,FrzL];exact⟨_,rfl,⟨_,rfl,hfz _ _⟩,rfl,trivial⟩
end Go.Proofs.YtblgchkahpgdjaaGreat
namespace Go.Proofs.YtblgchkahpgdjaaGreat
open Go.AM
set_option maxHeartbeats 2000000
set_option maxRecDepth 20000
def opObj:ByteArray:=⟨#[111,98,106,101,99,116]⟩
def typedB(s:ByteArray):Bool:=nameB s||bEq s opObj
theorem typed_c{h:Heap}{s:ByteArray}(hs:s.size≤bigN):PCall Tryz.prog 152 [sPV s] h fun r h'=>r= .sc (.bool (typedB s))∧h'=h:=by
 have hs':s.size≤9223372036854775807:=by unfold bigN at hs;omega
 have hc:=fun h:Heap=>fname_c (h:=h) hs';have hT:typedB s=(nameB s||(s.data.toList==(#[111,98,106,101,99,116]:Array UInt8).toList)):=rfl;rw[hT];generalize nameB s=b at hc⊢;cases b with
 |true=>
  refine uG0 Tryz.func152 Tryz.ntmps152 Tryz.results152 Ty.hb_152 ?_;refine wt trivial ?_;refine uU trivial (hc _) ?_;refine wm trivial ?_;try exact zI
  all_goals rfl
 |false=>
  refine uG0 Tryz.func152 Tryz.ntmps152 Tryz.results152 Ty.hb_152 ?_;refine wt trivial ?_;refine uU trivial (hc _) ?_;refine wm trivial ?_;try exact zI
  all_goals rfl
def paramsW:List Pm→List Sx
 |[]=>[]
 |p::l=>wordM p.name::wordM ⟨#[45]⟩::wordM p.type::paramsW l
theorem paramsW_append: ∀ l m:List Pm,paramsW (l++m)=paramsW l++paramsW m
 |[],m=>rfl
 |p::l,m=>by simp only[List.cons_append,paramsW,paramsW_append l m]
theorem paramsW_len: ∀ l:List Pm,(paramsW l).length=3*l.length
 |[]=>rfl
 |p::l=>by simp only[paramsW,List.length_cons,paramsW_len l];omega
theorem tl_frzX{h:Heap}{id0:Nat}{p:PV}{l:List Sx}(t:Tl h id0 6 p (Sx.rows l)):FrzTo id0 h (.imm 6 (Sx.rows l)) p:=by
 simp only[FrzTo];rcases t with⟨h1,h2⟩|⟨id,h1,h2,rfl,ho⟩
 ·exact .inr (.inl ⟨h1,h2.symm⟩)
 ·refine .inr (.inr ⟨id,0,_,_,rfl,h1,ho,by omega,?_⟩);rw[List.drop_zero,List.take_of_length_le (by omega)];exact sxs_frz _ _ _
theorem writeParams_c{l:List Pm}(hl:l.length≤1048576)(h:Heap):PCall Tryz.prog 96 [.imm 2 (pmRows l)] h fun r h'=>r= .imm 6 (Sx.rows (paramsW l))∧h'=h:=by
 refine PCall.frz Ty.hb_96 ?_;have hll:=pmRows_len l;have hw: ∀ (s:ByteArray)(h:Heap),PCall Tryz.prog 136 [sPV s] h fun r h'=>r= .agg (wordM s).cells∧h'=h:=fun s h=>word_c;simp only[wordM,Sx.cells,Sx.rows]at hw;refine uG0 Tryz.func96 Tryz.ntmps96 Tryz.results96 Ty.hb_96 ?_;refine wt hll ?_;refine a_loop (fun m S h'=>S 6= .imm 2 (pmRows l)∧S 7= .sc (.int .i64 l.length)∧ ∃ (k:Nat)(o:PV),S 8= .sc (.int .i64 k)∧S 3=o∧k≤l.length∧m=l.length-k∧Grow h h'∧Tl h' h.next 6 o (Sx.rows (paramsW (l.take k)))) l.length ?_ ?_
 ·simp only[Ty.w,simprocAttr];exact⟨0,_,rfl,rfl,by omega,rfl,Grow.refl _,Tl.nil⟩
 ·rintro m S h' ⟨g6,g7,k,o,g8,g3,hk,rfl,hg,tl⟩;by_cases hlt:k<l.length
  ·have hd:decide ((k:Int)<(l.length:Int))=true:=(by simp;omega);have w7:IntKind.i64.wrap ((k:Int)+1)=k+1:=(by rw[wrap64 (by omega) (by omega)]);obtain⟨p,hx⟩: ∃ p,l[k]? =some p:=⟨_,List.getElem?_eq_getElem hlt⟩;have hr:=pmRows_get hx;have tl2:=tl.up (h':=(h'.new (.arr 2 [[.sc (.string ⟨#[]⟩),.sc (.string ⟨#[]⟩)]])).set h'.next (.arr 2 [[sPV p.name,sPV p.type]])) (by simp[Heap.new,Heap.set]) (fun j _ hj=>by simp only[Heap.new,Heap.set];rw[if_neg (by omega),if_neg (by omega)]);have hg2:Grow h ((h'.new (.arr 2 [[.sc (.string ⟨#[]⟩),.sc (.string ⟨#[]⟩)]])).set h'.next (.arr 2 [[sPV p.name,sPV p.type]])):=(hg.new _).set hg.le _;obtain⟨H,t1,t2,t3,t4,t5⟩:=tl2.tail;have hpr:(Sx.rows (paramsW (l.take k))).length=3*k:=(by rw[Sx.rows_len,paramsW_len,List.length_take];omega);have hb:(3*k+3)*72≤140737488355328:=(by omega);have hR:Sx.rows (paramsW (l.take (k+1)))=Sx.rows (paramsW (l.take k))++[[.sc (.int .i64 1),.sc (.int .i64 0),.sc (.int .i64 0),.sc (.int .i64 0),sPV p.name,.imm 6 []],[.sc (.int .i64 1),.sc (.int .i64 0),.sc (.int .i64 0),.sc (.int .i64 0),sPV ⟨#[45]⟩,.imm 6 []],[.sc (.int .i64 1),.sc (.int .i64 0),.sc (.int .i64 0),.sc (.int .i64 0),sPV p.type,.imm 6 []]]:=by
    rw[List.take_add_one,hx,paramsW_append];simp only[Sx.rows_map,List.map_append,Option.toList_some,paramsW,List.map_cons,List.map_nil,wordM,Sx.cells]
   generalize Sx.rows (paramsW (l.take k))=R at tl tl2 t1 t2 hpr hR;replace zz:=uu7 g6 g7 g8 g3 hd hr hll;refine wy zz ?_;replace zz:=uu4 g6 g7 g8 g3;(first|refine uV zz (hw p.name _) ?_|refine uA zz (hw p.name _) ?_);refine wy zz ?_;replace zz:=uu4 g6 g7 g8 g3;(first|refine uV zz (hw ⟨#[45]⟩ _) ?_|refine uA zz (hw ⟨#[45]⟩ _) ?_);refine wy zz ?_;replace zz:=uu4 g6 g7 g8 g3;(first|refine uV zz (hw p.type _) ?_|refine uA zz (hw p.type _) ?_);replace zz:=uu9 g6 g7 g8 g3 w7 t1 t2 hpr hb;(repeat'(first|refine cK ?_|refine nK ?_|refine uR zz ?_|(refine uN hK ?_;clear hK)|refine uB zz ?_|(rw[if_pos];rotate_left 1;omega;simp(maxSteps:=2000000) only[Ty.w,simprocAttr,g6,g7,g8,g3,w7,t1,t2,hpr,hb])|apply zI));have t3':H.next=h'.next+1:=by rw[t3];simp[Heap.new,Heap.set]
   have hkp:=t5 h ⟨hg2.le,hg2.old⟩ (Nat.le_refl _);have hgH:Grow h H:=⟨hkp.1,hkp.2⟩;rw[← hR];have hRl:3*k+3=(Sx.rows (paramsW (l.take (k+1)))).length:=(by rw[Sx.rows_len,paramsW_len,List.length_take];omega);exact⟨l.length-(k+1),by omega,k+1,.own H.next 0 (3*k+3),by simp,by rw[t3'],by omega,rfl,hgH.new _,Tl.grow hkp.1 hRl⟩
  ·have hd:decide ((k:Int)<(l.length:Int))=false:=(by simp;omega);have hke:k=l.length:=(by omega);subst hke;rw[List.take_length]at tl;replace zz:=uu5 g6 g7 g8 g3 hd;refine wt zz ?_;exact⟨tl_frzX tl,hg⟩
end Go.Proofs.YtblgchkahpgdjaaGreat
namespace Go.Proofs.YtblgchkahpgdjaaGreat
open Go.AM
def opAtom:ByteArray:=⟨#[97,116,111,109]⟩
def opSame:ByteArray:=⟨#[115,97,109,101]⟩
def opAnd:ByteArray:=⟨#[97,110,100]⟩
def opOr:ByteArray:=⟨#[111,114]⟩
def opNot:ByteArray:=⟨#[110,111,116]⟩
def opImp:ByteArray:=⟨#[105,109,112,108,121]⟩
def opAll:ByteArray:=⟨#[102,111,114,97,108,108]⟩
def opSome:ByteArray:=⟨#[101,120,105,115,116,115]⟩
def opEq:ByteArray:=⟨#[61]⟩
def opLt:ByteArray:=⟨#[60]⟩
def opLe:ByteArray:=⟨#[60,61]⟩
def isCmp(op:ByteArray):Bool:=bEq op opLt||bEq op opLe||bEq op opEq
def isQ(op:ByteArray):Bool:=bEq op opAll||bEq op opSome
def zeroFm:Fm:= .mk ⟨#[]⟩ ⟨#[]⟩ [] [] [] []
def shapeOf(op:ByteArray)(nk:Nat):Option (Nat × Nat × Bool):=
 if bEq op opAtom then some (0,0,false)
 else if bEq op opSame then some (0,0,false)
 else if bEq op opLt then some (2,0,false)
 else if bEq op opLe then some (2,0,false)
 else if bEq op opEq then some (2,0,false)
 else if bEq op opAnd then some (0,nk,false)
 else if bEq op opOr then some (0,nk,false)
 else if bEq op opNot then some (0,1,false)
 else if bEq op opImp then some (0,2,false)
 else if bEq op opAll then some (0,1,true)
 else if bEq op opSome then some (0,1,true)
 else none
def termsOk(op name:ByteArray)(args:List ByteArray):Bool:=
 if bEq op opAtom then nameB name&&args.all termB
 else if bEq op opSame then emptyB name&&decide (args.length=2)&&args.all termB
 else emptyB name&&args.isEmpty
def pmOk(p:Pm):Bool:=varB p.name&&typedB p.type
def partsOk(op name:ByteArray)(args:List ByteArray)(params:List Pm)(ne nk:Nat):Bool:=
 match shapeOf op nk with
 |none=>false
 |some (e,m,q)=>termsOk op name args&&decide (ne=e)&&decide (nk=m)&&(params.isEmpty||q)&&params.all pmOk
def formedMs:List Ex→Nat→Nat→Bool × Nat
 |[],_,c=>(true,c)
 |e::l,d,c=>match formedM e d c with
  |(true,c')=>formedMs l d c'
  |(false,c')=>(false,c')
mutual
def shapedM:Fm→Nat→Nat→Bool × Nat
 | .mk op name args params exprs kids,d,c=>
  if c+1≤4096∧d≤32 then
   (if partsOk op name args params exprs.length kids.length = true then (match formedMs exprs (d + 1) (c + 1) with
    |(true,c')=>shapedMs kids (d+1) c'
    |(false,c')=>(false,c'))else(false,c+1))
  else(false,c+1)
def shapedMs:List Fm→Nat→Nat→Bool × Nat
 |[],_,c=>(true,c)
 |k::l,d,c=>match shapedM k d c with
  |(true,c')=>shapedMs l d c'
  |(false,c')=>(false,c')
end
mutual
def shapedF:Fm→Bool
 | .mk op name args params exprs kids=>partsOk op name args params exprs.length kids.length&&exprs.all shapedE&&shapedFs kids
def shapedFs:List Fm→Bool
 |[]=>true
 |k::l=>shapedF k&&shapedFs l
end
theorem shapedFs_iff: ∀ {l:List Fm},(shapedFs l=true↔ ∀ k∈l,shapedF k=true)
 |[]=>by simp[shapedFs]
 |k::l=>by simp[shapedFs,shapedFs_iff (l:=l)]
mutual
def fmW:Fm→Sx
 | .mk op name args params exprs kids=>
  if bEq op opAtom then wordsM name args
  else if bEq op opSame then wordsM opEq args
  else if isCmp op=true then listM (wordM op::exprs.map exW)
  else listM ((if(bEq op opAnd&&kids.isEmpty)=true then[]else[wordM op])++(if isQ op=true then[listM (paramsW params)]else[])++fmWs kids)
def fmWs:List Fm→List Sx
 |[]=>[]
 |k::l=>fmW k::fmWs l
end
theorem fmWs_map: ∀ l:List Fm,fmWs l=l.map fmW
 |[]=>rfl
 |k::l=>by simp[fmWs,fmWs_map l]
def validF(f:Fm):Bool:=(shapedM f 0 0).1&&(svalid (fmW f) 0 0).1
end Go.Proofs.YtblgchkahpgdjaaGreat
namespace Go.AM
section
variable {P:Program}{ow:Nat→Bool}{n:Nat}{ops:List Oper}{I K:Slots→Heap→Prop}
theorem lwp_cut: ∀ (l:List Oper)(k:Nat){s:Slots}{h:Heap},lwp P ow n ops (l.take k) I s h→(∀ s h,I s h→lwp P ow n ops (l.drop k) K s h)→lwp P ow n ops l K s h
 |[],k,s,h,h1,hk=>by
  rw[List.take_nil]at h1;have:=hk s h (by simpa only[lwp]using h1)
  rwa [List.drop_nil]at this
 |o::rest,0,s,h,h1,hk=>hk s h (by simpa only[lwp,List.take_zero]using h1)
 |o::rest,k+1,s,h,h1,hk=>by
  rw[List.take_succ_cons]at h1;simp only[lwp]at h1⊢;refine⟨h1.1,?_⟩;have h3:=h1.2;try clear zz
  clear h1;cases hw:wantedB ops s o with
  |none=>rw[hw]at h3;exact h3
  |some b=>
   rw[hw]at h3;simp only at h3⊢;split at h3
   ·rename_i hb;rw[if_pos hb];exact owp_mono (fun s h hh=>lwp_cut rest k hh hk) h3
   ·rename_i hb;rw[if_neg hb];exact lwp_cut rest k h3 hk
theorem lwn_cutl: ∀ (l:List Oper)(k:Nat){s:Slots}{h:Heap},lwn P ow n ops (l.take k) I s h→(∀ s h,I s h→lwn P ow n ops (l.drop k) K s h)→lwn P ow n ops l K s h
 |[],k,s,h,h1,hk=>by
  rw[List.take_nil]at h1;have:=hk s h (by simpa only[lwn]using h1)
  rwa [List.drop_nil]at this
 |o::rest,0,s,h,h1,hk=>hk s h (by simpa only[lwn,List.take_zero]using h1)
 |o::rest,k+1,s,h,h1,hk=>by
  rw[List.take_succ_cons]at h1;simp only[lwn]at h1⊢;refine⟨h1.1,?_⟩;have h3:=h1.2;try clear zz
  clear h1;cases hw:wantedB ops s o with
  |none=>rw[hw]at h3;exact h3
  |some b=>
   rw[hw]at h3;simp only at h3⊢;split at h3
   ·rename_i hb;rw[if_pos hb];cases hc:callee (pev s) o.op with
    |none=>
     rw[hc]at h3;simp only at h3⊢;cases he:eff P (o.dst.any ow) o.op (pev s) h with
     |none=>rw[he]at h3;exact h3
     |some r=>
      rw[he]at h3;exact lwn_cutl rest k h3 hk
    |some f=>
     rw[hc]at h3;simp only at h3⊢;exact owp_mono (fun s h hh=>lwp_cut rest k hh fun s h hi=>lwn_lwp _ _ _ (hk s h hi)) h3
   ·rename_i hb;rw[if_neg hb];exact lwn_cutl rest k h3 hk
theorem lwn_cut{l:List Oper}{s:Slots}{h:Heap}(k:Nat)(I:Slots→Heap→Prop)(h1:lwn P ow n ops (l.take k) I s h)(h2: ∀ s h,I s h→lwn P ow n ops (l.drop k) K s h):lwn P ow n ops l K s h:=lwn_cutl l k h1 h2
end
end Go.AM
namespace Go.Proofs.YtblgchkahpgdjaaGreat
open Go.AM
set_option maxHeartbeats 16000000
set_option maxRecDepth 20000
theorem ne_of_eq{a x y:List UInt8}(h:(a==x)=true)(h2:(x==y)=false):(a==y)=false:=by rw[eq_of_beq h];exact h2
def headOk(op name:ByteArray)(args:List ByteArray)(np ne nk:Nat):Bool:=
 match shapeOf op nk with
 |none=>false
 |some (e,m,q)=>termsOk op name args&&decide (ne=e)&&decide (nk=m)&&(decide (np=0)||q)
theorem partsOk_head(op name:ByteArray)(args:List ByteArray)(params:List Pm)(ne nk:Nat):partsOk op name args params ne nk=(headOk op name args params.length ne nk&&params.all pmOk):=by
 unfold partsOk headOk;have e1:params.isEmpty=decide (params.length=0):=by cases params<;>simp
 cases shapeOf op nk with
 |none=>rfl
 |some p=>obtain⟨e,m,q⟩:=p;simp only[e1]
theorem drop_get{α:Type}{l:List α}{k:Nat}{x:α}(h:l[k]? =some x):l.drop k=x::l.drop (k+1):=by
 obtain⟨h1,h2⟩:=List.getElem?_eq_some_iff.1 h;rw[List.drop_eq_getElem_cons h1,h2]
theorem formedMs_le: ∀ (l:List Ex)(d n:Nat),n≤4096→(formedMs l d n).1=true→(formedMs l d n).2≤4096
 |[],d,n,hn=>by simp[formedMs,hn]
 |e::l,d,n,hn=>by
  unfold formedMs;have h1:=formedM_le e d n;split
  ·rename_i c he;rw[he]at h1;exact formedMs_le l d c (h1 rfl)
  ·simp
mutual
theorem shapedM_le: ∀ (f:Fm)(d n:Nat),(shapedM f d n).1=true→(shapedM f d n).2≤4096
 | .mk op name args params exprs kids,d,n=>by
  unfold shapedM;split
  ·rename_i hc;split
   ·have h1:=formedMs_le exprs (d+1) (n+1) hc.1;split
    ·rename_i c he;rw[he]at h1;exact shapedMs_le kids (d+1) c (h1 rfl)
    ·simp
   ·simp
  ·simp
theorem shapedMs_le: ∀ (l:List Fm)(d n:Nat),n≤4096→(shapedMs l d n).1=true→(shapedMs l d n).2≤4096
 |[],d,n,hn=>by simp[shapedMs,hn]
 |k::l,d,n,hn=>by
  unfold shapedMs;have h1:=shapedM_le k d n;split
  ·rename_i c he;rw[he]at h1;exact shapedMs_le l d c (h1 rfl)
  ·simp
end
theorem shaped_c: ∀ f:Fm,f.ok→ ∀ (d n:Nat),d≤33→n≤4096→ ∀ (id:Nat)(h:Heap),h.obj id=some (cntO n)→
  PCall Tryz.prog 173 [.agg f.cells,.sc (.int .i64 d),.ptr id 0 0] h fun r h'=>r= .sc (.bool (shapedM f d n).1)∧h'=h.set id (cntO (shapedM f d n).2):=by
 refine Fm.ind ?_;intro op name args params exprs kids ih hok d n hd hn id h ho;simp only[Fm.ok]at hok;obtain⟨_,hnm,⟨hal,hargs⟩,⟨hpl,hps⟩,⟨hel,hes⟩,hkl,hks⟩:=hok;rw[Ex.oks_iff]at hes;rw[Fm.oks_iff]at hks;have hnm':name.size≤9223372036854775807:=by unfold bigN at hnm;omega
 unfold bigN at hpl hel hkl;have hlA:=strRows_len args;have hlP:=pmRows_len params;have hlE:=Ex.rows_len exprs;have hlK:=Fm.rows_len kids;refine pcall_wf Ty.hb_173 fun hwf=>?_;have hid:id<h.next:=hwf id (by rw[ho];try rfl)
 refine PCall.quietX Ty.hb_173 ho (by simp[cntO,inNO,inNR,inNL,inN]) ?_;generalize hF:shapedM (.mk op name args params exprs kids) d n=F;unfold shapedM at hF;by_cases hc:n+1≤4096∧d≤32;rotate_left
 ·rw [if_neg hc]at hF;subst hF;have hT:=take_c (by omega) hn ho (decide_eq_false hc);simp only[Fm.cells];refine uG0 Tryz.func173 Tryz.ntmps173 Tryz.results173 Ty.hb_173 ?_;refine wt trivial ?_;refine owp_useH (hT) (by(try simp only[Ty.w,simprocAttr,Bool.not_false]);try rfl) ?_;simp(maxSteps:=2000000) only[Ty.w,simprocAttr,Bool.not_false];refine wt yF ?_;exact(GrowX.refl ho).put
 rw[if_pos hc]at hF;have hT:=take_c (by omega) hn ho (decide_eq_true hc);have wd:IntKind.i64.wrap ((d:Int)+1)=(d:Int)+1:=by rw[wrap64 (by omega) (by omega)]
 have G1:GrowX h id (cntO (n+1)) (h.set id (cntO (n+1))):=(GrowX.refl ho).put;have hO1:(h.set id (cntO (n+1))).obj id=some (cntO (n+1)):=by simp[Heap.set]
 have hN1:(h.set id (cntO (n+1))).next=h.next:=rfl
 have hFf:partsOk op name args params exprs.length kids.length=false→F=(false,n+1):=fun hp=>by rw[← hF,if_neg (by rw[hp];simp)]
 have hFt:partsOk op name args params exprs.length kids.length=true→F=(match formedMs exprs (d+1) (n+1)with
  |(true,c')=>shapedMs kids (d+1) c'
  |(false,c')=>(false,c')):=fun hp=>by rw[← hF,if_pos hp];try rfl
 try clear zz
 clear hF;simp only[Fm.cells];refine uG0 Tryz.func173 Tryz.ntmps173 Tryz.results173 Ty.hb_173 ?_;refine wt trivial ?_;refine owp_useH (hT) (by(try simp only[Ty.w,simprocAttr,Bool.not_true]);try rfl) ?_;simp(maxSteps:=2000000) only[Ty.w,simprocAttr,Bool.not_true];try clear zz
 clear hT;generalize h.set id (cntO (n+1))=H1 at G1 hO1 hN1⊢;refine xH 4 yT ?_;refine⟨?_⟩;refine a_cut (fun S h'=>h'=H1∧S 1= .sc (.int .i64 d)∧S 2= .ptr id 0 0∧S 3= .cptr (Fm.mk op name args params exprs kids).cells∧ ∃ (e m:Nat)(q:Bool),shapeOf op kids.length=some (e,m,q)∧((bEq op opAtom||bEq op opSame)=true→termsOk op name args=true)∧S 7= .sc (.int .i64 e)∧S 8= .sc (.bool q)∧S 9= .sc (.int .i64 m)) ?_ ?_
 ·have hfc: ∀ s∈args, ∀ h:Heap,PCall Tryz.prog 188 [sPV s] h fun r h'=>r= .sc (.bool (!termB s))∧h'=h:=fun s hs h=>fclosure2_c (hargs s hs);cases k1:(op.data.toList==(#[97,116,111,109]:Array UInt8).toList)with
  |true=>
   have k2:(op.data.toList==(#[115,97,109,101]:Array UInt8).toList)=false:=ne_of_eq k1 rfl;cases q1:nameB name with
   |false=>
    have hp:=hFf (by simp[partsOk,shapeOf,termsOk,(show bEq op opAtom=true from k1),q1]);subst hp;refine wt (uu k1 k2) ?_;refine uU (uu3 k1 k2 q1) (fname_c (s:=name) hnm') ?_;replace zz:=uu4 k1 k2 q1 yF;refine wm zz ?_;try exact zI
    all_goals first|exact G1|exact⟨rfl,G1⟩
   |true=>
    cases q2:args.all termB with
    |false=>
     have hp:=hFf (by simp[partsOk,shapeOf,termsOk,(show bEq op opAtom=true from k1),q1,q2]);subst hp;refine wt (uu k1 k2) ?_;refine uU (uu3 k1 k2 q1) (fname_c (s:=name) hnm') ?_;replace zz:=uu4 k1 k2 q1 yT;refine wt zz ?_;replace zz:=uu4 k1 k2 q1 q2;refine uU zz (containsFunc_c hal hfc) ?_;replace zz:=uu6 k1 k2 q1 q2 yF yT;refine wm zz ?_;try exact zI
     all_goals first|exact G1|exact⟨rfl,G1⟩
    |true=>
     refine wt (uu k1 k2) ?_;refine uU (uu3 k1 k2 q1) (fname_c (s:=name) hnm') ?_;replace zz:=uu4 k1 k2 q1 yT;refine wt zz ?_;replace zz:=uu4 k1 k2 q1 q2;refine uU zz (containsFunc_c hal hfc) ?_;replace zz:=uu6 k1 k2 q1 q2 yF yT;refine wt zz ?_;simp(maxSteps:=2000000) only[Ty.w,simprocAttr,Ty.all,Fm.cells];exact⟨0,0,false,by simp[shapeOf,(show bEq op opAtom=true from k1)],fun _=>by simp[termsOk,(show bEq op opAtom=true from k1),q1,q2],rfl,rfl,rfl⟩
  |false=>
   cases k2:(op.data.toList==(#[115,97,109,101]:Array UInt8).toList)with
   |true=>
    cases q1:(name.data.toList==(#[]:Array UInt8).toList)with
    |false=>
     have hp:=hFf (by simp[partsOk,shapeOf,termsOk,(show bEq op opAtom=false from k1),(show bEq op opSame=true from k2),(show emptyB name=false from q1)]);subst hp;replace zz:=uu4 k1 k2 q1 yF;refine wm zz ?_;try exact zI
     all_goals first|exact G1|exact⟨rfl,G1⟩
    |true=>
     cases q2:((args.length:Int)==2)with
     |false=>
      have hp:=hFf (by simp[partsOk,shapeOf,termsOk,(show bEq op opAtom=false from k1),(show bEq op opSame=true from k2),(show emptyB name=true from q1),(show ¬ args.length=2 by simp at q2;omega)]);subst hp;have q2p:=eq_false (ne_of_beq_false q2);have q2i:¬ args.length=2:=(by have:=ne_of_beq_false q2;omega);(repeat'(first|refine cK ?_|(refine nK ?_;try exact zI)|refine a_seq fun K hK=>?_|((first|refine a_regionS ?_|refine a_ret ?_);simp(maxSteps:=2000000) only[Ty.w,simprocAttr,k1,k2,q1,q2,q2p,hlA,Bool.not_true,Bool.not_false,not_false_eq_true,not_true_eq_false,if_true,if_false])|(refine a_cond _ (by(try simp(maxSteps:=2000000) only[Ty.w,simprocAttr,k1,k2,q1,q2,q2p,hlA,Bool.not_true,Bool.not_false,not_false_eq_true,not_true_eq_false,if_true,if_false]);rfl) (fun hb=>?_) (fun hb=>?_)<;>(try simp only[hb0,decide_eq_true_eq,decide_eq_false_iff_not,simprocAttr]at hb)<;>(try(exfalso;omega)))|(with_reducible refine ite_in (fun hb=>?_) (fun hb=>?_)<;>(try simp only[Decidable.not_not]at hb)<;>(try simp only[hb,if_true,if_false,not_false_eq_true,not_true_eq_false, ↓reduceIte])<;>(try simp only[hb0,decide_eq_true_eq,decide_eq_false_iff_not,simprocAttr]at hb)<;>(try(exfalso;omega)))|(refine hK _ _ ?_;clear hK;(try simp only[pst0,simprocAttr]))));all_goals first|exact G1|exact⟨rfl,G1⟩
     |true=>
      cases q3:args.all termB with
      |false=>
       have hp:=hFf (by simp[partsOk,shapeOf,termsOk,(show bEq op opAtom=false from k1),(show bEq op opSame=true from k2),(show emptyB name=true from q1),(show args.length=2 by simp at q2;omega),q3]);subst hp;have q2p:=eq_true (eq_of_beq q2);have q2i:args.length=2:=(by have:=eq_of_beq q2;omega);(repeat'(first|refine cK ?_|(refine nK ?_;try exact zI)|refine a_seq fun K hK=>?_|(refine a_regionS ?_;simp(maxSteps:=2000000) only[Ty.w,simprocAttr,k1,k2,q1,q2,q2p,hlA,Bool.not_true,not_false_eq_true,not_true_eq_false,if_true,if_false])|(refine a_cond _ (by(try simp(maxSteps:=2000000) only[Ty.w,simprocAttr,k1,k2,q1,q2,q2p,hlA,Bool.not_true,not_false_eq_true,not_true_eq_false,if_true,if_false]);rfl) (fun hb=>?_) (fun hb=>?_)<;>(try simp only[hb0,decide_eq_true_eq,decide_eq_false_iff_not,simprocAttr]at hb)<;>(try(exfalso;omega)))|(with_reducible refine ite_in (fun hb=>?_) (fun hb=>?_)<;>(try simp only[Decidable.not_not]at hb)<;>(try simp only[hb,if_true,if_false,not_false_eq_true,not_true_eq_false, ↓reduceIte])<;>(try simp only[hb0,decide_eq_true_eq,decide_eq_false_iff_not,simprocAttr]at hb)<;>(try(exfalso;omega)))|(refine hK _ _ ?_;clear hK;(try simp only[pst0,simprocAttr]))));replace zz:=uu5 k1 k2 q1 q2 q3;refine uU zz (containsFunc_c hal hfc) ?_;(repeat'(first|refine cK ?_|(refine nK ?_;try exact zI)|refine a_seq fun K hK=>?_|((first|refine a_regionS ?_|refine a_ret ?_);simp(maxSteps:=2000000) only[Ty.w,simprocAttr,k1,k2,q1,q2,q2p,q3,Bool.not_false,Bool.not_true,not_false_eq_true,not_true_eq_false,if_true,if_false])|(refine hK _ _ ?_;clear hK;(try simp only[pst0,simprocAttr]))));all_goals first|exact G1|exact⟨rfl,G1⟩
      |true=>
       have q2p:=eq_true (eq_of_beq q2);have q2i:args.length=2:=(by have:=eq_of_beq q2;omega);(repeat'(first|refine cK ?_|(refine nK ?_;try exact zI)|refine a_seq fun K hK=>?_|(refine a_regionS ?_;simp(maxSteps:=2000000) only[Ty.w,simprocAttr,k1,k2,q1,q2,q2p,hlA,Bool.not_true,not_false_eq_true,not_true_eq_false,if_true,if_false])|(refine a_cond _ (by(try simp(maxSteps:=2000000) only[Ty.w,simprocAttr,k1,k2,q1,q2,q2p,hlA,Bool.not_true,not_false_eq_true,not_true_eq_false,if_true,if_false]);rfl) (fun hb=>?_) (fun hb=>?_)<;>(try simp only[hb0,decide_eq_true_eq,decide_eq_false_iff_not,simprocAttr]at hb)<;>(try(exfalso;omega)))|(with_reducible refine ite_in (fun hb=>?_) (fun hb=>?_)<;>(try simp only[Decidable.not_not]at hb)<;>(try simp only[hb,if_true,if_false,not_false_eq_true,not_true_eq_false, ↓reduceIte])<;>(try simp only[hb0,decide_eq_true_eq,decide_eq_false_iff_not,simprocAttr]at hb)<;>(try(exfalso;omega)))|(refine hK _ _ ?_;clear hK;(try simp only[pst0,simprocAttr]))));replace zz:=uu5 k1 k2 q1 q2 q3;refine uU zz (containsFunc_c hal hfc) ?_;(repeat'(first|refine cK ?_|(refine nK ?_;try exact zI)|(refine a_block ?_)|(refine a_skip ?_;(try simp only[pst0,simprocAttr]))|(refine hK _ _ ?_;clear hK;(try simp only[pst0,simprocAttr]))));simp(maxSteps:=2000000) only[Ty.w,simprocAttr,Ty.all,Fm.cells];exact⟨0,0,false,by simp[shapeOf,(show bEq op opAtom=false from k1),(show bEq op opSame=true from k2)],fun _=>by simp[termsOk,(show bEq op opAtom=false from k1),(show bEq op opSame=true from k2),(show emptyB name=true from q1),(show args.length=2 by simp at q2;omega),q3],rfl,rfl,rfl⟩
   |false=>
    cases k3:(op.data.toList==(#[60]:Array UInt8).toList)with
    |true=>
     replace zz:=uu4 k1 k2 k3 hlK;refine wt zz ?_;simp(maxSteps:=2000000) only[Ty.w,simprocAttr,Ty.all,Fm.cells];exact⟨2,0,false,by simp[shapeOf,(show bEq op opAtom=false from k1),(show bEq op opSame=false from k2),(show bEq op opLt=true from k3)],fun hh=>by simp[(show bEq op opAtom=false from k1),(show bEq op opSame=false from k2)]at hh,rfl,rfl,rfl⟩
    |false=>
     cases k4:(op.data.toList==(#[60,61]:Array UInt8).toList)with
     |true=>
      replace zz:=uu5 k1 k2 k3 k4 hlK;refine wt zz ?_;simp(maxSteps:=2000000) only[Ty.w,simprocAttr,Ty.all,Fm.cells];exact⟨2,0,false,by simp[shapeOf,(show bEq op opAtom=false from k1),(show bEq op opSame=false from k2),(show bEq op opLt=false from k3),(show bEq op opLe=true from k4)],fun hh=>by simp[(show bEq op opAtom=false from k1),(show bEq op opSame=false from k2)]at hh,rfl,rfl,rfl⟩
     |false=>
      cases k5:(op.data.toList==(#[61]:Array UInt8).toList)with
      |true=>
       replace zz:=uu6 k1 k2 k3 k4 k5 hlK;refine wt zz ?_;simp(maxSteps:=2000000) only[Ty.w,simprocAttr,Ty.all,Fm.cells];exact⟨2,0,false,by simp[shapeOf,(show bEq op opAtom=false from k1),(show bEq op opSame=false from k2),(show bEq op opLt=false from k3),(show bEq op opLe=false from k4),(show bEq op opEq=true from k5)],fun hh=>by simp[(show bEq op opAtom=false from k1),(show bEq op opSame=false from k2)]at hh,rfl,rfl,rfl⟩
      |false=>
       cases k6:(op.data.toList==(#[97,110,100]:Array UInt8).toList)with
       |true=>
        replace zz:=uu7 k1 k2 k3 k4 k5 k6 hlK;refine wt zz ?_;simp(maxSteps:=2000000) only[Ty.w,simprocAttr,Ty.all,Fm.cells];exact⟨0,kids.length,false,by simp[shapeOf,(show bEq op opAtom=false from k1),(show bEq op opSame=false from k2),(show bEq op opLt=false from k3),(show bEq op opLe=false from k4),(show bEq op opEq=false from k5),(show bEq op opAnd=true from k6)],fun hh=>by simp[(show bEq op opAtom=false from k1),(show bEq op opSame=false from k2)]at hh,rfl,rfl,rfl⟩
       |false=>
        cases k7:(op.data.toList==(#[111,114]:Array UInt8).toList)with
        |true=>
         replace zz:=uu8 k1 k2 k3 k4 k5 k6 k7 hlK;refine wt zz ?_;simp(maxSteps:=2000000) only[Ty.w,simprocAttr,Ty.all,Fm.cells];exact⟨0,kids.length,false,by simp[shapeOf,(show bEq op opAtom=false from k1),(show bEq op opSame=false from k2),(show bEq op opLt=false from k3),(show bEq op opLe=false from k4),(show bEq op opEq=false from k5),(show bEq op opAnd=false from k6),(show bEq op opOr=true from k7)],fun hh=>by simp[(show bEq op opAtom=false from k1),(show bEq op opSame=false from k2)]at hh,rfl,rfl,rfl⟩
        |false=>
         cases k8:(op.data.toList==(#[110,111,116]:Array UInt8).toList)with
         |true=>
          replace zz:=uu9 k1 k2 k3 k4 k5 k6 k7 k8 hlK;refine wt zz ?_;simp(maxSteps:=2000000) only[Ty.w,simprocAttr,Ty.all,Fm.cells];exact⟨0,1,false,by simp[shapeOf,(show bEq op opAtom=false from k1),(show bEq op opSame=false from k2),(show bEq op opLt=false from k3),(show bEq op opLe=false from k4),(show bEq op opEq=false from k5),(show bEq op opAnd=false from k6),(show bEq op opOr=false from k7),(show bEq op opNot=true from k8)],fun hh=>by simp[(show bEq op opAtom=false from k1),(show bEq op opSame=false from k2)]at hh,rfl,rfl,rfl⟩
         |false=>
          cases k9:(op.data.toList==(#[105,109,112,108,121]:Array UInt8).toList)with
          |true=>
           replace zz:=uu10 k1 k2 k3 k4 k5 k6 k7 k8 k9 hlK;refine wt zz ?_;simp(maxSteps:=2000000) only[Ty.w,simprocAttr,Ty.all,Fm.cells];exact⟨0,2,false,by simp[shapeOf,(show bEq op opAtom=false from k1),(show bEq op opSame=false from k2),(show bEq op opLt=false from k3),(show bEq op opLe=false from k4),(show bEq op opEq=false from k5),(show bEq op opAnd=false from k6),(show bEq op opOr=false from k7),(show bEq op opNot=false from k8),(show bEq op opImp=true from k9)],fun hh=>by simp[(show bEq op opAtom=false from k1),(show bEq op opSame=false from k2)]at hh,rfl,rfl,rfl⟩
          |false=>
           cases k10:(op.data.toList==(#[102,111,114,97,108,108]:Array UInt8).toList)with
           |true=>
            replace zz:=uu11 k1 k2 k3 k4 k5 k6 k7 k8 k9 k10 hlK;refine wt zz ?_;simp(maxSteps:=2000000) only[Ty.w,simprocAttr,Ty.all,Fm.cells];exact⟨0,1,true,by simp[shapeOf,(show bEq op opAtom=false from k1),(show bEq op opSame=false from k2),(show bEq op opLt=false from k3),(show bEq op opLe=false from k4),(show bEq op opEq=false from k5),(show bEq op opAnd=false from k6),(show bEq op opOr=false from k7),(show bEq op opNot=false from k8),(show bEq op opImp=false from k9),(show bEq op opAll=true from k10)],fun hh=>by simp[(show bEq op opAtom=false from k1),(show bEq op opSame=false from k2)]at hh,rfl,rfl,rfl⟩
           |false=>
            cases k11:(op.data.toList==(#[101,120,105,115,116,115]:Array UInt8).toList)with
            |true=>
             replace zz:=uu12 k1 k2 k3 k4 k5 k6 k7 k8 k9 k10 k11 hlK;refine wt zz ?_;simp(maxSteps:=2000000) only[Ty.w,simprocAttr,Ty.all,Fm.cells];exact⟨0,1,true,by simp[shapeOf,(show bEq op opAtom=false from k1),(show bEq op opSame=false from k2),(show bEq op opLt=false from k3),(show bEq op opLe=false from k4),(show bEq op opEq=false from k5),(show bEq op opAnd=false from k6),(show bEq op opOr=false from k7),(show bEq op opNot=false from k8),(show bEq op opImp=false from k9),(show bEq op opAll=false from k10),(show bEq op opSome=true from k11)],fun hh=>by simp[(show bEq op opAtom=false from k1),(show bEq op opSame=false from k2)]at hh,rfl,rfl,rfl⟩
            |false=>
             have hp:=hFf (by simp[partsOk,shapeOf,termsOk,(show bEq op opAtom=false from k1),(show bEq op opSame=false from k2),(show bEq op opLt=false from k3),(show bEq op opLe=false from k4),(show bEq op opEq=false from k5),(show bEq op opAnd=false from k6),(show bEq op opOr=false from k7),(show bEq op opNot=false from k8),(show bEq op opImp=false from k9),(show bEq op opAll=false from k10),(show bEq op opSome=false from k11)]);subst hp;replace zz:=uu11 k1 k2 k3 k4 k5 k6 k7 k8 k9 k10 k11;refine wm zz ?_;try exact zI
             all_goals first|exact G1|exact⟨rfl,G1⟩
 ·rintro S h' ⟨rfl,g1,g2,g3,e,m,q,hs,ht,g7,g8,g9⟩;simp only[Fm.cells]at g3;have hO:headOk op name args params.length exprs.length kids.length=(termsOk op name args&&decide (exprs.length=e)&&decide (kids.length=m)&&(decide (params.length=0)||q)):=by unfold headOk;rw[hs]
  refine xH 24 (uu3 g1 g2 g3) ?_;refine⟨?_⟩;refine a_cut (fun S h2=>h2=h'∧S 1= .sc (.int .i64 d)∧S 2= .ptr id 0 0∧S 3= .cptr (Fm.mk op name args params exprs kids).cells∧headOk op name args params.length exprs.length kids.length=true) ?_ ?_
  ·have hFh:headOk op name args params.length exprs.length kids.length=false→F=(false,n+1):=fun hh=>hFf (by rw[partsOk_head,hh];try rfl);have tA:bEq op opAtom=(op.data.toList==(#[97,116,111,109]:Array UInt8).toList):=rfl;have tS:bEq op opSame=(op.data.toList==(#[115,97,109,101]:Array UInt8).toList):=rfl;(try clear zz);clear hFf hFt ih hs;refine a_seq (fun K hK=>?_);refine a_regionS (lwn_cut 20 (fun S h2=>h2=h'∧S 1= .sc (.int .i64 d)∧S 2= .ptr id 0 0∧S 3= .cptr (Fm.mk op name args params exprs kids).cells∧S 7= .sc (.int .i64 e)∧S 8= .sc (.bool q)∧S 9= .sc (.int .i64 m)∧ ∃ b,S 91= .sc (.bool b)∧(b=true→F=(false,n+1))∧(b=false→termsOk op name args=true)) ?_ ?_)
   ·cases k1:(op.data.toList==(#[97,116,111,109]:Array UInt8).toList)with
    |true=>
     simp(maxSteps:=2000000) only[Ty.w,simprocAttr,Ty.all,g1,g2,g3,g7,g8,g9,hlA,k1,Bool.not_true,Bool.not_false,Fm.cells];exact⟨false,rfl,fun hh=>absurd hh (by simp),fun _=>ht (by rw[tA,k1];try rfl)⟩
    |false=>
     cases k2:(op.data.toList==(#[115,97,109,101]:Array UInt8).toList)with
     |true=>
      simp(maxSteps:=2000000) only[Ty.w,simprocAttr,Ty.all,g1,g2,g3,g7,g8,g9,hlA,k1,k2,Bool.not_true,Bool.not_false,Fm.cells];exact⟨false,rfl,fun hh=>absurd hh (by simp),fun _=>ht (by rw[tS,k2];simp)⟩
     |false=>
      cases q1:(name.data.toList==(#[]:Array UInt8).toList)with
      |false=>
       simp(maxSteps:=2000000) only[Ty.w,simprocAttr,Ty.all,g1,g2,g3,g7,g8,g9,hlA,k1,k2,q1,Bool.not_true,Bool.not_false,Fm.cells];exact⟨true,rfl,fun _=>hFh (by rw[hO];simp[termsOk,tA,tS,k1,k2,(show emptyB name=false from q1)]),fun hh=>absurd hh (by simp)⟩
      |true=>
       cases q2:decide ((args.length:Int)>0)with
       |true=>
        simp(maxSteps:=2000000) only[Ty.w,simprocAttr,Ty.all,g1,g2,g3,g7,g8,g9,hlA,k1,k2,q1,q2,Bool.not_true,Bool.not_false,Fm.cells];exact⟨true,rfl,fun _=>hFh (by rw[hO];cases args with|nil=>simp at q2|cons a l=>simp[termsOk,tA,tS,k1,k2]),fun hh=>absurd hh (by simp)⟩
       |false=>
        simp(maxSteps:=2000000) only[Ty.w,simprocAttr,Ty.all,g1,g2,g3,g7,g8,g9,hlA,k1,k2,q1,q2,Bool.not_true,Bool.not_false,Fm.cells];exact⟨false,rfl,fun hh=>absurd hh (by simp),fun _=>by cases args with|nil=>simp[termsOk,tA,tS,k1,k2,(show emptyB name=true from q1)]|cons a l=>simp at q2⟩
   ·(try clear zz);clear g1 g2 g3 g7 g8 g9;rintro S h2 ⟨rfl,g1,g2,g3,g7,g8,g9,b,g91,hbt,hbf⟩;simp only[Fm.cells]at g3;(try clear zz);clear ht tA tS;cases b with
    |true=>
     have hp:=hbt rfl;subst hp;simp(maxSteps:=2000000) only[Ty.w,simprocAttr,Ty.all,g1,g2,g3,g91,Bool.not_true,Bool.not_false];replace zz:=uu4 g1 g2 g3 g91;refine wm zz ?_;try exact zI
     all_goals first|exact G1|exact⟨rfl,G1⟩
    |false=>
     have hts:=hbf rfl;(try clear zz);clear hbt hbf;cases c1:((exprs.length:Int)==(e:Int))with
     |false=>
      have hp:=hFh (by rw[hO];simp[(show ¬ exprs.length=e by simp at c1;omega)]);subst hp;have c1p:=eq_false (ne_of_beq_false c1);have c1i:¬ exprs.length=e:=(by have:=ne_of_beq_false c1;omega);simp(maxSteps:=2000000) only[Ty.w,simprocAttr,Ty.all,g1,g2,g3,g7,g8,g9,hlA,hlP,hlE,hlK,g91,c1,c1p,Bool.not_true,Bool.not_false,not_false_eq_true,not_true_eq_false,if_true,if_false];(repeat'(first|refine cK ?_|(refine nK ?_;try exact zI)|refine a_seq fun K hK=>?_|((first|refine a_regionS ?_|refine a_ret ?_);simp(maxSteps:=2000000) only[Ty.w,simprocAttr,g1,g2,g3,g7,g8,g9,hlA,hlP,hlE,hlK,g91,c1,c1p,Bool.not_true,Bool.not_false,not_false_eq_true,not_true_eq_false,if_true,if_false])|(with_reducible refine ite_in (fun hb=>?_) (fun hb=>?_)<;>(try simp only[Decidable.not_not]at hb)<;>(try simp only[hb,if_true,if_false,not_false_eq_true,not_true_eq_false, ↓reduceIte])<;>(try simp only[hb0,decide_eq_true_eq,decide_eq_false_iff_not,simprocAttr]at hb)<;>(try(exfalso;omega)))|(refine hK _ _ ?_;clear hK;(try simp only[pst0,simprocAttr]))));all_goals first|exact G1|exact⟨rfl,G1⟩
     |true=>
      have c1p:=eq_true (eq_of_beq c1);have c1i:exprs.length=e:=(by have:=eq_of_beq c1;omega);cases c2:((kids.length:Int)==(m:Int))with
      |false=>
       have c2p:=eq_false (ne_of_beq_false c2);have c2i:¬ kids.length=m:=(by have:=ne_of_beq_false c2;omega);have hp:=hFh (by rw[hO];simp[(show ¬ kids.length=m by simp at c2;omega)]);subst hp;simp(maxSteps:=2000000) only[Ty.w,simprocAttr,Ty.all,g1,g2,g3,g7,g8,g9,hlA,hlP,hlE,hlK,g91,c1,c2,c1p,c2p,Bool.not_true,Bool.not_false,not_false_eq_true,not_true_eq_false,if_true,if_false];(repeat'(first|refine cK ?_|(refine nK ?_;try exact zI)|refine a_seq fun K hK=>?_|((first|refine a_regionS ?_|refine a_ret ?_);simp(maxSteps:=2000000) only[Ty.w,simprocAttr,g1,g2,g3,g7,g8,g9,hlA,hlP,hlE,hlK,g91,c1,c2,c1p,c2p,Bool.not_true,Bool.not_false,not_false_eq_true,not_true_eq_false,if_true,if_false])|(with_reducible refine ite_in (fun hb=>?_) (fun hb=>?_)<;>(try simp only[Decidable.not_not]at hb)<;>(try simp only[hb,if_true,if_false,not_false_eq_true,not_true_eq_false, ↓reduceIte])<;>(try simp only[hb0,decide_eq_true_eq,decide_eq_false_iff_not,simprocAttr]at hb)<;>(try(exfalso;omega)))|(refine hK _ _ ?_;clear hK;(try simp only[pst0,simprocAttr]))));all_goals first|exact G1|exact⟨rfl,G1⟩
      |true=>
       have c2p:=eq_true (eq_of_beq c2);have c2i:kids.length=m:=(by have:=eq_of_beq c2;omega);cases c3:decide ((params.length:Int)>0)with
       |false=>
        have c3e:params=[]:=List.eq_nil_of_length_eq_zero (by have:=of_decide_eq_false c3;omega);simp(maxSteps:=2000000) only[Ty.w,simprocAttr,Ty.all,g1,g2,g3,g7,g8,g9,hlA,hlP,hlE,hlK,g91,c1,c2,c3,c1p,c2p,Bool.not_true,Bool.not_false,not_false_eq_true,not_true_eq_false,if_true,if_false];(repeat'(first|refine cK ?_|(refine nK ?_;try exact zI)|(refine a_skip ?_;(try simp only[pst0,simprocAttr]))|(refine a_cond _ (by(try simp(maxSteps:=2000000) only[Ty.w,simprocAttr,g1,g2,g3,g7,g8,g9,hlA,hlP,hlE,hlK,g91,c1,c2,c3,c1p,c2p,Bool.not_true,Bool.not_false,not_false_eq_true,not_true_eq_false,if_true,if_false]);rfl) (fun hb=>?_) (fun hb=>?_)<;>(try simp only[hb0,decide_eq_true_eq,decide_eq_false_iff_not,simprocAttr]at hb)<;>(try(exfalso;omega)))|(with_reducible refine ite_in (fun hb=>?_) (fun hb=>?_)<;>(try simp only[Decidable.not_not]at hb)<;>(try simp only[hb,if_true,if_false,not_false_eq_true,not_true_eq_false, ↓reduceIte])<;>(try simp only[hb0,decide_eq_true_eq,decide_eq_false_iff_not,simprocAttr]at hb)<;>(try(exfalso;omega)))|(refine hK _ _ ?_;clear hK;(try simp only[pst0,simprocAttr]))));simp(maxSteps:=2000000) only[Ty.w,simprocAttr,Ty.all,g1,g2,g3,Fm.cells];rw[hO,hts];simp[(show exprs.length=e by simp at c1;omega),(show kids.length=m by simp at c2;omega),c3e]
       |true=>
        cases q with
        |false=>
         have hp:=hFh (by rw[hO];simp[(show ¬ params.length=0 by have:=of_decide_eq_true c3;omega)]);subst hp;simp(maxSteps:=2000000) only[Ty.w,simprocAttr,Ty.all,g1,g2,g3,g7,g8,g9,hlA,hlP,hlE,hlK,g91,c1,c2,c3,c1p,c2p,Bool.not_true,Bool.not_false,not_false_eq_true,not_true_eq_false,if_true,if_false];(repeat'(first|refine cK ?_|(refine nK ?_;try exact zI)|refine a_seq fun K hK=>?_|((first|refine a_regionS ?_|refine a_ret ?_);simp(maxSteps:=2000000) only[Ty.w,simprocAttr,g1,g2,g3,g7,g8,g9,hlA,hlP,hlE,hlK,g91,c1,c2,c3,c1p,c2p,Bool.not_true,Bool.not_false,not_false_eq_true,not_true_eq_false,if_true,if_false])|(with_reducible refine ite_in (fun hb=>?_) (fun hb=>?_)<;>(try simp only[Decidable.not_not]at hb)<;>(try simp only[hb,if_true,if_false,not_false_eq_true,not_true_eq_false, ↓reduceIte])<;>(try simp only[hb0,decide_eq_true_eq,decide_eq_false_iff_not,simprocAttr]at hb)<;>(try(exfalso;omega)))|(refine hK _ _ ?_;clear hK;(try simp only[pst0,simprocAttr]))));all_goals first|exact G1|exact⟨rfl,G1⟩
        |true=>
         simp(maxSteps:=2000000) only[Ty.w,simprocAttr,Ty.all,g1,g2,g3,g7,g8,g9,hlA,hlP,hlE,hlK,g91,c1,c2,c3,c1p,c2p,Bool.not_true,Bool.not_false,not_false_eq_true,not_true_eq_false,if_true,if_false];(repeat'(first|refine cK ?_|(refine nK ?_;try exact zI)|(refine a_skip ?_;(try simp only[pst0,simprocAttr]))|(refine a_cond _ (by(try simp(maxSteps:=2000000) only[Ty.w,simprocAttr,g1,g2,g3,g7,g8,g9,hlA,hlP,hlE,hlK,g91,c1,c2,c3,c1p,c2p,Bool.not_true,Bool.not_false,not_false_eq_true,not_true_eq_false,if_true,if_false]);rfl) (fun hb=>?_) (fun hb=>?_)<;>(try simp only[hb0,decide_eq_true_eq,decide_eq_false_iff_not,simprocAttr]at hb)<;>(try(exfalso;omega)))|(with_reducible refine ite_in (fun hb=>?_) (fun hb=>?_)<;>(try simp only[Decidable.not_not]at hb)<;>(try simp only[hb,if_true,if_false,not_false_eq_true,not_true_eq_false, ↓reduceIte])<;>(try simp only[hb0,decide_eq_true_eq,decide_eq_false_iff_not,simprocAttr]at hb)<;>(try(exfalso;omega)))|(refine hK _ _ ?_;clear hK;(try simp only[pst0,simprocAttr]))));simp(maxSteps:=2000000) only[Ty.w,simprocAttr,Ty.all,g1,g2,g3,Fm.cells];rw[hO,hts];simp[(show exprs.length=e by simp at c1;omega),(show kids.length=m by simp at c2;omega)]
  ·(try clear zz);clear g1 g2 g3 g7 g8 g9 ht hO hs;rintro S h2 ⟨rfl,g1,g2,g3,hH⟩;simp only[Fm.cells]at g3;refine xH 26 (uu3 g1 g2 g3) ?_;refine⟨?_⟩;refine a_cut (fun S h'=>S 1= .sc (.int .i64 d)∧S 2= .ptr id 0 0∧S 3= .cptr (Fm.mk op name args params exprs kids).cells∧GrowX h id (cntO (n+1)) h'∧params.all pmOk=true) ?_ ?_
   ·have hFp:params.all pmOk=false→F=(false,n+1):=fun hh=>hFf (by rw[partsOk_head,hh];simp);(try clear zz);clear hFf hFt ih;replace zz:=uu4 g1 g2 g3 hlP;refine wt zz ?_;refine a_loop (fun c S h'=>S 1= .sc (.int .i64 d)∧S 2= .ptr id 0 0∧S 3= .cptr (Fm.mk op name args params exprs kids).cells∧S 116= .imm 2 (pmRows params)∧S 117= .sc (.int .i64 params.length)∧ ∃ k:Nat,S 118= .sc (.int .i64 k)∧k≤params.length∧c=params.length-k∧GrowX h id (cntO (n+1)) h'∧params.all pmOk=(params.drop k).all pmOk) params.length ?_ ?_
    ·simp only[Ty.w,simprocAttr,g1,g2,g3,Fm.cells];exact⟨0,rfl,by omega,rfl,G1,rfl⟩
    ·(try clear zz);clear G1 hO1 g1 g2 g3;rintro c S h' ⟨g1,g2,g3,g116,g117,k,g118,hk,rfl,hG,hall⟩;simp only[Fm.cells]at g3;by_cases hlt:k<params.length
     ·have hdk:decide ((k:Int)<(params.length:Int))=true:=(by simp;omega);have w7:IntKind.i64.wrap ((k:Int)+1)=k+1:=(by rw[wrap64 (by omega) (by omega)]);obtain⟨p,hx⟩: ∃ p,params[k]? =some p:=⟨_,List.getElem?_eq_getElem hlt⟩;have hr:=pmRows_get hx;have hpk:=hps p (List.mem_of_getElem? hx);obtain⟨hp1,hp2⟩:=hpk;have hp1':p.name.size≤9223372036854775807:=(by unfold bigN at hp1;omega);have hG2:GrowX h id (cntO (n+1)) ((h'.new (.arr 2 [[.sc (.string ⟨#[]⟩),.sc (.string ⟨#[]⟩)]])).set h'.next (.arr 2 [[sPV p.name,sPV p.type]])):=(hG.new hid).set hid hG.le;rw[drop_get hx]at hall;simp only[List.all_cons,pmOk]at hall;cases v1:varB p.name with
      |false=>
       have hp:=hFp (by rw[hall,v1];try rfl);subst hp;replace zz:=uu8 g1 g2 g3 g116 g117 g118 hdk hr;refine wt zz ?_;replace zz:=uu7 g1 g2 g3 g116 g117 g118 v1;refine uU zz (fvariable_c (s:=p.name) hp1') ?_;replace zz:=uu8 g1 g2 g3 g116 g117 g118 v1 yF;refine wt zz ?_;first|exact hG2|exact⟨rfl,hG2⟩
      |true=>
       cases v2:typedB p.type with
       |false=>
        have hp:=hFp (by rw[hall,v1,v2];try rfl);subst hp;replace zz:=uu8 g1 g2 g3 g116 g117 g118 hdk hr;refine wt zz ?_;replace zz:=uu7 g1 g2 g3 g116 g117 g118 v1;refine uU zz (fvariable_c (s:=p.name) hp1') ?_;replace zz:=uu8 g1 g2 g3 g116 g117 g118 v1 yT;refine wt zz ?_;replace zz:=uu8 g1 g2 g3 g116 g117 g118 v1 v2;refine uU zz (typed_c (s:=p.type) hp2) ?_;replace zz:=uu10 g1 g2 g3 g116 g117 g118 v1 v2 yF yT;refine wt zz ?_;first|exact hG2|exact⟨rfl,hG2⟩
       |true=>
        rw[v1,v2]at hall;replace zz:=uu8 g1 g2 g3 g116 g117 g118 hdk hr;refine wt zz ?_;replace zz:=uu7 g1 g2 g3 g116 g117 g118 v1;refine uU zz (fvariable_c (s:=p.name) hp1') ?_;replace zz:=uu8 g1 g2 g3 g116 g117 g118 v1 yT;refine wt zz ?_;replace zz:=uu8 g1 g2 g3 g116 g117 g118 v1 v2;refine uU zz (typed_c (s:=p.type) hp2) ?_;replace zz:=uu10 g1 g2 g3 g116 g117 g118 v1 v2 w7 yT;refine wt zz ?_;exact⟨params.length-(k+1),by omega,by simp only[Fm.cells],k+1,by simp,by omega,rfl,hG2,by simpa using hall⟩
     ·have hdk:decide ((k:Int)<(params.length:Int))=false:=(by simp;omega);rw[List.drop_eq_nil_of_le (by omega)]at hall;replace zz:=uu7 g1 g2 g3 g116 g117 g118 hdk;refine wt zz ?_;simp(maxSteps:=2000000) only[Ty.w,simprocAttr,Ty.all,g1,g2,g3,Fm.cells];exact⟨hG,hall⟩
   ·(try clear zz);clear g1 g2 g3 G1 hO1;rintro S h' ⟨g1,g2,g3,hG,hall⟩;simp only[Fm.cells]at g3;have hFe:=hFt (by rw[partsOk_head,hH,hall];try rfl);(try clear zz);clear hFt hFf hH hall;refine xH 32 (uu3 g1 g2 g3) ?_;refine⟨?_⟩;refine a_cut (fun S h'=>S 1= .sc (.int .i64 d)∧S 2= .ptr id 0 0∧S 3= .cptr (Fm.mk op name args params exprs kids).cells∧ ∃ n':Nat,n'≤4096∧GrowX h id (cntO n') h'∧F=shapedMs kids (d+1) n') ?_ ?_
    ·(try clear zz);clear ih;replace zz:=uu4 g1 g2 g3 hlE;refine wt zz ?_;refine a_loop (fun c S h'=>S 1= .sc (.int .i64 d)∧S 2= .ptr id 0 0∧S 3= .cptr (Fm.mk op name args params exprs kids).cells∧S 134= .imm 5 (Ex.rows exprs)∧S 135= .sc (.int .i64 exprs.length)∧ ∃ k n':Nat,S 136= .sc (.int .i64 k)∧k≤exprs.length∧c=exprs.length-k∧n'≤4096∧GrowX h id (cntO n') h'∧F=(match formedMs (exprs.drop k) (d+1) n' with
      |(true,c')=>shapedMs kids (d+1) c'
      |(false,c')=>(false,c'))) exprs.length ?_ ?_
     ·simp only[Ty.w,simprocAttr,g1,g2,g3,Fm.cells];exact⟨0,n+1,rfl,by omega,rfl,by omega,hG,hFe⟩
     ·(try clear zz);clear g1 g2 g3 hG hFe;rintro c S h' ⟨g1,g2,g3,g134,g135,k,n',g136,hk,rfl,hn',hG,hFe⟩;simp only[Fm.cells]at g3;by_cases hlt:k<exprs.length
      ·have hdk:decide ((k:Int)<(exprs.length:Int))=true:=(by simp;omega);have w7:IntKind.i64.wrap ((k:Int)+1)=k+1:=(by rw[wrap64 (by omega) (by omega)]);obtain⟨x,hx⟩: ∃ x,exprs[k]? =some x:=⟨_,List.getElem?_eq_getElem hlt⟩;have hmem:=List.mem_of_getElem? hx;have hr:=Ex.rows_get hx;have hne:id≠h'.next:=by have:=hG.le;omega
       have hcx:=formed_c x (hes x hmem) (d+1) n' (by omega) hn' id ((h'.new (.arr 5 [[.sc (.string ⟨#[]⟩),.sc (.string ⟨#[]⟩),.sc (.int .i64 0),.sc (.slice none 0 0),.sc (.slice none 0 0)]])).set h'.next (.arr 5 [x.cells])) (by simp only[Heap.set,Heap.new];rw[if_neg hne,if_neg hne];exact hG.at_);have hG2:GrowX h id (cntO n') ((h'.new (.arr 5 [[.sc (.string ⟨#[]⟩),.sc (.string ⟨#[]⟩),.sc (.int .i64 0),.sc (.slice none 0 0),.sc (.slice none 0 0)]])).set h'.next (.arr 5 [x.cells])):=(hG.new hid).set hid hG.le;have hle:=formedM_le x (d+1) n';rw[drop_get hx]at hFe;simp only[formedMs]at hFe;generalize formedM x (d+1) n'=V at hcx hle hFe;obtain⟨b,n''⟩:=V;simp only[natc]at hcx hle hFe;obtain⟨xo,xn,xv,xa,xk⟩:=x;simp only[Ex.cells]at hr hcx hG2;replace zz:=uu9 g1 g2 g3 g134 g135 g136 hdk hr wd;refine wt zz ?_;refine owp_useH (hcx) (by(try simp only[Ty.w,simprocAttr,g1,g2,g3,g134,g135,g136,hr,wd]);try rfl) ?_;simp(maxSteps:=2000000) only[Ty.w,simprocAttr,g1,g2,g3,g134,g135,g136,hr,wd];cases b with
       |false=>
        simp only at hFe;subst hFe;replace zz:=uu7 g1 g2 g3 g134 g135 g136 yF;refine wt zz ?_;first|exact hG2.put|exact⟨rfl,hG2.put⟩
       |true=>
        simp only at hFe;replace zz:=uu8 g1 g2 g3 g134 g135 g136 w7 yT;refine wt zz ?_;exact⟨exprs.length-(k+1),by omega,by simp only[Fm.cells],k+1,n'',by simp,by omega,rfl,hle rfl,hG2.put,hFe⟩
      ·have hdk:decide ((k:Int)<(exprs.length:Int))=false:=(by simp;omega);rw[List.drop_eq_nil_of_le (by omega)]at hFe;simp only[formedMs]at hFe;replace zz:=uu7 g1 g2 g3 g134 g135 g136 hdk;refine wt zz ?_;simp(maxSteps:=2000000) only[Ty.w,simprocAttr,Ty.all,g1,g2,g3,Fm.cells];exact⟨n',hn',hG,hFe⟩
    ·(try clear zz);clear g1 g2 g3 hG hFe;rintro S h' ⟨g1,g2,g3,n0,hn0,hG,hFe⟩;simp only[Fm.cells]at g3;replace zz:=uu4 g1 g2 g3 hlK;refine wt zz ?_;refine a_loop (fun c S h'=>S 1= .sc (.int .i64 d)∧S 2= .ptr id 0 0∧S 148= .imm 6 (Fm.rows kids)∧S 149= .sc (.int .i64 kids.length)∧ ∃ k n':Nat,S 150= .sc (.int .i64 k)∧k≤kids.length∧c=kids.length-k∧n'≤4096∧GrowX h id (cntO n') h'∧F=shapedMs (kids.drop k) (d+1) n') kids.length ?_ ?_
     ·simp only[Ty.w,simprocAttr,g1,g2];exact⟨0,n0,rfl,by omega,rfl,hn0,hG,hFe⟩
     ·(try clear zz);clear g1 g2 g3 hG hFe;rintro c S h' ⟨g1,g2,g148,g149,k,n',g150,hk,rfl,hn',hG,hFe⟩;by_cases hlt:k<kids.length
      ·have hdk:decide ((k:Int)<(kids.length:Int))=true:=(by simp;omega);have w7:IntKind.i64.wrap ((k:Int)+1)=k+1:=(by rw[wrap64 (by omega) (by omega)]);obtain⟨x,hx⟩: ∃ x,kids[k]? =some x:=⟨_,List.getElem?_eq_getElem hlt⟩;have hmem:=List.mem_of_getElem? hx;have hr:=Fm.rows_get hx;have hne:id≠h'.next:=by have:=hG.le;omega
       have hcx:=ih x hmem (hks x hmem) (d+1) n' (by omega) hn' id ((h'.new (.arr 6 [[.sc (.string ⟨#[]⟩),.sc (.string ⟨#[]⟩),.sc (.slice none 0 0),.sc (.slice none 0 0),.sc (.slice none 0 0),.sc (.slice none 0 0)]])).set h'.next (.arr 6 [x.cells])) (by simp only[Heap.set,Heap.new];rw[if_neg hne,if_neg hne];exact hG.at_);have hG2:GrowX h id (cntO n') ((h'.new (.arr 6 [[.sc (.string ⟨#[]⟩),.sc (.string ⟨#[]⟩),.sc (.slice none 0 0),.sc (.slice none 0 0),.sc (.slice none 0 0),.sc (.slice none 0 0)]])).set h'.next (.arr 6 [x.cells])):=(hG.new hid).set hid hG.le;have hle:=shapedM_le x (d+1) n';rw[drop_get hx]at hFe;simp only[shapedMs]at hFe;generalize shapedM x (d+1) n'=V at hcx hle hFe;obtain⟨b,n''⟩:=V;simp only[natc]at hcx hle hFe;obtain⟨xo,xn,xa,xp,xe,xk⟩:=x;simp only[Fm.cells]at hr hcx hG2;replace zz:=uu8 g1 g2 g148 g149 g150 hdk hr wd;refine wt zz ?_;refine owp_useH (hcx) (by(try simp only[Ty.w,simprocAttr,g1,g2,g148,g149,g150,hr,wd]);try rfl) ?_;simp(maxSteps:=2000000) only[Ty.w,simprocAttr,g1,g2,g148,g149,g150,hr,wd];cases b with
       |false=>
        simp only at hFe;subst hFe;replace zz:=uu6 g1 g2 g148 g149 g150 yF;refine wt zz ?_;first|exact hG2.put|exact⟨rfl,hG2.put⟩
       |true=>
        simp only at hFe;replace zz:=uu7 g1 g2 g148 g149 g150 w7 yT;refine wt zz ?_;exact⟨kids.length-(k+1),by omega,k+1,n'',by simp,by omega,rfl,hle rfl,hG2.put,hFe⟩
      ·have hdk:decide ((k:Int)<(kids.length:Int))=false:=(by simp;omega);rw[List.drop_eq_nil_of_le (by omega)]at hFe;simp only[shapedMs]at hFe;subst hFe;replace zz:=uu6 g1 g2 g148 g149 g150 hdk;refine wt zz ?_;first|exact hG|exact⟨rfl,hG⟩
end Go.Proofs.YtblgchkahpgdjaaGreat
