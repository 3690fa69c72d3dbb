/- What the claim rests on, part 4: the abstract machine, contracts of the functions, plain data. -/
import Derived.Test.YtjeolbgpllbemaaProg
import Derived.OpenShut
import Derived.ChangeShapes
import Derived.SizedLaws
import Derived.Test.YtjeolbgpllbemaaRows
import Derived.Test.YtjeolbgpllbemaaZb3
set_option linter.unusedVariables false
set_option linter.unusedSimpArgs false
set_option linter.unusedSectionVars false
namespace Go.Proofs.Ytjeolbgpllbemaa
open Go.AM
namespace Ty
theorem mixed:Try.prog.follows .mixedOrders=true:=by kernel_rfl
theorem szT_31:szT Try.prog 31=some 11:=by kernel_rfl
theorem aggB_31:aggB Try.prog 31=true:=by kernel_rfl
theorem hb_6:hasBody Try.prog 6=true:=by kernel_rfl
theorem zeroT_37:zeroT Try.prog 37=some [.int .i64 0,.int .i64 0,.int .i64 0,.int .i64 0,.string ⟨#[]⟩,.slice none 0 0]:=by kernel_rfl
theorem szT_37:szT Try.prog 37=some 6:=by kernel_rfl
theorem aggB_37:aggB Try.prog 37=true:=by kernel_rfl
theorem kT_39:kT Try.prog 39=7:=by kernel_rfl
theorem fldT_37_5:fldT Try.prog 37 5=some (5,1,false):=by kernel_rfl
theorem szT_35:szT Try.prog 35=some 1:=by kernel_rfl
theorem aggB_35:aggB Try.prog 35=false:=by kernel_rfl
theorem kT_35:kT Try.prog 35=5:=by kernel_rfl
theorem kT_3:kT Try.prog 3=2:=by kernel_rfl
theorem kT_32:kT Try.prog 32=9:=by kernel_rfl
theorem arT_32:arT Try.prog 32=some (2,1):=by kernel_rfl
theorem szT_5:szT Try.prog 5=some 1:=by kernel_rfl
theorem aggB_5:aggB Try.prog 5=false:=by kernel_rfl
theorem intT_5:intT Try.prog 5=some .u8:=by kernel_rfl
theorem intT_3:intT Try.prog 3=some .i64:=by kernel_rfl
theorem kT_5:kT Try.prog 5=2:=by kernel_rfl
theorem elT_35:elT Try.prog 35=some (6,72):=by kernel_rfl
theorem elZ_35:elZ Try.prog 35=some [.int .i64 0,.int .i64 0,.int .i64 0,.int .i64 0,.string ⟨#[]⟩,.slice none 0 0]:=by kernel_rfl
theorem kT_37:kT Try.prog 37=8:=by kernel_rfl
theorem fieldsT_37:fieldsT Try.prog 37=some [(0,1),(1,1),(2,1),(3,1),(4,1),(5,1)]:=by kernel_rfl
theorem zeroT_31:zeroT Try.prog 31=some [.string ⟨#[]⟩,.string ⟨#[]⟩,.slice none 0 0,.slice none 0 0,.slice none 0 0,.string ⟨#[]⟩,.string ⟨#[]⟩,.slice none 0 0,.slice none 0 0,.slice none 0 0,.slice none 0 0]:=by kernel_rfl
theorem fldT_31_0:fldT Try.prog 31 0=some (0,1,false):=by kernel_rfl
theorem szT_9:szT Try.prog 9=some 1:=by kernel_rfl
theorem aggB_9:aggB Try.prog 9=false:=by kernel_rfl
theorem kT_9:kT Try.prog 9=3:=by kernel_rfl
theorem kT_23:kT Try.prog 23=5:=by kernel_rfl
theorem fldT_31_3:fldT Try.prog 31 3=some (3,1,false):=by kernel_rfl
theorem szT_23:szT Try.prog 23=some 1:=by kernel_rfl
theorem aggB_23:aggB Try.prog 23=false:=by kernel_rfl
theorem elT_23:elT Try.prog 23=some (2,40):=by kernel_rfl
theorem szT_48:szT Try.prog 48=some 2:=by kernel_rfl
theorem aggB_48:aggB Try.prog 48=true:=by kernel_rfl
theorem fldT_55_2:fldT Try.prog 55 2=some (2,1,false):=by kernel_rfl
theorem szT_22:szT Try.prog 22=some 1:=by kernel_rfl
theorem aggB_22:aggB Try.prog 22=false:=by kernel_rfl
theorem kT_22:kT Try.prog 22=5:=by kernel_rfl
theorem szT_55:szT Try.prog 55=some 7:=by kernel_rfl
theorem aggB_55:aggB Try.prog 55=true:=by kernel_rfl
theorem hb_13:hasBody Try.prog 13=true:=by kernel_rfl
theorem hb_14:hasBody Try.prog 14=true:=by kernel_rfl
theorem hb_15:hasBody Try.prog 15=true:=by kernel_rfl
theorem elT_22:elT Try.prog 22=some (2,32):=by kernel_rfl
theorem fldT_59_0:fldT Try.prog 59 0=some (0,1,false):=by kernel_rfl
theorem fldT_31_2:fldT Try.prog 31 2=some (2,1,false):=by kernel_rfl
theorem fldT_31_4:fldT Try.prog 31 4=some (4,1,false):=by kernel_rfl
theorem szT_24:szT Try.prog 24=some 1:=by kernel_rfl
theorem aggB_24:aggB Try.prog 24=false:=by kernel_rfl
theorem kT_24:kT Try.prog 24=5:=by kernel_rfl
theorem fldT_48_1:fldT Try.prog 48 1=some (1,1,false):=by kernel_rfl
theorem szT_25:szT Try.prog 25=some 1:=by kernel_rfl
theorem aggB_25:aggB Try.prog 25=false:=by kernel_rfl
theorem kT_25:kT Try.prog 25=5:=by kernel_rfl
theorem elT_24:elT Try.prog 24=some (3,48):=by kernel_rfl
theorem fldT_62_0:fldT Try.prog 62 0=some (0,2,true):=by kernel_rfl
theorem fldT_31_5:fldT Try.prog 31 5=some (5,6,true):=by kernel_rfl
theorem szT_29:szT Try.prog 29=some 6:=by kernel_rfl
theorem aggB_29:aggB Try.prog 29=true:=by kernel_rfl
theorem hb_16:hasBody Try.prog 16=true:=by kernel_rfl
theorem fldT_31_1:fldT Try.prog 31 1=some (1,1,false):=by kernel_rfl
theorem fldT_48_0:fldT Try.prog 48 0=some (0,1,false):=by kernel_rfl
theorem fldT_29_0:fldT Try.prog 29 0=some (0,1,false):=by kernel_rfl
theorem kT_67:kT Try.prog 67=2:=by kernel_rfl
theorem zeroT_48:zeroT Try.prog 48=some [.string ⟨#[]⟩,.slice none 0 0]:=by kernel_rfl
theorem szT_62:szT Try.prog 62=some 3:=by kernel_rfl
theorem aggB_62:aggB Try.prog 62=true:=by kernel_rfl
theorem zeroT_62:zeroT Try.prog 62=some [.string ⟨#[]⟩,.slice none 0 0,.int .i64 0]:=by kernel_rfl
theorem fldT_62_1:fldT Try.prog 62 1=some (2,1,false):=by kernel_rfl
theorem szT_3:szT Try.prog 3=some 1:=by kernel_rfl
theorem aggB_3:aggB Try.prog 3=false:=by kernel_rfl
theorem fldT_29_5:fldT Try.prog 29 5=some (5,1,false):=by kernel_rfl
theorem szT_27:szT Try.prog 27=some 1:=by kernel_rfl
theorem aggB_27:aggB Try.prog 27=false:=by kernel_rfl
theorem kT_27:kT Try.prog 27=5:=by kernel_rfl
theorem kT_31:kT Try.prog 31=8:=by kernel_rfl
theorem fieldsT_31:fieldsT Try.prog 31=some [(0,1),(1,1),(2,1),(3,1),(4,1),(5,6)]:=by kernel_rfl
theorem kT_48:kT Try.prog 48=8:=by kernel_rfl
theorem fieldsT_48:fieldsT Try.prog 48=some [(0,1),(1,1)]:=by kernel_rfl
theorem elZ_23:elZ Try.prog 23=some [.string ⟨#[]⟩,.slice none 0 0]:=by kernel_rfl
theorem elT_25:elT Try.prog 25=some (1,16):=by kernel_rfl
theorem hb_32:hasBody Try.prog 32=true:=by kernel_rfl
theorem elZ_22:elZ Try.prog 22=some [.string ⟨#[]⟩,.string ⟨#[]⟩]:=by kernel_rfl
theorem szT_59:szT Try.prog 59=some 2:=by kernel_rfl
theorem aggB_59:aggB Try.prog 59=true:=by kernel_rfl
theorem kT_59:kT Try.prog 59=8:=by kernel_rfl
theorem strsT_59:strsT Try.prog 59=some 2:=by kernel_rfl
theorem fldT_29_4:fldT Try.prog 29 4=some (4,1,false):=by kernel_rfl
theorem szT_26:szT Try.prog 26=some 1:=by kernel_rfl
theorem aggB_26:aggB Try.prog 26=false:=by kernel_rfl
theorem kT_26:kT Try.prog 26=5:=by kernel_rfl
theorem elT_26:elT Try.prog 26=some (5,88):=by kernel_rfl
theorem szT_78:szT Try.prog 78=some 5:=by kernel_rfl
theorem aggB_78:aggB Try.prog 78=true:=by kernel_rfl
theorem hb_33:hasBody Try.prog 33=true:=by kernel_rfl
theorem elT_27:elT Try.prog 27=some (6,128):=by kernel_rfl
theorem zeroT_59:zeroT Try.prog 59=some [.string ⟨#[]⟩,.string ⟨#[]⟩]:=by kernel_rfl
theorem fldT_59_1:fldT Try.prog 59 1=some (1,1,false):=by kernel_rfl
theorem zeroT_3:zeroT Try.prog 3=some [.int .i64 0]:=by kernel_rfl
theorem kT_29:kT Try.prog 29=8:=by kernel_rfl
theorem zeroT_29:zeroT Try.prog 29=some [.string ⟨#[]⟩,.string ⟨#[]⟩,.slice none 0 0,.slice none 0 0,.slice none 0 0,.slice none 0 0]:=by kernel_rfl
theorem fieldsT_29:fieldsT Try.prog 29=some [(0,1),(1,1),(2,1),(3,1),(4,1),(5,1)]:=by kernel_rfl
theorem elZ_25:elZ Try.prog 25=some [.string ⟨#[]⟩]:=by kernel_rfl
theorem intT_95:intT Try.prog 95=some .u64:=by kernel_rfl
theorem kT_95:kT Try.prog 95=2:=by kernel_rfl
theorem elT_129:elT Try.prog 129=some (1,8):=by kernel_rfl
theorem elZ_129:elZ Try.prog 129=some [.int .i64 0]:=by kernel_rfl
theorem fldT_78_4:fldT Try.prog 78 4=some (4,1,false):=by kernel_rfl
theorem kT_103:kT Try.prog 103=8:=by kernel_rfl
theorem zeroT_103:zeroT Try.prog 103=some [.int .i64 0]:=by kernel_rfl
theorem fieldsT_103:fieldsT Try.prog 103=some [(0,1)]:=by kernel_rfl
theorem fldT_29_1:fldT Try.prog 29 1=some (1,1,false):=by kernel_rfl
theorem fldT_29_2:fldT Try.prog 29 2=some (2,1,false):=by kernel_rfl
theorem fldT_29_3:fldT Try.prog 29 3=some (3,1,false):=by kernel_rfl
theorem fldT_37_0:fldT Try.prog 37 0=some (0,1,false):=by kernel_rfl
theorem fldT_37_4:fldT Try.prog 37 4=some (4,1,false):=by kernel_rfl
theorem fldT_37_1:fldT Try.prog 37 1=some (1,1,false):=by kernel_rfl
theorem kT_118:kT Try.prog 118=2:=by kernel_rfl
theorem intT_126:intT Try.prog 126=some .u32:=by kernel_rfl
theorem kT_126:kT Try.prog 126=2:=by kernel_rfl
theorem kT_129:kT Try.prog 129=5:=by kernel_rfl
theorem zeroT_78:zeroT Try.prog 78=some [.string ⟨#[]⟩,.string ⟨#[]⟩,.int .i64 0,.slice none 0 0,.slice none 0 0]:=by kernel_rfl
theorem fldT_78_0:fldT Try.prog 78 0=some (0,1,false):=by kernel_rfl
theorem fldT_78_2:fldT Try.prog 78 2=some (2,1,false):=by kernel_rfl
theorem fldT_78_1:fldT Try.prog 78 1=some (1,1,false):=by kernel_rfl
theorem fldT_78_3:fldT Try.prog 78 3=some (3,1,false):=by kernel_rfl
theorem intT_9:intT Try.prog 9=none:=by kernel_rfl
theorem intT_133:intT Try.prog 133=none:=by kernel_rfl
theorem kT_133:kT Try.prog 133=5:=by kernel_rfl
theorem u8T_133:u8T Try.prog 133=true:=by kernel_rfl
theorem elT_133:elT Try.prog 133=some (1,1):=by kernel_rfl
theorem fieldsT_59:fieldsT Try.prog 59=some [(0,1),(1,1)]:=by kernel_rfl
theorem kT_62:kT Try.prog 62=8:=by kernel_rfl
theorem fieldsT_62:fieldsT Try.prog 62=some [(0,2),(2,1)]:=by kernel_rfl
theorem elZ_24:elZ Try.prog 24=some [.string ⟨#[]⟩,.slice none 0 0,.int .i64 0]:=by kernel_rfl
theorem intT_139:intT Try.prog 139=some .u64:=by kernel_rfl
theorem kT_139:kT Try.prog 139=2:=by kernel_rfl
theorem zeroT_139:zeroT Try.prog 139=some [.int .u64 0]:=by kernel_rfl
theorem szT_139:szT Try.prog 139=some 1:=by kernel_rfl
theorem aggB_139:aggB Try.prog 139=false:=by kernel_rfl
theorem kT_128:kT Try.prog 128=2:=by kernel_rfl
theorem intT_128:intT Try.prog 128=some .u64:=by kernel_rfl
theorem fldT_103_0:fldT Try.prog 103 0=some (0,1,false):=by kernel_rfl
theorem elZ_27:elZ Try.prog 27=some [.string ⟨#[]⟩,.string ⟨#[]⟩,.slice none 0 0,.slice none 0 0,.slice none 0 0,.slice none 0 0]:=by kernel_rfl
theorem elZ_26:elZ Try.prog 26=some [.string ⟨#[]⟩,.string ⟨#[]⟩,.int .i64 0,.slice none 0 0,.slice none 0 0]:=by kernel_rfl
theorem kT_78:kT Try.prog 78=8:=by kernel_rfl
theorem fieldsT_78:fieldsT Try.prog 78=some [(0,1),(1,1),(2,1),(3,1),(4,1)]:=by kernel_rfl
theorem hb_5:hasBody Try.prog 5=true:=by kernel_rfl
set_option maxRecDepth 20000
theorem all:type_of% (And.intro szT_31 (And.intro aggB_31 (And.intro zeroT_37 (And.intro szT_37 (And.intro aggB_37 (And.intro kT_39 (And.intro fldT_37_5 (And.intro szT_35 (And.intro aggB_35 (And.intro kT_35 (And.intro kT_3 (And.intro kT_32 (And.intro arT_32 (And.intro szT_5 (And.intro aggB_5 (And.intro intT_5 (And.intro intT_3 (And.intro kT_5 (And.intro elT_35 (And.intro elZ_35 (And.intro kT_37 (And.intro fieldsT_37 (And.intro zeroT_31 (And.intro fldT_31_0 (And.intro szT_9 (And.intro aggB_9 (And.intro kT_9 (And.intro kT_23 (And.intro fldT_31_3 (And.intro szT_23 (And.intro aggB_23 (And.intro elT_23 (And.intro szT_48 (And.intro aggB_48 (And.intro fldT_55_2 (And.intro szT_22 (And.intro aggB_22 (And.intro kT_22 (And.intro szT_55 (And.intro aggB_55 (And.intro elT_22 (And.intro fldT_59_0 (And.intro fldT_31_2 (And.intro fldT_31_4 (And.intro szT_24 (And.intro aggB_24 (And.intro kT_24 (And.intro fldT_48_1 (And.intro szT_25 (And.intro aggB_25 (And.intro kT_25 (And.intro elT_24 (And.intro fldT_62_0 (And.intro fldT_31_5 (And.intro szT_29 (And.intro aggB_29 (And.intro fldT_31_1 (And.intro fldT_48_0 (And.intro fldT_29_0 (And.intro kT_67 (And.intro zeroT_48 (And.intro szT_62 (And.intro aggB_62 (And.intro zeroT_62 (And.intro fldT_62_1 (And.intro szT_3 (And.intro aggB_3 (And.intro fldT_29_5 (And.intro szT_27 (And.intro aggB_27 (And.intro kT_27 (And.intro kT_31 (And.intro fieldsT_31 (And.intro kT_48 (And.intro fieldsT_48 (And.intro elZ_23 (And.intro elT_25 (And.intro elZ_22 (And.intro szT_59 (And.intro aggB_59 (And.intro kT_59 (And.intro strsT_59 (And.intro fldT_29_4 (And.intro szT_26 (And.intro aggB_26 (And.intro kT_26 (And.intro elT_26 (And.intro szT_78 (And.intro aggB_78 (And.intro elT_27 (And.intro zeroT_59 (And.intro fldT_59_1 (And.intro zeroT_3 (And.intro kT_29 (And.intro zeroT_29 (And.intro fieldsT_29 (And.intro elZ_25 (And.intro intT_95 (And.intro kT_95 (And.intro elT_129 (And.intro elZ_129 (And.intro fldT_78_4 (And.intro kT_103 (And.intro zeroT_103 (And.intro fieldsT_103 (And.intro fldT_29_1 (And.intro fldT_29_2 (And.intro fldT_29_3 (And.intro fldT_37_0 (And.intro fldT_37_4 (And.intro fldT_37_1 (And.intro kT_118 (And.intro intT_126 (And.intro kT_126 (And.intro kT_129 (And.intro zeroT_78 (And.intro fldT_78_0 (And.intro fldT_78_2 (And.intro fldT_78_1 (And.intro fldT_78_3 (And.intro intT_9 (And.intro intT_133 (And.intro kT_133 (And.intro u8T_133 (And.intro elT_133 (And.intro fieldsT_59 (And.intro kT_62 (And.intro fieldsT_62 (And.intro elZ_24 (And.intro intT_139 (And.intro kT_139 (And.intro zeroT_139 (And.intro szT_139 (And.intro aggB_139 (And.intro kT_128 (And.intro intT_128 (And.intro fldT_103_0 (And.intro elZ_27 (And.intro elZ_26 (And.intro kT_78 (fieldsT_78))))))))))))))))))))))))))))))))))))))))))))))))))))))))))))))))))))))))))))))))))))))))))))))))))))))))))))))))))))))))))))))))))))))))))))):=And.intro szT_31 (And.intro aggB_31 (And.intro zeroT_37 (And.intro szT_37 (And.intro aggB_37 (And.intro kT_39 (And.intro fldT_37_5 (And.intro szT_35 (And.intro aggB_35 (And.intro kT_35 (And.intro kT_3 (And.intro kT_32 (And.intro arT_32 (And.intro szT_5 (And.intro aggB_5 (And.intro intT_5 (And.intro intT_3 (And.intro kT_5 (And.intro elT_35 (And.intro elZ_35 (And.intro kT_37 (And.intro fieldsT_37 (And.intro zeroT_31 (And.intro fldT_31_0 (And.intro szT_9 (And.intro aggB_9 (And.intro kT_9 (And.intro kT_23 (And.intro fldT_31_3 (And.intro szT_23 (And.intro aggB_23 (And.intro elT_23 (And.intro szT_48 (And.intro aggB_48 (And.intro fldT_55_2 (And.intro szT_22 (And.intro aggB_22 (And.intro kT_22 (And.intro szT_55 (And.intro aggB_55 (And.intro elT_22 (And.intro fldT_59_0 (And.intro fldT_31_2 (And.intro fldT_31_4 (And.intro szT_24 (And.intro aggB_24 (And.intro kT_24 (And.intro fldT_48_1 (And.intro szT_25 (And.intro aggB_25 (And.intro kT_25 (And.intro elT_24 (And.intro fldT_62_0 (And.intro fldT_31_5 (And.intro szT_29 (And.intro aggB_29 (And.intro fldT_31_1 (And.intro fldT_48_0 (And.intro fldT_29_0 (And.intro kT_67 (And.intro zeroT_48 (And.intro szT_62 (And.intro aggB_62 (And.intro zeroT_62 (And.intro fldT_62_1 (And.intro szT_3 (And.intro aggB_3 (And.intro fldT_29_5 (And.intro szT_27 (And.intro aggB_27 (And.intro kT_27 (And.intro kT_31 (And.intro fieldsT_31 (And.intro kT_48 (And.intro fieldsT_48 (And.intro elZ_23 (And.intro elT_25 (And.intro elZ_22 (And.intro szT_59 (And.intro aggB_59 (And.intro kT_59 (And.intro strsT_59 (And.intro fldT_29_4 (And.intro szT_26 (And.intro aggB_26 (And.intro kT_26 (And.intro elT_26 (And.intro szT_78 (And.intro aggB_78 (And.intro elT_27 (And.intro zeroT_59 (And.intro fldT_59_1 (And.intro zeroT_3 (And.intro kT_29 (And.intro zeroT_29 (And.intro fieldsT_29 (And.intro elZ_25 (And.intro intT_95 (And.intro kT_95 (And.intro elT_129 (And.intro elZ_129 (And.intro fldT_78_4 (And.intro kT_103 (And.intro zeroT_103 (And.intro fieldsT_103 (And.intro fldT_29_1 (And.intro fldT_29_2 (And.intro fldT_29_3 (And.intro fldT_37_0 (And.intro fldT_37_4 (And.intro fldT_37_1 (And.intro kT_118 (And.intro intT_126 (And.intro kT_126 (And.intro kT_129 (And.intro zeroT_78 (And.intro fldT_78_0 (And.intro fldT_78_2 (And.intro fldT_78_1 (And.intro fldT_78_3 (And.intro intT_9 (And.intro intT_133 (And.intro kT_133 (And.intro u8T_133 (And.intro elT_133 (And.intro fieldsT_59 (And.intro kT_62 (And.intro fieldsT_62 (And.intro elZ_24 (And.intro intT_139 (And.intro kT_139 (And.intro zeroT_139 (And.intro szT_139 (And.intro aggB_139 (And.intro kT_128 (And.intro intT_128 (And.intro fldT_103_0 (And.intro elZ_27 (And.intro elZ_26 (And.intro kT_78 (fieldsT_78))))))))))))))))))))))))))))))))))))))))))))))))))))))))))))))))))))))))))))))))))))))))))))))))))))))))))))))))))))))))))))))))))))))))))))
theorem w:type_of% (And.intro @w0 @all):=And.intro @w0 @all
end Ty
end Go.Proofs.Ytjeolbgpllbemaa
namespace Go.AM
structure Pm where
 name:ByteArray
 type:ByteArray
inductive Ex where
 |mk(op name:ByteArray)(n:Int)(args:List ByteArray)(kids:List Ex)
inductive Fm where
 |mk(op name:ByteArray)(args:List ByteArray)(params:List Pm)(exprs:List Ex)(kids:List Fm)
abbrev sPV(s:ByteArray):PV:= .sc (.string s)
def strRows(l:List ByteArray):List (List PV):=l.map fun s=>[sPV s]
def pmRow(p:Pm):List PV:=[sPV p.name,sPV p.type]
def pmRows(l:List Pm):List (List PV):=l.map pmRow
theorem pmRows_len(l:List Pm):(pmRows l).length=l.length:=by simp[pmRows]
theorem pmRows_get{l:List Pm}{i:Nat}{p:Pm}(h:l[i]? =some p):(pmRows l)[i]? =some [sPV p.name,sPV p.type]:=by simp[pmRows,h,pmRow]
mutual
def Ex.cells:Ex→List PV
 | .mk op name n args kids=>[sPV op,sPV name,.sc (.int .i64 n),.imm 1 (strRows args),.imm 5 (Ex.rows kids)]
def Ex.rows:List Ex→List (List PV)
 |[]=>[]
 |k::ks=>k.cells::Ex.rows ks
end
mutual
def Fm.cells:Fm→List PV
 | .mk op name args params exprs kids=>[sPV op,sPV name,.imm 1 (strRows args),.imm 2 (pmRows params),.imm 5 (Ex.rows exprs),.imm 6 (Fm.rows kids)]
def Fm.rows:List Fm→List (List PV)
 |[]=>[]
 |k::ks=>k.cells::Fm.rows ks
end
theorem Ex.rows_map: ∀ l:List Ex,Ex.rows l=l.map Ex.cells
 |[]=>rfl
 |k::ks=>by simp[Ex.rows,Ex.rows_map ks]
theorem Fm.rows_map: ∀ l:List Fm,Fm.rows l=l.map Fm.cells
 |[]=>rfl
 |k::ks=>by simp[Fm.rows,Fm.rows_map ks]
mutual
def Ex.size:Ex→Int
 | .mk _ _ _ _ kids=>Ex.sizes 1 kids
def Ex.sizes(n:Int):List Ex→Int
 |[]=>n
 |k::ks=>Ex.sizes (IntKind.i64.wrap (n+k.size)) ks
end
mutual
def Fm.size:Fm→Int
 | .mk _ _ _ _ exprs kids=>Fm.sizes (Ex.sizes 1 exprs) kids
def Fm.sizes(n:Int):List Fm→Int
 |[]=>n
 |k::ks=>Fm.sizes (IntKind.i64.wrap (n+k.size)) ks
end
def bEq(a b:ByteArray):Bool:=a.data.toList==b.data.toList
def bsEq:List ByteArray→List ByteArray→Bool
 |[],[]=>true
 |a::l,b::m=>bEq a b&&bsEq l m
 |_,_=>false
def pmEq(a b:Pm):Bool:=bEq a.name b.name&&bEq a.type b.type
def pmsEq:List Pm→List Pm→Bool
 |[],[]=>true
 |a::l,b::m=>pmEq a b&&pmsEq l m
 |_,_=>false
theorem Ex.rows_len(l:List Ex):(Ex.rows l).length=l.length:=by simp[Ex.rows_map]
theorem Fm.rows_len(l:List Fm):(Fm.rows l).length=l.length:=by simp[Fm.rows_map]
theorem Ex.rows_get{l:List Ex}{i:Nat}{k:Ex}(h:l[i]? =some k):(Ex.rows l)[i]? =some k.cells:=by simp[Ex.rows_map,h]
theorem Fm.rows_get{l:List Fm}{i:Nat}{k:Fm}(h:l[i]? =some k):(Fm.rows l)[i]? =some k.cells:=by simp[Fm.rows_map,h]
theorem Ex.ind{C:Ex→Prop}(hC: ∀ op name n args kids,(∀ k∈kids,C k)→C (.mk op name n args kids)): ∀ e,C e
 | .mk op name n args kids=>hC op name n args kids fun k hk=>Ex.ind hC k
termination_by e=>SizeOf.sizeOf e
decreasing_by
 have:=List.sizeOf_lt_of_mem hk
 simp only[Ex.mk.sizeOf_spec]
 omega
theorem Fm.ind{C:Fm→Prop}(hC: ∀ op name args params exprs kids,(∀ k∈kids,C k)→C (.mk op name args params exprs kids)): ∀ f,C f
 | .mk op name args params exprs kids=>hC op name args params exprs kids fun k hk=>Fm.ind hC k
termination_by f=>SizeOf.sizeOf f
decreasing_by
 have:=List.sizeOf_lt_of_mem hk
 simp only[Fm.mk.sizeOf_spec]
 omega
theorem Ex.sizes_append: ∀ (l m:List Ex)(n:Int),Ex.sizes n (l++m)=Ex.sizes (Ex.sizes n l) m
 |[],m,n=>by simp[Ex.sizes]
 |k::l,m,n=>by simp only[List.cons_append,Ex.sizes];exact Ex.sizes_append l m _
theorem Fm.sizes_append: ∀ (l m:List Fm)(n:Int),Fm.sizes n (l++m)=Fm.sizes (Fm.sizes n l) m
 |[],m,n=>by simp[Fm.sizes]
 |k::l,m,n=>by simp only[List.cons_append,Fm.sizes];exact Fm.sizes_append l m _
theorem Ex.sizes_take{l:List Ex}{i:Nat}{k:Ex}(n:Int)(h:l[i]? =some k):Ex.sizes n (l.take (i+1))=IntKind.i64.wrap (Ex.sizes n (l.take i)+k.size):=by
 rw[List.take_add_one,h,Ex.sizes_append];try rfl
theorem Fm.sizes_take{l:List Fm}{i:Nat}{k:Fm}(n:Int)(h:l[i]? =some k):Fm.sizes n (l.take (i+1))=IntKind.i64.wrap (Fm.sizes n (l.take i)+k.size):=by
 rw[List.take_add_one,h,Fm.sizes_append];try rfl
def bigN:Nat:=1152921504606846976
mutual
def Ex.ok:Ex→Prop
 | .mk op name n args kids=>op.size≤bigN∧name.size≤bigN∧(-9223372036854775808≤n∧n≤9223372036854775807)∧(args.length≤bigN∧ ∀ a∈args,a.size≤bigN)∧kids.length≤bigN∧Ex.oks kids
def Ex.oks:List Ex→Prop
 |[]=>True
 |k::ks=>k.ok∧Ex.oks ks
end
def Pm.ok(p:Pm):Prop:=p.name.size≤bigN∧p.type.size≤bigN
mutual
def Fm.ok:Fm→Prop
 | .mk op name args params exprs kids=>op.size≤bigN∧name.size≤bigN∧(args.length≤bigN∧ ∀ a∈args,a.size≤bigN)∧(params.length≤bigN∧ ∀ p∈params,p.ok)∧(exprs.length≤bigN∧Ex.oks exprs)∧kids.length≤bigN∧Fm.oks kids
def Fm.oks:List Fm→Prop
 |[]=>True
 |k::ks=>k.ok∧Fm.oks ks
end
theorem Ex.oks_iff:{l:List Ex}→(Ex.oks l↔ ∀ k∈l,k.ok)
 |[]=>by simp[Ex.oks]
 |k::ks=>by simp[Ex.oks,Ex.oks_iff (l:=ks)]
theorem Fm.oks_iff:{l:List Fm}→(Fm.oks l↔ ∀ k∈l,k.ok)
 |[]=>by simp[Fm.oks]
 |k::ks=>by simp[Fm.oks,Fm.oks_iff (l:=ks)]
structure Grow(h h':Heap):Prop where
 le:h.next≤h'.next
 old: ∀ id,id<h.next→h'.obj id=h.obj id
theorem Grow.refl(h:Heap):Grow h h:=⟨Nat.le_refl _,fun _ _=>rfl⟩
theorem Grow.new{h h':Heap}(g:Grow h h')(o:AObj):Grow h (h'.new o):=
 ⟨Nat.le_trans g.le (by simp[Heap.new]),fun id hid=>by simp only[Heap.new];rw[if_neg (by have:=g.le;omega)];exact g.old id hid⟩
theorem Grow.kill{h h':Heap}(g:Grow h h'){id:Nat}(hid:h.next≤id):Grow h (h'.kill id):=
 ⟨g.le,fun i hi=>by simp only[Heap.kill];rw[if_neg (by omega)];exact g.old i hi⟩
end Go.AM
namespace Go.Proofs.Ytjeolbgpllbemaa
open Go.AM
set_option maxHeartbeats 2000000
set_option maxRecDepth 20000
def words:List ByteArray:=[⟨#[97,110,100]⟩,⟨#[111,114]⟩,⟨#[110,111,116]⟩,⟨#[105,109,112,108,121]⟩,⟨#[102,111,114,97,108,108]⟩,⟨#[101,120,105,115,116,115]⟩,⟨#[119,104,101,110]⟩,⟨#[97,115,115,105,103,110]⟩,⟨#[105,110,99,114,101,97,115,101]⟩,⟨#[100,101,99,114,101,97,115,101]⟩,⟨#[111,98,106,101,99,116]⟩]
theorem strRows_len(l:List ByteArray):(strRows l).length=l.length:=by simp[strRows]
end Go.Proofs.Ytjeolbgpllbemaa
namespace Go.AM
def vEq:Value→Value→Bool
 | .int k a,.int k' b=>decide (k=k')&&decide (a=b)
 | .bool a,.bool b=>a==b
 | .string a,.string b=>decide (a.data.toList=b.data.toList)
 | .nilIface,.nilIface=>true
 | .pointer none,.pointer none=>true
 | .map none,.map none=>true
 | .slice none n m,.slice none n' m'=>decide (n=n')&&decide (m=m')
 | .func (.func f) a b,.func (.func f') a' b'=>decide (f=f')&&decide (a.size=0)&&decide (b.size=0)&&decide (a'.size=0)&&decide (b'.size=0)
 | .iface t v,.iface u x=>decide (t=u)&&vEq v x
 |_,_=>false
theorem vEq_eq(a b:Value)(h:vEq a b=true):a=b:=by
 fun_induction vEq a b
 case case3 a b=>
  obtain⟨⟨a⟩⟩:=a
  obtain⟨⟨b⟩⟩:=b
  simp at h;rw[h]
 case case8=>
  simp at h
  obtain⟨⟨⟨⟨rfl,rfl⟩,rfl⟩,rfl⟩,rfl⟩:=h
  rfl
 all_goals simp_all
mutual
def pvEq:PV→PV→Bool
 | .sc v,.sc u=>vEq v u
 | .ptr a b c,.ptr a' b' c'=>decide (a=a')&&decide (b=b')&&decide (c=c')
 | .own a b c,.own a' b' c'=>decide (a=a')&&decide (b=b')&&decide (c=c')
 | .mp a,.mp b=>decide (a=b)
 | .emp,.emp=>true
 | .cptr l,.cptr l'=>pvEqL l l'
 | .agg l,.agg l'=>pvEqL l l'
 | .tup l,.tup l'=>pvEqL l l'
 | .fn f a b,.fn f' a' b'=>decide (f=f')&&pvEqL a a'&&pvEqL b b'
 | .ab k a b c d,.ab k' a' b' c' d'=>decide (k=k')&&decide (a=a')&&decide (b=b')&&decide (c=c')&&decide (d=d')
 | .imm z r,.imm z' r'=>decide (z=z')&&pvEqR r r'
 |_,_=>false
def pvEqL:List PV→List PV→Bool
 |[],[]=>true
 |a::l,b::l'=>pvEq a b&&pvEqL l l'
 |_,_=>false
def pvEqR:List (List PV)→List (List PV)→Bool
 |[],[]=>true
 |a::l,b::l'=>pvEqL a b&&pvEqR l l'
 |_,_=>false
end
mutual
theorem pvEq_eq: ∀ (a b:PV),pvEq a b=true→a=b
 | .sc v,b,h=>by cases b<;>simp[pvEq]at h;rw[vEq_eq _ _ h]
 | .ptr a b c,x,h=>by cases x<;>simp[pvEq]at h;obtain⟨⟨rfl,rfl⟩,rfl⟩:=h;rfl
 | .own a b c,x,h=>by cases x<;>simp[pvEq]at h;obtain⟨⟨rfl,rfl⟩,rfl⟩:=h;rfl
 | .mp a,x,h=>by cases x<;>simp[pvEq]at h;rw[h]
 | .emp,x,h=>by cases x<;>simp[pvEq]at h;rfl
 | .cptr l,x,h=>by cases x<;>simp[pvEq]at h;rw[pvEqL_eq _ _ h]
 | .agg l,x,h=>by cases x<;>simp[pvEq]at h;rw[pvEqL_eq _ _ h]
 | .tup l,x,h=>by cases x<;>simp[pvEq]at h;rw[pvEqL_eq _ _ h]
 | .imm z r,x,h=>by cases x<;>simp[pvEq]at h;rw[h.1,pvEqR_eq _ _ h.2]
 | .fn f a b,x,h=>by cases x<;>simp[pvEq]at h;rw[h.1.1,pvEqL_eq _ _ h.1.2,pvEqL_eq _ _ h.2]
 | .ab k a b c d,x,h=>by cases x<;>simp[pvEq]at h;obtain⟨⟨⟨⟨rfl,rfl⟩,rfl⟩,rfl⟩,rfl⟩:=h;rfl
theorem pvEqL_eq: ∀ (a b:List PV),pvEqL a b=true→a=b
 |[],b,h=>by cases b<;>simp[pvEqL]at h;rfl
 |x::l,b,h=>by cases b<;>simp[pvEqL]at h;rw[pvEq_eq _ _ h.1,pvEqL_eq _ _ h.2]
theorem pvEqR_eq: ∀ (a b:List (List PV)),pvEqR a b=true→a=b
 |[],b,h=>by cases b<;>simp[pvEqR]at h;rfl
 |x::l,b,h=>by cases b<;>simp[pvEqR]at h;rw[pvEqL_eq _ _ h.1,pvEqR_eq _ _ h.2]
end
section
variable (P:Program)(wf:FuncId→Bool)(own:FuncId→Nat→Bool)(ext:FuncId→List PV→Option PV)
end
section
variable {P:Program}{wf:FuncId→Bool}{own:FuncId→Nat→Bool}
def ExtOk(P:Program)(ext:FuncId→List PV→Option PV):Prop:= ∀ f args r h,ext f args=some r→PCall P f args h (fun r' h'=>r'=r∧h'=h)
theorem eff_same{ow:Nat→Bool}{o:Oper}{ρ:Operand→PV}{h h':Heap}{v:PV}(hw:isW ow wf o=false)(hc:callee ρ o.op=none)(he:eff P (o.dst.any ow) o.op ρ h=some (v,h')):h'=h:=by
 obtain⟨dst,op,t,pos,after,guard⟩:=o
 simp only at hc he hw
 unfold eff at he
 split at he<;>simp only[isW]at hw<;>(try(simp at hw;done))
 all_goals(repeat'(split at he))
 all_goals first
  |(simp[Option.bind_eq_some_iff,Option.map_eq_some_iff]at he;done)
  |(simp[Option.bind_eq_some_iff,Option.map_eq_some_iff]at he;grind)
  |skip
theorem Does.owp{ow:Nat→Bool}{o:Oper}{s:Slots}{h h':Heap}{v:PV}{K:Slots→Heap→Prop}(hd:Does P ow o (pev s) h v h')(hK:K (updO s o.dst v) h'):owp P ow o K s h:=by
 unfold Does at hd
 unfold AM.owp
 split at hd
 ·rename_i f args hc
  exact hd.mono (fun r h'' hr=>by rw[hr.1,hr.2];exact hK)
 ·rename_i hc
  rw[hd]
  exact hK
theorem pcall_indexByte{f:FuncId}{fn:Func}(hf:P.funcs[f]? =some fn)(hname:(fn.name== "runtime.NumGoroutine")=false)(hb:fn.body.isNone=true)(hn:Extern.findNext fn=none)(he:Extern.find fn=some Extern.BytealgIndexByte.indexByte)(s:ByteArray)(c:Int)(h:Heap):
  PCall P f [.sc (.string s),.sc (.int .u8 c)] h (fun r h'=>r= .sc (.int .i64 (firstIdx s c.toNat.toUInt8))∧h'=h):=by
 intro β w vals sm hr
 match vals,hr.len,hr with
 |[x,y],_,hr=>
  simp only[RepL,Rep]at hr
  obtain⟨rfl,rfl,_⟩:=hr
  exact .inr ⟨_,w,by rw[run_callFunc_extern hf hname hb hn he];simp only[run_indexByte_string];rfl,_,h,β,_,rfl,⟨rfl,rfl⟩,sm,by simp only[RepH,Rep],Ext.refl⟩
end
end Go.AM
namespace Go.Proofs.Ytjeolbgpllbemaa
open Go.AM
set_option maxHeartbeats 2000000
set_option maxRecDepth 100000
def ext(f:FuncId)(args:List PV):Option PV:=if f=103 then(match args with|[.sc (.string s),.sc (.int .u8 c)]=>some (.sc (.int .i64 (firstIdx s c.toNat.toUInt8)))|_=>none)else none
theorem ixb_ok:(Try.f103.name== "runtime.NumGoroutine")=false∧Try.f103.body.isNone=true∧Extern.findNext Try.f103=none∧Extern.find Try.f103=some Extern.BytealgIndexByte.indexByte:=
 ⟨by kernel_rfl,by kernel_rfl,by kernel_rfl,by kernel_rfl⟩
theorem ext_ok:ExtOk Try.prog ext:=by
 intro f args r h hr
 unfold ext at hr
 split at hr
 ·rename_i hf
  subst hf
  split at hr
  ·simp only[Option.some.injEq]at hr
   subst hr
   exact pcall_indexByte Try.func103 ixb_ok.1 ixb_ok.2.1 ixb_ok.2.2.1 ixb_ok.2.2.2 _ _ _
  ·simp at hr
 ·simp at hr
end Go.Proofs.Ytjeolbgpllbemaa
namespace Go.Proofs.Ytjeolbgpllbemaa
open Go.AM
set_option maxHeartbeats 2000000
set_option maxRecDepth 20000
theorem drop_of_get{α:Type}{l:List α}{k:Nat}{a:α}(h:l[k]? =some a):l.drop k=a::l.drop (k+1):=by
 obtain⟨hl,rfl⟩:=List.getElem?_eq_some_iff.1 h
 exact List.drop_eq_getElem_cons hl
theorem pmsEq_len: ∀ {l m:List Pm},¬ l.length=m.length→pmsEq l m=false
 |[],[],h=>by simp at h
 |[],_::_,_=>rfl
 |_::_,[],_=>rfl
 |a::l,b::m,h=>by simp only[pmsEq,pmsEq_len (l:=l) (m:=m) (by simpa using h),Bool.and_false]
end Go.Proofs.Ytjeolbgpllbemaa
namespace Go.AM
def Tl(h:Heap)(id0 z:Nat)(p:PV)(rows:List (List PV)):Prop:=
 (rows=[]∧(p= .sc (.slice none 0 0)∨p= .emp))∨ ∃ id,id0≤id∧id<h.next∧p= .own id 0 rows.length∧h.obj id=some (.arr z rows)
variable {h:Heap}{id0 z:Nat}{p:PV}{rows:List (List PV)}
theorem Tl.sl(t:Tl h id0 z p rows):Sl h z p rows:=by
 rcases t with⟨rfl,rfl|rfl⟩|⟨id,_,_,rfl,ho⟩
 ·exact Sl.nil
 ·exact Sl.emp
 ·exact Sl.own0 ho
theorem Tl.grow{H:Heap}{len:Nat}(hn:id0≤H.next)(hl:len=rows.length):Tl (H.new (.arr z rows)) id0 z (.own H.next 0 len) rows:=
 .inr ⟨H.next,hn,Nat.lt_succ_self _,by rw[hl],by rw[new_obj,if_pos rfl]⟩
theorem FrzL_sc{n:Nat}:(l:List PV)→(∀ p∈l, ∃ v,p= .sc v)→FrzL n h l l
 |[],_=>by simp only[FrzL]
 |p::l,hp=>by
  obtain⟨v,hv⟩:=hp p (by simp)
  simp only[FrzL]
  exact⟨by rw[hv];simp only[FrzTo],FrzL_sc l (fun q hq=>hp q (by simp[hq]))⟩
theorem FrzR_sc{n:Nat}:(l:List (List PV))→(∀ r∈l, ∀ p∈r, ∃ v,p= .sc v)→FrzR n h l l
 |[],_=>by simp only[FrzR]
 |r::l,hp=>by
  simp only[FrzR]
  exact⟨FrzL_sc r (hp r (by simp)),FrzR_sc l (fun q hq=>hp q (by simp[hq]))⟩
theorem Tl.frz(t:Tl h id0 z p rows)(hs: ∀ r∈rows, ∀ p∈r, ∃ v,p= .sc v):FrzTo id0 h (.imm z rows) p:=by
 simp only[FrzTo]
 rcases t with⟨h1,h2⟩|⟨id,h1,h2,rfl,ho⟩
 ·exact .inr (.inl ⟨h1,h2.symm⟩)
 ·refine .inr (.inr ⟨id,0,_,_,rfl,h1,ho,by omega,?_⟩)
  rw[List.drop_zero,List.take_of_length_le (by omega)]
  exact FrzR_sc _ hs
end Go.AM
namespace Go.Proofs.Ytjeolbgpllbemaa
open Go.AM
set_option maxHeartbeats 2000000
set_option maxRecDepth 20000
theorem PCall.frz{P:Program}{f:FuncId}{args:List PV}{h:Heap}{v:PV}(hb:hasBody P f=true)(hc:PCall P f args h fun r' h'=>FrzTo h.next h' v r'∧Grow h h'):PCall P f args h fun r h'=>r=v∧h'=h:=by
 refine pcall_wf hb fun hw=>PCall.drop (hc.mono ?_)
 rintro r' h' ⟨hf,g⟩
 refine⟨v,h,⟨rfl,rfl⟩,hf,Nat.le_refl _,fun id o ho=>?_⟩
 have hid:=hw id (by rw[ho];try rfl)
 exact⟨by rw[g.old id hid];exact ho,hid,.inl ho⟩
end Go.Proofs.Ytjeolbgpllbemaa
namespace Go.AM
mutual
def Ex.small:Ex→Prop
 | .mk _ _ _ args kids=>args.length≤1048576∧Ex.smalls kids
def Ex.smalls:List Ex→Prop
 |[]=>True
 |k::ks=>k.small∧Ex.smalls ks
end
end Go.AM
namespace Go.Proofs.Ytjeolbgpllbemaa
open Go.AM
set_option maxHeartbeats 2000000
set_option maxRecDepth 20000
end Go.Proofs.Ytjeolbgpllbemaa
namespace Go.Proofs.Ytjeolbgpllbemaa
open Go.AM
set_option maxHeartbeats 2000000
set_option maxRecDepth 20000
structure Hold(p:Prop):Prop where
 out:p
theorem a_hold{P:Program}{ow:Nat→Bool}{wf:FuncId→Bool}{n:Nat}{Q:Post}{s:Slots}{h:Heap}(id:Nat){ops:Array Oper}{d:Bool}{x y:Code}(hh:Hold (awp P ow wf n (.seq (.seq (.region id ops d) x) y) Q s h)):awp P ow wf n (.seq (.seq (.region id ops d) x) y) Q s h:=hh.out
theorem a_cut{P:Program}{ow:Nat→Bool}{wf:FuncId→Bool}{n:Nat}{Q:Post}{s:Slots}{h:Heap}{a b:Code}(I:Slots→Heap→Prop)(h1:awp P ow wf n a (Post.seq I Q) s h)(h2: ∀ s h,I s h→awp P ow wf n b Q s h):awp P ow wf n (.seq a b) Q s h:=by
 simp only[awp]
 refine awp_mono a (fun e s h hh=>?_) h1
 cases e<;>simp only[Post.seq]at hh⊢
 ·exact h2 _ _ hh
 all_goals exact hh
end Go.Proofs.Ytjeolbgpllbemaa
namespace Go.Proofs.Ytjeolbgpllbemaa
open Go.AM
def zeroFm:Fm:= .mk ⟨#[]⟩ ⟨#[]⟩ [] [] [] []
end Go.Proofs.Ytjeolbgpllbemaa
namespace Go.Proofs.Ytjeolbgpllbemaa
open Go.AM
def fin(r:Fm × Int):Fm × Int:=bif r.2==0 then r else(zeroFm,r.2)
end Go.Proofs.Ytjeolbgpllbemaa
namespace Go.AM
structure At where
 name:ByteArray
 args:List ByteArray
structure Vl where
 at_:At
 n:Int
structure Pb where
 name:ByteArray
 domain:ByteArray
 objects:List Pm
 init:List At
 values:List Vl
 goal:Fm
def atRow(a:At):List PV:=[sPV a.name,.imm 1 (strRows a.args)]
def atRows(l:List At):List (List PV):=l.map atRow
theorem atRows_len(l:List At):(atRows l).length=l.length:=by simp[atRows]
theorem atRows_get{l:List At}{i:Nat}{a:At}(h:l[i]? =some a):(atRows l)[i]? =some [sPV a.name,.imm 1 (strRows a.args)]:=by simp[atRows,h,atRow]
def vlRow(v:Vl):List PV:=[sPV v.at_.name,.imm 1 (strRows v.at_.args),.sc (.int .i64 v.n)]
def vlRows(l:List Vl):List (List PV):=l.map vlRow
theorem vlRows_len(l:List Vl):(vlRows l).length=l.length:=by simp[vlRows]
theorem vlRows_get{l:List Vl}{i:Nat}{v:Vl}(h:l[i]? =some v):(vlRows l)[i]? =some [sPV v.at_.name,.imm 1 (strRows v.at_.args),.sc (.int .i64 v.n)]:=by simp[vlRows,h,vlRow]
def Pb.cells(p:Pb):List PV:=[sPV p.name,sPV p.domain,.imm 2 (pmRows p.objects),.imm 2 (atRows p.init),.imm 3 (vlRows p.values)]++p.goal.cells
def At.ok(a:At):Prop:=a.name.size≤bigN∧a.args.length≤bigN∧ ∀ s∈a.args,s.size≤bigN
end Go.AM
namespace Go.Proofs.Ytjeolbgpllbemaa
open Go.AM
set_option maxHeartbeats 2000000
set_option maxRecDepth 20000
theorem rsizeE_c: ∀ (e:Ex),e.ok→ ∀ h:Heap,PCall Try.prog 33 [.agg e.cells] h fun r h'=>r= .sc (.int .i64 e.size)∧h'=h:=by
 refine Ex.ind ?_
 intro op name n args kids ih hok h
 simp only[Ex.ok]at hok
 obtain⟨_,_,_,_,hk,hks⟩:=hok
 rw[Ex.oks_iff]at hks
 have hlen:=Ex.rows_len kids
 simp only[Ex.cells,Ex.size]
 refine pcall_body (ow:=fun _=>false) (wf:=fun _=>false) Ty.mixed Try.func33 rfl Ty.hb_33 (by rw[Try.ntmps33];simp) ?_
 rw[Try.ntmps33,Try.results33]
 repeat'(first|refine a_seq fun K hK=>?_|(refine a_block ?_)|(refine a_regionS ?_;simp(maxSteps:=2000000) only[Ty.w,simprocAttr,hlen])|(refine hK _ _ ?_;clear hK;try simp only[pst0,simprocAttr]))
 refine a_loop (fun m S h'=>h'=h∧S 1= .cptr (Ex.mk op name n args kids).cells∧ ∃ k:Nat,S 4= .sc (.int .i64 k)∧k≤kids.length∧m=kids.length-k∧S 3= .sc (.int .i64 (Ex.sizes 1 (kids.take k)))) kids.length ?_ ?_
 ·simp only[Ty.w,simprocAttr]
  exact⟨rfl,0,rfl,by omega,rfl,by simp[Ex.sizes]⟩
 ·rintro m S h' ⟨rfl,g1,k,g4,hkl,rfl,g3⟩
  simp only[Ex.cells]at g1
  by_cases hlt:k<kids.length
  ·have hd:decide ((k:Int)<(kids.length:Int))=true:=by simp;omega
   have w7:IntKind.i64.wrap ((k:Int)+1)=k+1:=by unfold bigN at hk;rw[wrap64 (by omega) (by omega)]
   obtain⟨e,hx⟩: ∃ e,kids[k]? =some e:=⟨_,List.getElem?_eq_getElem hlt⟩
   have hmem:=List.mem_of_getElem? hx
   have hc:=ih e hmem (hks e hmem)
   have hsz:=Ex.sizes_take 1 hx
   have hr:=Ex.rows_get hx
   obtain⟨op2,name2,n2,args2,kids2⟩:=e
   simp only[Ex.cells]at hr hc
   repeat'(first|refine a_seq fun K hK=>?_|(refine a_block ?_)|((first|refine a_regionS ?_|refine a_region (fun K hK=>?_));simp(maxSteps:=2000000) only[Ty.w,simprocAttr,g1,g3,g4,hlen,hd,hr,w7])|(refine a_skip ?_;try simp only[pst0,simprocAttr])|(refine a_cond _ (by(try simp(maxSteps:=2000000) only[Ty.w,simprocAttr,g1,g3,g4,hlen,hd,hr,w7]);rfl) (fun hb=>?_) (fun hb=>?_)<;>(try simp only[hb0,decide_eq_true_eq,decide_eq_false_iff_not,simprocAttr]at hb)<;>(try(exfalso;omega)))|(refine hK _ _ ?_;clear hK;try simp only[pst0,simprocAttr]))
   refine owp_useQ (hc _) (by(try simp only[Ty.w,simprocAttr,g1,g3,g4,hlen,hd,hr]);try rfl) ?_;simp(maxSteps:=2000000) only[Ty.w,simprocAttr,g1,g3,g4,hlen,hd,hr]
   repeat'(first|(refine a_regionS ?_;simp(maxSteps:=2000000) only[Ty.w,simprocAttr,g1,g3,g4,w7])|(refine hK _ _ ?_;clear hK;try simp only[pst0,simprocAttr]))
   exact⟨kids.length-(k+1),by omega,rfl,k+1,by simp,by omega,rfl,by rw[hsz]⟩
  ·have hd:decide ((k:Int)<(kids.length:Int))=false:=by simp;omega
   have hke:k=kids.length:=by omega
   subst hke
   rw[List.take_length]at g3
   repeat'(first|refine a_seq fun K hK=>?_|((first|refine a_regionS ?_|refine a_ret ?_);simp(maxSteps:=2000000) only[Ty.w,simprocAttr,g1,g3,g4,hlen,hd])|(refine a_exit ?_;try simp only[pst0,simprocAttr])|(refine a_cond _ (by(try simp(maxSteps:=2000000) only[Ty.w,simprocAttr,g1,g3,g4,hlen,hd]);rfl) (fun hb=>?_) (fun hb=>?_)<;>(try simp only[hb0,decide_eq_true_eq,decide_eq_false_iff_not,simprocAttr]at hb)<;>(try(exfalso;omega)))|((first|refine hK _ _ ?_|(clear hK;refine hK _ _ ?_));clear hK;try simp only[pst0,simprocAttr]))
theorem rsize_c: ∀ (f:Fm),f.ok→ ∀ h:Heap,PCall Try.prog 16 [.agg f.cells] h fun r h'=>r= .sc (.int .i64 f.size)∧h'=h:=by
 refine Fm.ind ?_
 intro op name args params exprs kids ih hok h
 simp only[Fm.ok]at hok
 obtain⟨_,_,_,_,⟨he,hes⟩,hk,hks⟩:=hok
 rw[Ex.oks_iff]at hes
 rw[Fm.oks_iff]at hks
 have hlen:=Fm.rows_len kids
 have hlene:=Ex.rows_len exprs
 simp only[Fm.cells,Fm.size]
 refine pcall_body (ow:=fun _=>false) (wf:=fun _=>false) Ty.mixed Try.func16 rfl Ty.hb_16 (by rw[Try.ntmps16];simp) ?_
 rw[Try.ntmps16,Try.results16]
 repeat'(first|refine a_seq fun K hK=>?_|(refine a_block ?_)|(refine a_regionS ?_;simp(maxSteps:=2000000) only[Ty.w,simprocAttr,hlen])|(refine hK _ _ ?_;clear hK;try simp only[pst0,simprocAttr]))
 refine a_loop (fun m S h'=>h'=h∧S 1= .cptr (Fm.mk op name args params exprs kids).cells∧ ∃ k:Nat,S 4= .sc (.int .i64 k)∧k≤exprs.length∧m=exprs.length-k∧S 3= .sc (.int .i64 (Ex.sizes 1 (exprs.take k)))) exprs.length ?_ ?_
 ·simp only[Ty.w,simprocAttr]
  exact⟨rfl,0,rfl,by omega,rfl,by simp[Ex.sizes]⟩
 ·rintro m S h' ⟨rfl,g1,k,g4,hkl,rfl,g3⟩
  simp only[Fm.cells]at g1
  by_cases hlt:k<exprs.length
  ·have hd:decide ((k:Int)<(exprs.length:Int))=true:=by simp;omega
   have w7:IntKind.i64.wrap ((k:Int)+1)=k+1:=by unfold bigN at he;rw[wrap64 (by omega) (by omega)]
   obtain⟨e,hx⟩: ∃ e,exprs[k]? =some e:=⟨_,List.getElem?_eq_getElem hlt⟩
   have hmem:=List.mem_of_getElem? hx
   have hc:=rsizeE_c e (hes e hmem)
   have hsz:=Ex.sizes_take 1 hx
   have hr:=Ex.rows_get hx
   obtain⟨op2,name2,n2,args2,kids2⟩:=e
   simp only[Ex.cells]at hr hc
   repeat'(first|refine a_seq fun K hK=>?_|(refine a_block ?_)|((first|refine a_regionS ?_|refine a_region (fun K hK=>?_));simp(maxSteps:=2000000) only[Ty.w,simprocAttr,g1,g3,g4,hlene,hd,hr,w7])|(refine a_skip ?_;try simp only[pst0,simprocAttr])|(refine a_cond _ (by(try simp(maxSteps:=2000000) only[Ty.w,simprocAttr,g1,g3,g4,hlene,hd,hr,w7]);rfl) (fun hb=>?_) (fun hb=>?_)<;>(try simp only[hb0,decide_eq_true_eq,decide_eq_false_iff_not,simprocAttr]at hb)<;>(try(exfalso;omega)))|(refine hK _ _ ?_;clear hK;try simp only[pst0,simprocAttr]))
   refine owp_useQ (hc _) (by(try simp only[Ty.w,simprocAttr,g1,g3,g4,hlene,hd,hr]);try rfl) ?_;simp(maxSteps:=2000000) only[Ty.w,simprocAttr,g1,g3,g4,hlene,hd,hr]
   repeat'(first|(refine a_regionS ?_;simp(maxSteps:=2000000) only[Ty.w,simprocAttr,g1,g3,g4,w7])|(refine hK _ _ ?_;clear hK;try simp only[pst0,simprocAttr]))
   exact⟨exprs.length-(k+1),by omega,by simp only[Fm.cells],k+1,by simp,by omega,rfl,by rw[hsz]⟩
  ·have hd:decide ((k:Int)<(exprs.length:Int))=false:=by simp;omega
   have hke:k=exprs.length:=by omega
   subst hke
   rw[List.take_length]at g3
   repeat'(first|refine a_seq fun K hK=>?_|(refine a_block ?_)|(refine a_regionS ?_;simp(maxSteps:=2000000) only[Ty.w,simprocAttr,g1,g3,g4,hlene,hd])|(refine a_exit ?_;try simp only[pst0,simprocAttr])|(refine a_cond _ (by(try simp(maxSteps:=2000000) only[Ty.w,simprocAttr,g1,g3,g4,hlene,hd]);rfl) (fun hb=>?_) (fun hb=>?_)<;>(try simp only[hb0,decide_eq_true_eq,decide_eq_false_iff_not,simprocAttr]at hb)<;>(try(exfalso;omega)))|((first|refine hK _ _ ?_|(clear hK;refine hK _ _ ?_));clear hK;try simp only[pst0,simprocAttr]))
   refine a_loop (fun m S h2=>h2=h'∧S 1= .cptr (Fm.mk op name args params exprs kids).cells∧ ∃ k:Nat,S 5= .sc (.int .i64 k)∧k≤kids.length∧m=kids.length-k∧S 3= .sc (.int .i64 (Fm.sizes (Ex.sizes 1 exprs) (kids.take k)))) kids.length ?_ ?_
   ·simp only[Ty.w,simprocAttr,g1,g3]
    exact⟨by simp only[Fm.cells],0,rfl,by omega,rfl,by simp[Fm.sizes]⟩
   ·clear g1 g3 g4
    rintro m S h' ⟨rfl,g1,k,g5,hkl,rfl,g3⟩
    simp only[Fm.cells]at g1
    by_cases hlt:k<kids.length
    ·have hd:decide ((k:Int)<(kids.length:Int))=true:=by simp;omega
     have w7:IntKind.i64.wrap ((k:Int)+1)=k+1:=by unfold bigN at hk;rw[wrap64 (by omega) (by omega)]
     obtain⟨e,hx⟩: ∃ e,kids[k]? =some e:=⟨_,List.getElem?_eq_getElem hlt⟩
     have hmem:=List.mem_of_getElem? hx
     have hc:=ih e hmem (hks e hmem)
     have hsz:=Fm.sizes_take (Ex.sizes 1 exprs) hx
     have hr:=Fm.rows_get hx
     obtain⟨op2,name2,args2,params2,exprs2,kids2⟩:=e
     simp only[Fm.cells]at hr hc
     repeat'(first|refine a_seq fun K hK=>?_|(refine a_block ?_)|((first|refine a_regionS ?_|refine a_region (fun K hK=>?_));simp(maxSteps:=2000000) only[Ty.w,simprocAttr,g1,g3,g5,hlen,hd,hr,w7])|(refine a_skip ?_;try simp only[pst0,simprocAttr])|(refine a_cond _ (by(try simp(maxSteps:=2000000) only[Ty.w,simprocAttr,g1,g3,g5,hlen,hd,hr,w7]);rfl) (fun hb=>?_) (fun hb=>?_)<;>(try simp only[hb0,decide_eq_true_eq,decide_eq_false_iff_not,simprocAttr]at hb)<;>(try(exfalso;omega)))|(refine hK _ _ ?_;clear hK;try simp only[pst0,simprocAttr]))
     refine owp_useQ (hc _) (by(try simp only[Ty.w,simprocAttr,g1,g3,g5,hlen,hd,hr]);try rfl) ?_;simp(maxSteps:=2000000) only[Ty.w,simprocAttr,g1,g3,g5,hlen,hd,hr]
     repeat'(first|(refine a_regionS ?_;simp(maxSteps:=2000000) only[Ty.w,simprocAttr,g1,g3,g5,w7])|(refine hK _ _ ?_;clear hK;try simp only[pst0,simprocAttr]))
     exact⟨kids.length-(k+1),by omega,by simp only[Fm.cells],k+1,by simp,by omega,rfl,by rw[hsz]⟩
    ·have hd:decide ((k:Int)<(kids.length:Int))=false:=by simp;omega
     have hke:k=kids.length:=by omega
     subst hke
     rw[List.take_length]at g3
     repeat'(first|refine a_seq fun K hK=>?_|((first|refine a_regionS ?_|refine a_ret ?_);simp(maxSteps:=2000000) only[Ty.w,simprocAttr,g1,g3,g5,hlen,hd])|(refine a_exit ?_;try simp only[pst0,simprocAttr])|(refine a_cond _ (by(try simp(maxSteps:=2000000) only[Ty.w,simprocAttr,g1,g3,g5,hlen,hd]);rfl) (fun hb=>?_) (fun hb=>?_)<;>(try simp only[hb0,decide_eq_true_eq,decide_eq_false_iff_not,simprocAttr]at hb)<;>(try(exfalso;omega)))|((first|refine hK _ _ ?_|(clear hK;refine hK _ _ ?_));clear hK;try simp only[pst0,simprocAttr]))
end Go.Proofs.Ytjeolbgpllbemaa
namespace Go.AM
def Vl.okS(v:Vl):Prop:=v.at_.ok
structure Pb.okS(p:Pb):Prop where
 objects:p.objects.length≤bigN
 init:p.init.length≤bigN∧ ∀ a∈p.init,a.ok
 values:p.values.length≤bigN∧ ∀ v∈p.values,v.okS
 goal:p.goal.ok
end Go.AM
namespace Go.Proofs.Ytjeolbgpllbemaa
open Go.AM
set_option maxHeartbeats 4000000
set_option maxRecDepth 20000
end Go.Proofs.Ytjeolbgpllbemaa
namespace Go.Proofs.Ytjeolbgpllbemaa
open Go.AM
set_option maxHeartbeats 4000000
set_option maxRecDepth 20000
def argSumA(n:Int):List At→Int
 |[]=>n
 |a::l=>argSumA (IntKind.i64.wrap (n+a.args.length)) l
def argSumV(n:Int):List Vl→Int
 |[]=>n
 |v::l=>argSumV (IntKind.i64.wrap (n+v.at_.args.length)) l
def largeP(p:Pb):Bool:=decide (argSumV (argSumA (IntKind.i64.wrap (IntKind.i64.wrap ((p.objects.length:Int)+p.init.length)+p.values.length)) p.init) p.values>1000)||decide (p.goal.size>2000)
theorem plarge_c(p:Pb)(hp:p.okS)(h:Heap):PCall Try.prog 6 [.agg p.cells] h fun r h'=>r= .sc (.bool (largeP p))∧h'=h:=by
 obtain⟨ho,⟨hi,hia⟩,⟨hv,hva⟩,hg⟩:=hp
 obtain⟨name,domain,objects,init,values,goal⟩:=p
 simp only at ho hi hia hv hva hg
 have hz:=rsize_c goal hg
 unfold largeP
 simp only
 generalize goal.size=gs at hz⊢
 clear hg
 obtain⟨gop,gname,gargs,gparams,gexprs,gkids⟩:=goal
 have hlo:=pmRows_len objects
 have hli:=atRows_len init
 have hlv:=vlRows_len values
 unfold bigN at ho hi hv
 simp only[Fm.cells]at hz
 generalize hN0:IntKind.i64.wrap (IntKind.i64.wrap ((objects.length:Int)+init.length)+values.length)=n0
 generalize hNA:argSumA n0 init=nA
 generalize hNV:argSumV nA values=nV
 have hC: ∀ r,r=(Pb.mk name domain objects init values (.mk gop gname gargs gparams gexprs gkids)).cells→r=[sPV name,sPV domain,.imm 2 (pmRows objects),.imm 2 (atRows init),.imm 3 (vlRows values),sPV gop,sPV gname,.imm 1 (strRows gargs),.imm 2 (pmRows gparams),.imm 5 (Ex.rows gexprs),.imm 6 (Fm.rows gkids)]:=fun r e=>e
 have hC2:=hC _ rfl
 rw[hC2]
 refine pcall_body (ow:=fun _=>false) (wf:=fun _=>false) Ty.mixed Try.func6 rfl Ty.hb_6 (by rw[Try.ntmps6];simp) ?_
 rw[Try.ntmps6,Try.results6]
 repeat'(first|(with_reducible refine a_hold 2 ?_)|refine a_seq fun K hK=>?_|(refine a_regionS ?_;simp(maxSteps:=2000000) only[Ty.w,simprocAttr,hlo,hli,hlv,hN0])|(refine hK _ _ ?_;clear hK;try simp only[pst0,simprocAttr]))
 refine⟨?_⟩
 refine a_cut (fun S h'=>h'=h∧S 1= .cptr (Pb.mk name domain objects init values (.mk gop gname gargs gparams gexprs gkids)).cells∧S 3= .sc (.int .i64 nA)) ?_ ?_
 ·rw [hC2]
  repeat'(first|refine a_seq fun K hK=>?_|(refine a_block ?_)|(refine a_regionS ?_;simp(maxSteps:=2000000) only[Ty.w,simprocAttr])|(refine hK _ _ ?_;clear hK;try simp only[pst0,simprocAttr]))
  refine a_loop (fun c S h'=>h'=h∧S 1= .cptr (Pb.mk name domain objects init values (.mk gop gname gargs gparams gexprs gkids)).cells∧ ∃ (k:Nat)(n:Int),S 4= .sc (.int .i64 k)∧S 3= .sc (.int .i64 n)∧k≤init.length∧c=init.length-k∧nA=argSumA n (init.drop k)) init.length ?_ ?_
  ·simp only[Ty.w,simprocAttr,hC2]
   exact⟨0,n0,rfl,rfl,by omega,rfl,by rw[← hNA];try rfl⟩
  ·rintro c S h' ⟨rfl,g1,k,n,g4,g3,hk,rfl,hinv⟩
   rw[hC2]at g1
   by_cases hlt:k<init.length
   ·have hd:decide ((k:Int)<(init.length:Int))=true:=by simp;omega
    have w7:IntKind.i64.wrap ((k:Int)+1)=k+1:=by rw[wrap64 (by omega) (by omega)]
    obtain⟨a,hx⟩: ∃ a,init[k]? =some a:=⟨_,List.getElem?_eq_getElem hlt⟩
    have hr:=atRows_get hx
    have hls:=strRows_len a.args
    rw[drop_of_get hx]at hinv
    simp only[argSumA]at hinv
    repeat'(first|refine a_seq fun K hK=>?_|(refine a_block ?_)|((first|refine a_regionS ?_|refine a_region (fun K hK=>?_));simp(maxSteps:=2000000) only[Ty.w,simprocAttr,g1,g3,g4,hli,hd,hr,hls,w7])|(refine a_skip ?_;try simp only[pst0,simprocAttr])|(refine a_cond _ (by(try simp(maxSteps:=2000000) only[Ty.w,simprocAttr,g1,g3,g4,hli,hd,hr,hls,w7]);rfl) (fun hb=>?_) (fun hb=>?_)<;>(try simp only[hb0,decide_eq_true_eq,decide_eq_false_iff_not,simprocAttr]at hb)<;>(try(exfalso;omega)))|(refine hK _ _ ?_;clear hK;try simp only[pst0,simprocAttr]))
    exact⟨init.length-(k+1),by omega,by rw[hC2],k+1,_,by simp,rfl,by omega,rfl,hinv⟩
   ·have hd:decide ((k:Int)<(init.length:Int))=false:=by simp;omega
    rw[List.drop_eq_nil_of_le (by omega)]at hinv
    simp only[argSumA]at hinv
    repeat'(first|refine a_seq fun K hK=>?_|(refine a_regionS ?_;simp(maxSteps:=2000000) only[Ty.w,simprocAttr,g1,g3,g4,hli,hd])|(refine a_exit ?_;try simp only[pst0,simprocAttr])|(refine a_cond _ (by(try simp(maxSteps:=2000000) only[Ty.w,simprocAttr,g1,g3,g4,hli,hd]);rfl) (fun hb=>?_) (fun hb=>?_)<;>(try simp only[hb0,decide_eq_true_eq,decide_eq_false_iff_not,simprocAttr]at hb)<;>(try(exfalso;omega)))|(refine hK _ _ ?_;clear hK;try simp only[pst0,simprocAttr]))
    simp only[Ty.w,simprocAttr,g1,g3,hinv,hC2]
 ·rintro S h' ⟨rfl,g1,g3⟩
  rw[hC2]at g1
  clear hNA hN0
  repeat'(with_reducible refine a_hold 6 ?_)
  refine⟨?_⟩
  refine a_cut (fun S h2=>h2=h'∧S 1= .cptr (Pb.mk name domain objects init values (.mk gop gname gargs gparams gexprs gkids)).cells∧S 3= .sc (.int .i64 nV)) ?_ ?_
  ·rw [hC2]
   repeat'(first|refine a_seq fun K hK=>?_|(refine a_block ?_)|(refine a_regionS ?_;simp(maxSteps:=2000000) only[Ty.w,simprocAttr,g1,g3])|(refine hK _ _ ?_;clear hK;try simp only[pst0,simprocAttr]))
   refine a_loop (fun c S h2=>h2=h'∧S 1= .cptr (Pb.mk name domain objects init values (.mk gop gname gargs gparams gexprs gkids)).cells∧ ∃ (k:Nat)(n:Int),S 5= .sc (.int .i64 k)∧S 3= .sc (.int .i64 n)∧k≤values.length∧c=values.length-k∧nV=argSumV n (values.drop k)) values.length ?_ ?_
   ·simp only[Ty.w,simprocAttr,g1,g3,hC2]
    exact⟨0,nA,rfl,rfl,by omega,rfl,by rw[← hNV];try rfl⟩
   ·clear g1 g3
    rintro c S h2 ⟨rfl,g1,k,n,g5,g3,hk,rfl,hinv⟩
    rw[hC2]at g1
    by_cases hlt:k<values.length
    ·have hd:decide ((k:Int)<(values.length:Int))=true:=by simp;omega
     have w7:IntKind.i64.wrap ((k:Int)+1)=k+1:=by rw[wrap64 (by omega) (by omega)]
     obtain⟨a,hx⟩: ∃ a,values[k]? =some a:=⟨_,List.getElem?_eq_getElem hlt⟩
     have hr:=vlRows_get hx
     have hls:=strRows_len a.at_.args
     rw[drop_of_get hx]at hinv
     simp only[argSumV]at hinv
     repeat'(first|refine a_seq fun K hK=>?_|(refine a_block ?_)|((first|refine a_regionS ?_|refine a_region (fun K hK=>?_));simp(maxSteps:=2000000) only[Ty.w,simprocAttr,g1,g3,g5,hlv,hd,hr,hls,w7])|(refine a_skip ?_;try simp only[pst0,simprocAttr])|(refine a_cond _ (by(try simp(maxSteps:=2000000) only[Ty.w,simprocAttr,g1,g3,g5,hlv,hd,hr,hls,w7]);rfl) (fun hb=>?_) (fun hb=>?_)<;>(try simp only[hb0,decide_eq_true_eq,decide_eq_false_iff_not,simprocAttr]at hb)<;>(try(exfalso;omega)))|(refine hK _ _ ?_;clear hK;try simp only[pst0,simprocAttr]))
     exact⟨values.length-(k+1),by omega,by rw[hC2],k+1,_,by simp,rfl,by omega,rfl,hinv⟩
    ·have hd:decide ((k:Int)<(values.length:Int))=false:=by simp;omega
     rw[List.drop_eq_nil_of_le (by omega)]at hinv
     simp only[argSumV]at hinv
     repeat'(first|refine a_seq fun K hK=>?_|(refine a_regionS ?_;simp(maxSteps:=2000000) only[Ty.w,simprocAttr,g1,g3,g5,hlv,hd])|(refine a_exit ?_;try simp only[pst0,simprocAttr])|(refine a_cond _ (by(try simp(maxSteps:=2000000) only[Ty.w,simprocAttr,g1,g3,g5,hlv,hd]);rfl) (fun hb=>?_) (fun hb=>?_)<;>(try simp only[hb0,decide_eq_true_eq,decide_eq_false_iff_not,simprocAttr]at hb)<;>(try(exfalso;omega)))|(refine hK _ _ ?_;clear hK;try simp only[pst0,simprocAttr]))
     simp only[Ty.w,simprocAttr,g1,g3,hinv,hC2]
  ·clear g1 g3
   rintro S h2 ⟨rfl,g1,g3⟩
   rw[hC2]at g1
   cases l1:decide (nV>1000)with
   |true=>
    repeat'(first|refine a_seq fun K hK=>?_|((first|refine a_regionS ?_|refine a_ret ?_);simp(maxSteps:=2000000) only[Ty.w,simprocAttr,g1,g3,l1])|(refine hK _ _ ?_;clear hK;try simp only[pst0,simprocAttr]))
    all_goals simp only[Bool.true_or]
   |false=>
    repeat'(first|refine a_seq fun K hK=>?_|(refine a_regionS ?_;simp(maxSteps:=2000000) only[Ty.w,simprocAttr,g1,g3,l1]))
    refine owp_useQ (hz _) (by(try simp only[Ty.w,simprocAttr,g1,g3,l1]);try rfl) ?_;simp(maxSteps:=2000000) only[Ty.w,simprocAttr,g1,g3,l1]
    repeat'(first|(refine a_ret ?_;simp(maxSteps:=2000000) only[Ty.w,simprocAttr,g1,g3,l1])|(refine hK _ _ ?_;clear hK;try simp only[pst0,simprocAttr]))
    all_goals simp only[Bool.false_or]
end Go.Proofs.Ytjeolbgpllbemaa
namespace Go.AM
open Go.ChangeShapes Go.WideShapes
def partsT(P:Program)(t:TypeId):List (Nat × TypeId):=match P.underlying t with
 |some (.struct fs)=>fs.toList.map fun f=>(f.offset,f.type)
 |some (.array n e)=>(List.range n).map fun i=>(i*P.cellsOf e,e)
 |_=>[]
def inRow(P:Program)(e:Nat):Nat→List (Nat × TypeId)→Bool
 |o,[]=>o==e
 |o,p::l=>p.1==o&&inRow P e (o+P.cellsOf p.2) l
def covB(P:Program):Nat→TypeId→Bool
 |0,_=>false
 |f+1,t=>match P.underlying t with
  |some .bool=>true
  |some (.int _)=>true
  |some .string=>true
  |some (.slice e)=>decide (0<P.cellsOf e)&&covB P f e
  |some (.struct _)=>inRow P (P.cellsOf t) 0 (partsT P t)&&(partsT P t).all fun p=>covB P f p.2
  |some (.array _ _)=>inRow P (P.cellsOf t) 0 (partsT P t)&&(partsT P t).all fun p=>covB P f p.2
  |_=>false
def Arg(P:Program):Nat→TypeId→List PV→Prop
 |0,_,_=>False
 |f+1,t,ps=>match P.underlying t with
  |some .bool=> ∃ b,ps=[.sc (.bool b)]
  |some (.int k)=> ∃ n,(Lit.int k n).wf=true∧ps=[.sc (.int k n)]
  |some .string=> ∃ s:ByteArray,s.size≤reachBytes∧ps=[.sc (.string s)]
  |some (.slice e)=> ∃ rows,ps=[.imm (P.cellsOf e) rows]∧rows.length*P.bytesOf e≤reachBytes∧rows.length≤maxLen∧ ∀ r∈rows,r.length=P.cellsOf e∧Arg P f e r
  |some (.struct _)=>ps.length=P.cellsOf t∧ ∀ p∈partsT P t,Arg P f p.2 ((ps.drop p.1).take (P.cellsOf p.2))
  |some (.array _ _)=>ps.length=P.cellsOf t∧ ∀ p∈partsT P t,Arg P f p.2 ((ps.drop p.1).take (P.cellsOf p.2))
  |_=>False
section
variable {H:Type}{enc:TypeId × Value→H}{P:Program}{w:World}{sp:Nat→Bool}{held:Bool}
def RA(w:World)(ps:List PV)(cs:List Value):Prop:=(∀ v∈cs,v.oneCell'=true)∧ ∀ β n,RepL β n (fun b=>b<w.heap.size) w ps cs
theorem RA.len{ps:List PV}{cs:List Value}(h:RA w ps cs):ps.length=cs.length:=(h.2 ⟨fun _=>⟨none,0,0,0⟩,fun _=>False⟩ 0).len
theorem RA.append{ps ps':List PV}{cs cs':List Value}(h:RA w ps cs)(k:RA w ps' cs'):RA w (ps++ps') (cs++cs'):=
 ⟨fun v hv=>by exact(List.mem_append.1 hv).elim (h.1 v) (k.1 v),fun β n=>(h.2 β n).append (k.2 β n)⟩
theorem inRow_le{e:Nat}:(l:List (Nat × TypeId))→(o:Nat)→inRow P e o l=true→o≤e∧ ∀ p∈l,o≤p.1∧p.1+P.cellsOf p.2≤e
 |[],o,h=>by simp[inRow]at h;simp[h]
 |p::l,o,h=>by
  simp only[inRow,Bool.and_eq_true,beq_iff_eq]at h
  obtain⟨h1,h2⟩:=inRow_le l _ h.2
  refine⟨by omega,fun q hq=>?_⟩
  rcases List.mem_cons.1 hq with rfl|hq
  ·omega
  ·have:=h2 q hq;omega
theorem exists_list{α:Type}{R:Nat→α→Prop}:(n:Nat)→(∀ i,i<n→ ∃ x,R i x)→ ∃ l:List α,l.length=n∧ ∀ i x,l[i]? =some x→R i x
 |0,_=>⟨[],rfl,by simp⟩
 |n+1,h=>by
  obtain⟨l,h1,h2⟩:=exists_list n (fun i hi=>h i (by omega))
  obtain⟨x,hx⟩:=h n (by omega)
  refine⟨l++[x],by simp[h1],fun i y hy=>?_⟩
  rw[List.getElem?_append]at hy
  split at hy
  ·exact h2 i y hy
  ·rename_i hi
   have:i=n:=by
    have:=(List.getElem?_eq_some_iff.1 hy).1
    simp at this;omega
   subst this
   rw[h1]at hy
   simp at hy
   subst hy;exact hx
theorem weightsAll_mem{e:TypeId}{n:Nat}:{ds:List (DataW H)}→{i:Nat}→{d:DataW H}→ds[i]? =some d→n∈d.weights P e→n∈DataW.weightsAll P e ds
 |[],_,_,h,_=>by simp at h
 |d0::ds,0,d,h,hn=>by
  simp at h;subst h
  simp only[DataW.weightsAll,List.mem_append];exact .inl hn
 |d0::ds,i+1,d,h,hn=>by
  simp at h
  simp only[DataW.weightsAll,List.mem_append];exact .inr (weightsAll_mem h hn)
theorem sc_RA{v:Value}(h:v.oneCell'=true):RA w [.sc v] [v]:=
 ⟨fun u hu=>by simp at hu;subst hu;exact h,fun β n=>by simp only[RepL,Rep];exact⟨trivial,trivial⟩⟩
end
end Go.AM
namespace Go.AM
open Go.ChangeShapes Go.WideShapes
section
variable {H:Type}{enc:TypeId × Value→H}{P:Program}{w:World}{sp:Nat→Bool}{held:Bool}
def covC(P:Program)(Ts:List TypeId):Bool:=Ts.all fun t=>match P.underlying t with
 |some .bool=>true
 |some (.int _)=>true
 |some .string=>true
 |some (.slice e)=>decide (0<P.cellsOf e)&&Ts.contains e
 |some (.struct _)=>inRow P (P.cellsOf t) 0 (partsT P t)&&(partsT P t).all fun p=>Ts.contains p.2
 |some (.array _ _)=>inRow P (P.cellsOf t) 0 (partsT P t)&&(partsT P t).all fun p=>Ts.contains p.2
 |_=>false
end
end Go.AM
namespace Go.AM
open Go.ChangeShapes Go.WideShapes
section
variable {P:Program}{c:Nat}{t e:TypeId}{ps:List PV}{a:PV}
theorem Arg_int{k:IntKind}(hu:P.underlying t=some (.int k))(h:Arg P (c+1) t ps): ∃ n,(Lit.int k n).wf=true∧ps=[.sc (.int k n)]:=by
 unfold Arg at h;rw[hu]at h;exact h
theorem Arg_slice(hu:P.underlying t=some (.slice e))(h:Arg P (c+1) t ps): ∃ rows,ps=[.imm (P.cellsOf e) rows]∧rows.length*P.bytesOf e≤reachBytes∧rows.length≤maxLen∧ ∀ r∈rows,r.length=P.cellsOf e∧Arg P c e r:=by
 unfold Arg at h;rw[hu]at h;exact h
theorem Arg_struct{fs:Array Field}(hu:P.underlying t=some (.struct fs))(h:Arg P (c+1) t ps):ps.length=P.cellsOf t∧ ∀ p∈partsT P t,Arg P c p.2 ((ps.drop p.1).take (P.cellsOf p.2)):=by
 unfold Arg at h;rw[hu]at h;exact h
theorem rows_map{α:Type}{Q:α→Prop}{f:α→List PV}:(rows:List (List PV))→(∀ r∈rows, ∃ x,Q x∧r=f x)→ ∃ xs:List α,rows=xs.map f∧ ∀ x∈xs,Q x
 |[],_=>⟨[],rfl,by simp⟩
 |r::rows,h=>by
  obtain⟨xs,h1,h2⟩:=rows_map rows (fun q hq=>h q (by simp[hq]))
  obtain⟨x,h3,h4⟩:=h r (by simp)
  refine⟨x::xs,by simp[h1,h4],fun y hy=>?_⟩
  rcases List.mem_cons.1 hy with rfl|hy
  ·exact h3
  ·exact h2 y hy
theorem i64_in{n:Int}(h:(Lit.int .i64 n).wf=true): -9223372036854775808≤n∧n≤9223372036854775807:=by
 simp[Lit.wf,IntKind.min,IntKind.max,IntKind.bits,IntKind.signed]at h
 omega
end
end Go.AM
namespace Go.Proofs.Ytjeolbgpllbemaa
open Go.AM
set_option maxHeartbeats 1000000
set_option maxRecDepth 20000
def recTs:List TypeId:=[29,78,59,9,3,25,22,26,27]
theorem parts57:partsT Try.prog 78=[(0,9),(1,9),(2,3),(3,25),(4,26)]:=by kernel_rfl
theorem parts29:partsT Try.prog 29=[(0,9),(1,9),(2,25),(3,22),(4,26),(5,27)]:=by kernel_rfl
theorem parts99:partsT Try.prog 59=[(0,9),(1,9)]:=by kernel_rfl
theorem co9:Try.prog.cellsOf 9=1:=by kernel_rfl
theorem co3:Try.prog.cellsOf 3=1:=by kernel_rfl
theorem co24:Try.prog.cellsOf 25=1:=by kernel_rfl
theorem co25:Try.prog.cellsOf 22=1:=by kernel_rfl
theorem co26:Try.prog.cellsOf 26=1:=by kernel_rfl
theorem co27:Try.prog.cellsOf 27=1:=by kernel_rfl
theorem co57:Try.prog.cellsOf 78=5:=by kernel_rfl
theorem co29:Try.prog.cellsOf 29=6:=by kernel_rfl
theorem co99:Try.prog.cellsOf 59=2:=by kernel_rfl
theorem by9:0<Try.prog.bytesOf 9:=by rw[show Try.prog.bytesOf 9=16 by kernel_rfl];omega
theorem by99:0<Try.prog.bytesOf 59:=by rw[show Try.prog.bytesOf 59=32 by kernel_rfl];omega
theorem by57:0<Try.prog.bytesOf 78:=by rw[show Try.prog.bytesOf 78=88 by kernel_rfl];omega
theorem by29:0<Try.prog.bytesOf 29:=by rw[show Try.prog.bytesOf 29=128 by kernel_rfl];omega
theorem len_le{n b:Nat}(h:n*b≤reachBytes)(hb:0<b):n≤bigN:=by
 have:=Nat.le_mul_of_pos_right n hb
 unfold reachBytes at h
 unfold bigN
 omega
theorem arg_str{c:Nat}{ps:List PV}(h:Arg Try.prog c 9 ps): ∃ s:ByteArray,s.size≤bigN∧ps=[sPV s]:=by
 cases c with
 |zero=>simp[Arg]at h
 |succ c=>
  unfold Arg at h
  rw[Try.underlying9]at h
  obtain⟨s,h1,h2⟩:=h
  exact⟨s,by unfold reachBytes at h1;unfold bigN;omega,h2⟩
theorem arg_i64{c:Nat}{ps:List PV}(h:Arg Try.prog c 3 ps): ∃ n:Int,(-9223372036854775808≤n∧n≤9223372036854775807)∧ps=[.sc (.int .i64 n)]:=by
 cases c with
 |zero=>simp[Arg]at h
 |succ c=>
  obtain⟨n,h1,h2⟩:=Arg_int Try.underlying3 h
  exact⟨n,i64_in h1,h2⟩
theorem arg_strs{c:Nat}{ps:List PV}(h:Arg Try.prog c 25 ps): ∃ l:List ByteArray,(l.length≤bigN∧ ∀ a∈l,a.size≤bigN)∧ps=[.imm 1 (strRows l)]:=by
 cases c with
 |zero=>simp[Arg]at h
 |succ c=>
  obtain⟨rows,rfl,h1,_,h2⟩:=Arg_slice Try.underlying25 h
  obtain⟨xs,rfl,h3⟩:=rows_map (Q:=fun s:ByteArray=>s.size≤bigN) (f:=fun s=>[sPV s]) rows (fun r hr=>arg_str (h2 r hr).2)
  refine⟨xs,⟨len_le (by simpa using h1) by9,h3⟩,?_⟩
  rw[co9];try rfl
theorem arg_pm{c:Nat}{ps:List PV}(h:Arg Try.prog c 59 ps): ∃ p:Pm,p.ok∧ps=pmRow p:=by
 cases c with
 |zero=>simp[Arg]at h
 |succ c=>
  obtain⟨h1,h2⟩:=Arg_struct Try.underlying59 h
  rw[co99]at h1
  rw[parts99]at h2
  match ps,h1,h2 with
  |[p0,p1],_,h2=>
   have a0:=h2 (0,9) (by simp)
   have a1:=h2 (1,9) (by simp)
   simp only[co9,List.drop_zero,List.drop_succ_cons,List.take_succ_cons,List.take_zero]at a0 a1
   obtain⟨s,hs,e1⟩:=arg_str a0
   obtain⟨t,ht,e2⟩:=arg_str a1
   simp at e1 e2
   exact⟨⟨s,t⟩,⟨hs,ht⟩,by simp[pmRow,e1,e2]⟩
theorem arg_pms{c:Nat}{ps:List PV}(h:Arg Try.prog c 22 ps): ∃ l:List Pm,(l.length≤bigN∧ ∀ a∈l,a.ok)∧ps=[.imm 2 (pmRows l)]:=by
 cases c with
 |zero=>simp[Arg]at h
 |succ c=>
  obtain⟨rows,rfl,h1,_,h2⟩:=Arg_slice Try.underlying22 h
  obtain⟨xs,rfl,h3⟩:=rows_map (Q:=Pm.ok) (f:=pmRow) rows (fun r hr=>arg_pm (h2 r hr).2)
  refine⟨xs,⟨len_le (by simpa using h1) by99,h3⟩,?_⟩
  rw[co99];try rfl
theorem arg_ex: ∀ (c:Nat){ps:List PV},Arg Try.prog c 78 ps→ ∃ e:Ex,e.ok∧ps=e.cells:=by
 intro c
 induction c using Nat.strongRecOn with
 |_ c ih=>
  intro ps h
  cases c with
  |zero=>simp[Arg]at h
  |succ c=>
   obtain⟨h1,h2⟩:=Arg_struct Try.underlying78 h
   rw[co57]at h1
   rw[parts57]at h2
   match ps,h1,h2 with
   |[p0,p1,p2,p3,p4],_,h2=>
    have a0:=h2 (0,9) (by simp)
    have a1:=h2 (1,9) (by simp)
    have a2:=h2 (2,3) (by simp)
    have a3:=h2 (3,25) (by simp)
    have a4:=h2 (4,26) (by simp)
    simp only[co9,co3,co24,co26,List.drop_zero,List.drop_succ_cons,List.take_succ_cons,List.take_zero]at a0 a1 a2 a3 a4
    obtain⟨op,hop,e0⟩:=arg_str a0
    obtain⟨name,hname,e1⟩:=arg_str a1
    obtain⟨n,hn,e2⟩:=arg_i64 a2
    obtain⟨args,hargs,e3⟩:=arg_strs a3
    cases c with
    |zero=>simp[Arg]at a4
    |succ c=>
     obtain⟨rows,e4,h3,_,h4⟩:=Arg_slice Try.underlying26 a4
     obtain⟨xs,rfl,h5⟩:=rows_map (Q:=Ex.ok) (f:=Ex.cells) rows (fun r hr=>ih c (by omega) (h4 r hr).2)
     rw[co57]at e4
     simp at e0 e1 e2 e3 e4
     refine⟨.mk op name n args xs,?_,?_⟩
     ·simp only[Ex.ok]
      exact⟨hop,hname,hn,hargs,len_le (by simpa using h3) by57,Ex.oks_iff.2 h5⟩
     ·simp only[Ex.cells,e0,e1,e2,e3,e4,Ex.rows_map]
theorem arg_exs{c:Nat}{ps:List PV}(h:Arg Try.prog c 26 ps): ∃ l:List Ex,(l.length≤bigN∧Ex.oks l)∧ps=[.imm 5 (Ex.rows l)]:=by
 cases c with
 |zero=>simp[Arg]at h
 |succ c=>
  obtain⟨rows,rfl,h1,_,h2⟩:=Arg_slice Try.underlying26 h
  obtain⟨xs,rfl,h3⟩:=rows_map (Q:=Ex.ok) (f:=Ex.cells) rows (fun r hr=>arg_ex c (h2 r hr).2)
  refine⟨xs,⟨len_le (by simpa using h1) by57,Ex.oks_iff.2 h3⟩,?_⟩
  rw[co57,Ex.rows_map]
theorem arg_fm: ∀ (c:Nat){ps:List PV},Arg Try.prog c 29 ps→ ∃ f:Fm,f.ok∧ps=f.cells:=by
 intro c
 induction c using Nat.strongRecOn with
 |_ c ih=>
  intro ps h
  cases c with
  |zero=>simp[Arg]at h
  |succ c=>
   obtain⟨h1,h2⟩:=Arg_struct Try.underlying29 h
   rw[co29]at h1
   rw[parts29]at h2
   match ps,h1,h2 with
   |[p0,p1,p2,p3,p4,p5],_,h2=>
    have a0:=h2 (0,9) (by simp)
    have a1:=h2 (1,9) (by simp)
    have a2:=h2 (2,25) (by simp)
    have a3:=h2 (3,22) (by simp)
    have a4:=h2 (4,26) (by simp)
    have a5:=h2 (5,27) (by simp)
    simp only[co9,co24,co25,co26,co27,List.drop_zero,List.drop_succ_cons,List.take_succ_cons,List.take_zero]at a0 a1 a2 a3 a4 a5
    obtain⟨op,hop,e0⟩:=arg_str a0
    obtain⟨name,hname,e1⟩:=arg_str a1
    obtain⟨args,hargs,e2⟩:=arg_strs a2
    obtain⟨params,hparams,e3⟩:=arg_pms a3
    obtain⟨exprs,hexprs,e4⟩:=arg_exs a4
    cases c with
    |zero=>simp[Arg]at a5
    |succ c=>
     obtain⟨rows,e5,h3,_,h4⟩:=Arg_slice Try.underlying27 a5
     obtain⟨xs,rfl,h5⟩:=rows_map (Q:=Fm.ok) (f:=Fm.cells) rows (fun r hr=>ih c (by omega) (h4 r hr).2)
     rw[co29]at e5
     simp at e0 e1 e2 e3 e4 e5
     refine⟨.mk op name args params exprs xs,?_,?_⟩
     ·simp only[Fm.ok]
      exact⟨hop,hname,hargs,hparams,hexprs,len_le (by simpa using h3) by29,Fm.oks_iff.2 h5⟩
     ·simp only[Fm.cells,e0,e1,e2,e3,e4,e5,Fm.rows_map]
end Go.Proofs.Ytjeolbgpllbemaa
namespace Go.Proofs.Ytjeolbgpllbemaa
open Go.AM
set_option maxHeartbeats 2000000
set_option maxRecDepth 20000
theorem bEq_refl(a:ByteArray):bEq a a=true:=by simp[bEq]
theorem pmsEq_refl: ∀ l:List Pm,pmsEq l l=true
 |[]=>rfl
 |a::l=>by simp[pmsEq,pmEq,bEq_refl,pmsEq_refl l]
end Go.Proofs.Ytjeolbgpllbemaa
namespace Go.AM
def mnO:Option Nat→Option Nat→Option Nat
 |none,b=>b
 |some a,none=>some a
 |some a,some b=>if a≤b then some a else some b
def Tch(q:Option Nat)(h h':Heap):Prop:=match q with
 |none=>h'=h
 |some m=>h.next≤h'.next∧ ∀ id,id<m→h'.obj id=h.obj id
theorem Tch.trans{q q':Option Nat}{h h1 h':Heap}(a:Tch q h h1)(b:Tch q' h1 h'):Tch (mnO q q') h h':=by
 cases q with
 |none=>simp only[Tch]at a;subst a;simpa only[mnO]using b
 |some m=>
  cases q' with
  |none=>simp only[Tch]at b;subst b;simpa only[mnO]using a
  |some m'=>
   simp only[Tch]at a b
   simp only[mnO]
   split<;>simp only[Tch]<;>refine⟨by omega,fun id hid=>?_⟩
   ·rw [b.2 id (by omega),a.2 id hid]
   ·rw [b.2 id hid,a.2 id (by omega)]
def ptrOf:PV→Nat
 | .ptr id _ _=>id
 |_=>0
def mapOf:PV→Nat
 | .mp id=>id
 |_=>0
def ownOf(n:Nat):PV→Nat
 | .own id _ _=>if id≤n then id else n
 |_=>n
def tchO(op:Op)(ρ:Operand→PV)(h:Heap):Nat:=match op with
 | .store _ a _=>ptrOf (ρ a)
 | .mapUpdate _ x _ _=>mapOf (ρ x)
 | .call {callee:= .builtin .append,args:=args,.. }=>(match args.toList with
  |x::_=>ownOf h.next (ρ x)
  |[]=>0)
 |_=>h.next
theorem tch_new{h:Heap}{o:AObj}:Tch (some h.next) h (h.new o):=by
 simp only[Tch,new_next]
 exact⟨by omega,fun id hid=>by rw[new_obj,if_neg (by omega)]⟩
theorem tch_set{h:Heap}{i:Nat}{o:AObj}:Tch (some i) h (h.set i o):=by
 simp only[Tch,set_next]
 exact⟨by omega,fun id hid=>by rw[set_obj,if_neg (by omega)]⟩
theorem tch_id{h:Heap}{m:Nat}:Tch (some m) h h:=⟨Nat.le_refl _,fun _ _=>rfl⟩
theorem app_tch{z bytes:Nat}{h h':Heap}{x y v:PV}(ha:app z bytes h x y=some (v,h')):Tch (some (ownOf h.next x)) h h':=by
 unfold app at ha
 split at ha
 case isFalse=>simp at ha
 split at ha
 case h_2=>simp at ha
 rename_i nw h1 old hv ht
 split at ha
 case isFalse=>simp at ha
 simp only[Option.some.injEq,Prod.mk.injEq]at ha
 obtain⟨_,rfl⟩:=ha
 unfold isTail at ht
 split at ht
 ·simp only[Option.some.injEq,Prod.mk.injEq]at ht;obtain⟨rfl,rfl⟩:=ht;exact tch_new
 ·simp only[Option.some.injEq,Prod.mk.injEq]at ht;obtain⟨rfl,rfl⟩:=ht;exact tch_new
 ·split at ht
  case h_2=>simp at ht
  split at ht
  case isFalse=>simp at ht
  simp only[Option.some.injEq,Prod.mk.injEq]at ht;obtain⟨rfl,rfl⟩:=ht
  simp only[Tch,new_next,kill_next,ownOf]
  refine⟨by omega,fun id hid=>?_⟩
  rw[new_obj,kill_next]
  split at hid
  ·rw [if_neg (by omega),kill_obj,if_neg (by omega)]
  ·rw [if_neg (by omega),kill_obj,if_neg (by omega)]
 ·simp at ht
theorem wr_tch{h h':Heap}{vc:List PV}{p:PV}(hw:wr h vc p=some h'):Tch (some (ptrOf p)) h h':=by
 cases p with
 |ptr id i f=>
  simp only[wr]at hw
  split at hw
  ·split at hw
   ·split at hw
    ·simp at hw;subst hw;exact tch_set
    ·simp at hw
   ·simp at hw
  ·simp at hw
 |_=>simp[wr]at hw
theorem eff_tch{P:Program}{ow:Bool}{op:Op}{ρ:Operand→PV}{h h':Heap}{v:PV}(he:eff P ow op ρ h=some (v,h')):Tch (some (tchO op ρ h)) h h':=by
  unfold eff at he
  split at he
  all_goals(repeat'(split at he))
  all_goals first
    |(simp[Option.bind_eq_some_iff,Option.map_eq_some_iff]at he;done)
    |(simp only[Option.some.injEq,Prod.mk.injEq]at he;obtain⟨_,rfl⟩:=he;exact tch_id)
    |(simp only[Option.some.injEq,Prod.mk.injEq]at he;obtain⟨_,rfl⟩:=he;exact tch_new)
    |(simp only[Option.map_eq_some_iff,Prod.mk.injEq]at he;obtain⟨_,_,_,rfl⟩:=he;exact tch_id)
    |(simp[Option.bind_eq_some_iff,Option.map_eq_some_iff]at he;grind [tch_id,tch_new,tch_set])
    | (simp only [Option.bind_eq_some_iff] at he
       obtain⟨_,_,he⟩:=he
       (first
         | (split at he
            · simp only[Option.some.injEq,Prod.mk.injEq]at he;obtain⟨_,rfl⟩:=he;exact tch_new
            · simp at he)
         | (obtain ⟨_, _, he⟩ := he
            split at he
            · simp only [Option.bind_eq_some_iff] at he
              obtain⟨_,_,he⟩:=he
              simp only[Option.some.injEq,Prod.mk.injEq]at he;obtain⟨_,rfl⟩:=he;exact tch_new
            · simp at he)
         | (obtain ⟨_, _, _, _, _, _, he⟩ := he
            split at he
            · simp only[Option.some.injEq,Prod.mk.injEq]at he;obtain⟨_,rfl⟩:=he;exact tch_new
            · simp at he)
         | (split at he
            · simp only [Option.map_eq_some_iff, Prod.mk.injEq] at he
              obtain⟨_,hw,_,rfl⟩:=he
              exact wr_tch hw
            · simp at he)))
    |skip
  · rename_i hid _ _ _ _
    simp only[Option.bind_eq_some_iff]at he
    obtain⟨_,_,he⟩:=he
    split at he
    · simp only [Option.map_eq_some_iff, Prod.mk.injEq] at he
      obtain⟨es',_,_,rfl⟩:=he
      simp only[tchO]
      simp only[*,mapOf]
      exact tch_set
    · simp at he
  · rename_i hl htu
    simp only[Option.bind_eq_some_iff]at he
    obtain⟨_,_,he⟩:=he
    have:=app_tch he
    simp only[tchO]
    simp only[*]
mutual
def inNb(n:Nat):PV→Bool
 | .sc _=>true
 | .ptr id _ _=>decide (id<n)
 | .cptr cs=>inNLb n cs
 | .own id _ _=>decide (id<n)
 | .imm _ rows=>inNRb n rows
 | .emp=>true
 | .mp id=>decide (id<n)
 | .agg cs=>inNLb n cs
 | .tup cs=>inNLb n cs
 | .fn _ a b=>inNLb n a&&inNLb n b
 | .ab _ _ _ _ _=>true
def inNLb(n:Nat):List PV→Bool
 |[]=>true
 |p::ps=>inNb n p&&inNLb n ps
def inNRb(n:Nat):List (List PV)→Bool
 |[]=>true
 |r::rs=>inNLb n r&&inNRb n rs
end
mutual
theorem inNb_ok{n:Nat}:(p:PV)→inNb n p=true→inN n p
 | .sc _,_=>by simp only[inN]
 | .ptr _ _ _,h=>by simp only[inNb,decide_eq_true_eq]at h;simpa only[inN]using h
 | .cptr cs,h=>by simp only[inNb]at h;simp only[inN];exact inNLb_ok cs h
 | .own _ _ _,h=>by simp only[inNb,decide_eq_true_eq]at h;simpa only[inN]using h
 | .imm _ rows,h=>by simp only[inNb]at h;simp only[inN];exact inNRb_ok rows h
 | .emp,_=>by simp only[inN]
 | .mp _,h=>by simp only[inNb,decide_eq_true_eq]at h;simpa only[inN]using h
 | .agg cs,h=>by simp only[inNb]at h;simp only[inN];exact inNLb_ok cs h
 | .tup cs,h=>by simp only[inNb]at h;simp only[inN];exact inNLb_ok cs h
 | .fn _ a b,h=>by simp only[inNb,Bool.and_eq_true]at h;simp only[inN];exact⟨inNLb_ok a h.1,inNLb_ok b h.2⟩
 | .ab _ _ _ _ _,_=>by simp only[inN]
theorem inNLb_ok{n:Nat}:(l:List PV)→inNLb n l=true→inNL n l
 |[],_=>by simp only[inNL]
 |p::ps,h=>by simp only[inNLb,Bool.and_eq_true]at h;simp only[inNL];exact⟨inNb_ok p h.1,inNLb_ok ps h.2⟩
theorem inNRb_ok{n:Nat}:(l:List (List PV))→inNRb n l=true→inNR n l
 |[],_=>by simp only[inNR]
 |p::ps,h=>by simp only[inNRb,Bool.and_eq_true]at h;simp only[inNR];exact⟨inNLb_ok p h.1,inNRb_ok ps h.2⟩
end
mutual
def frzP(h':Heap)(n:Nat):Nat→PV→Option PV
 |0,_=>none
 |k+1,p=>match p with
  | .sc v=>some (.sc v)
  | .ptr id i f=>if id<n then some (.ptr id i f)else match h'.obj id with
   |some (.arr _ rows)=>(match rows[i]? with
    |some q=>(frzL h' n k (q.drop f)).map .cptr
    |none=>none)
   |_=>none
  | .own id off len=>if id<n then some (.own id off len)else match h'.obj id with
   |some (.arr z rows)=>if off+len≤rows.length then(frzR h' n k ((rows.drop off).take len)).map (.imm z)else none
   |_=>none
  | .imm z rows=>if inNRb n rows=true then some (.imm z rows)else none
  | .cptr cs=>if inNLb n cs=true then some (.cptr cs)else none
  | .emp=>some .emp
  | .mp id=>if id<n then some (.mp id)else none
  | .agg cs=>(frzL h' n k cs).map .agg
  | .tup cs=>(frzL h' n k cs).map .tup
  | .fn f a b=>if(inNLb n a&&inNLb n b)=true then some (.fn f a b)else none
  | .ab k lo hi m r=>some (.ab k lo hi m r)
def frzL(h':Heap)(n:Nat):Nat→List PV→Option (List PV)
 |0,_=>none
 |_+1,[]=>some []
 |k+1,p::ps=>match frzP h' n k p with
  |some q=>(frzL h' n k ps).map (q::·)
  |none=>none
def frzR(h':Heap)(n:Nat):Nat→List (List PV)→Option (List (List PV))
 |0,_=>none
 |_+1,[]=>some []
 |k+1,p::ps=>match frzL h' n k p with
  |some q=>(frzR h' n k ps).map (q::·)
  |none=>none
end
mutual
theorem frzP_ok{h':Heap}{n:Nat}: ∀ (k:Nat)(p:PV){r:PV},frzP h' n k p=some r→FrzTo n h' r p
 |0,_,_,h=>by simp[frzP]at h
 |k+1,p,r,h=>by
  unfold frzP at h
  split at h
  ·simp at h;subst h;simp only[FrzTo]
  ·split at h
   ·rename_i hid;simp at h;subst h;simp only[FrzTo];exact⟨trivial,hid⟩
   ·rename_i id i f hid
    split at h
    ·rename_i z rows hob
     split at h
     ·rename_i q hq
      simp only[Option.map_eq_some_iff]at h
      obtain⟨cs,hc,rfl⟩:=h
      simp only[FrzTo]
      exact .inr ⟨id,i,f,z,rows,q,rfl,by omega,hob,hq,frzL_ok k _ hc⟩
     ·simp at h
    ·simp at h
  ·split at h
   ·rename_i hid;simp at h;subst h;simp only[FrzTo];exact⟨trivial,hid⟩
   ·rename_i id off len hid
    split at h
    ·rename_i z rows hob
     split at h
     ·rename_i hle
      simp only[Option.map_eq_some_iff]at h
      obtain⟨rs,hc,rfl⟩:=h
      simp only[FrzTo]
      exact .inr (.inr ⟨id,off,len,rows,rfl,by omega,hob,hle,frzR_ok k _ hc⟩)
     ·simp at h
    ·simp at h
  ·split at h
   ·rename_i hi;simp at h;subst h;simp only[FrzTo];exact .inl ⟨trivial,inNRb_ok _ hi⟩
   ·simp at h
  ·split at h
   ·rename_i hi;simp at h;subst h;simp only[FrzTo];exact .inl ⟨trivial,inNLb_ok _ hi⟩
   ·simp at h
  ·simp at h;subst h;simp only[FrzTo]
  ·split at h
   ·rename_i hid;simp at h;subst h;simp only[FrzTo];exact⟨trivial,hid⟩
   ·simp at h
  ·simp only[Option.map_eq_some_iff]at h
   obtain⟨cs,hc,rfl⟩:=h
   simp only[FrzTo]
   exact⟨_,rfl,frzL_ok k _ hc⟩
  ·simp only[Option.map_eq_some_iff]at h
   obtain⟨cs,hc,rfl⟩:=h
   simp only[FrzTo]
   exact⟨_,rfl,frzL_ok k _ hc⟩
  ·split at h
   ·rename_i hi
    simp only[Bool.and_eq_true]at hi
    simp at h;subst h;simp only[FrzTo];exact⟨trivial,inNLb_ok _ hi.1,inNLb_ok _ hi.2⟩
   ·simp at h
  ·simp at h;subst h;simp only[FrzTo]
theorem frzL_ok{h':Heap}{n:Nat}: ∀ (k:Nat)(l:List PV){r:List PV},frzL h' n k l=some r→FrzL n h' r l
 |0,_,_,h=>by simp[frzL]at h
 |k+1,[],r,h=>by simp[frzL]at h;subst h;simp only[FrzL]
 |k+1,p::ps,r,h=>by
  unfold frzL at h
  split at h
  ·rename_i q hq
   simp only[Option.map_eq_some_iff]at h
   obtain⟨qs,hc,rfl⟩:=h
   simp only[FrzL]
   exact⟨frzP_ok k p hq,frzL_ok k ps hc⟩
  ·simp at h
theorem frzR_ok{h':Heap}{n:Nat}: ∀ (k:Nat)(l:List (List PV)){r:List (List PV)},frzR h' n k l=some r→FrzR n h' r l
 |0,_,_,h=>by simp[frzR]at h
 |k+1,[],r,h=>by simp[frzR]at h;subst h;simp only[FrzR]
 |k+1,p::ps,r,h=>by
  unfold frzR at h
  split at h
  ·rename_i q hq
   simp only[Option.map_eq_some_iff]at h
   obtain⟨qs,hc,rfl⟩:=h
   simp only[FrzR]
   exact⟨frzL_ok k p hq,frzR_ok k ps hc⟩
  ·simp at h
end
def dropB(q:Option Nat)(n:Nat):Bool:=match q with
 |none=>true
 |some t=>decide (n≤t)
def endS:Option (Exit × Slots × Option Nat × Heap)→Option (Slots × Option Nat × Heap)
 |some (.normal,r)=>some r
 |some (.ret,r)=>some r
 |_=>none
theorem endS_some{x:Option (Exit × Slots × Option Nat × Heap)}{r:Slots × Option Nat × Heap}(h:endS x=some r): ∃ e,(e= .normal∨e= .ret)∧x=some (e,r):=by
 unfold endS at h
 split at h
 ·simp at h;subst h;exact⟨_,.inl rfl,rfl⟩
 ·simp at h;subst h;exact⟨_,.inr rfl,rfl⟩
 ·simp at h
abbrev CallR2:=FuncId→List PV→Heap→Option (PV × Option Nat × Heap)
section
variable (P:Program)(wf:FuncId→Bool)(own:FuncId→Nat→Bool)(ext:FuncId→List PV→Heap→Option PV)
def xop2(call:CallR2)(ow:Nat→Bool)(o:Oper)(ρ:Operand→PV)(h:Heap):Option (PV × Option Nat × Heap):=
 match callee ρ o.op with
 |some (f,args)=>call f args h
 |none=>match eff P (o.dst.any ow) o.op ρ h with
  |some (v,h')=>some (v,(if isW ow wf o=true then some (tchO o.op ρ h)else none),h')
  |none=>none
def xagain2(call:CallR2)(ow:Nat→Bool)(o:Oper)(ρ:Operand→PV)(h:Heap)(v:PV):Bool:=
 match xop2 P wf call ow o ρ h with
 |some (v',q,_)=>q.isNone&&pvEq v' v
 |none=>false
def xl2(call:CallR2)(ow:Nat→Bool)(n:Nat)(ops:List Oper):List Oper→Slots→Option Nat→Heap→Option (Slots × Option Nat × Heap)
 |[],s,q,h=>some (s,q,h)
 | o :: rest, s, q, h => if o.dst.all (fun d => decide (d < n)) = true then
   match wantedB ops s o with
   |none=>none
   |some false=>xl2 call ow n ops rest (updO s o.dst (.sc undef)) q h
   |some true=>match xop2 P wf call ow o (pev s) h with
    |some (v,q',h')=>xl2 call ow n ops rest (updO s o.dst v) (mnO q q') h'
    |none=>none
  else none
def xopR(call:CallR2)(ow:Nat→Bool)(id:Nat)(o:Oper)(ρ:Operand→PV)(h:Heap):Option (PV × Option Nat × Heap):=
 match o.op with
 | .alloc t=>match zeroT P t with
  |some zs=>if 0<zs.length then some (.ptr id 0 0,some id,h.set id (.arr zs.length [zs.map .sc]))else none
  |none=>none
 |_=>xop2 P wf call ow o ρ h
def xd2(call:CallR2)(ow:Nat→Bool)(n:Nat)(ops:List Oper):Nat→List Oper→List (Nat × Oper × Slots × PV)→List (Nat × Heap)→Slots→Option Nat→Heap→Option (Slots × Option Nat × Heap)
 |_,[],_,_,s,q,h=>some (s,q,h)
 | k, o :: rest, past, hist, s, q, h => if o.dst.all (fun d => decide (d < n)) = true then
   match wantedB ops s o with
   |none=>none
   |some false=>xd2 call ow n ops (k+1) rest past hist (updO s o.dst (.sc undef)) q h
   |some true=>match xop2 P wf call ow o (pev s) h with
    |none=>none
    |some (v,q',h')=>
     if isW ow wf o=true then
      (if past.all (fun x=>pre ops x.1 k||xagain2 P wf call ow x.2.1 (pev x.2.2.1) h' x.2.2.2)=true then xd2 call ow n ops (k+1) rest past ((k,h)::hist) (updO s o.dst v) (mnO q q') h' else none)
     else if q'.isNone=true then
      (if hist.all (fun x=>pre ops x.1 k||xagain2 P wf call ow o (pev s) x.2 v)=true then xd2 call ow n ops (k+1) rest ((k,o,s,v)::past) hist (updO s o.dst v) q h else none)
     else none
  else none
def xd3(call:CallR2)(ow:Nat→Bool)(n:Nat)(ops:List Oper)(base:Nat):Nat→List Oper→List (Nat × Oper × Slots × PV)→List (Nat × Heap)→Slots→Option Nat→Heap→Option (Slots × Option Nat × Heap)
 |_,[],_,_,s,q,h=>some (s,q,h)
 | k, o :: rest, past, hist, s, q, h => if o.dst.all (fun d => decide (d < n)) = true then
   match wantedB ops s o with
   |none=>none
   |some false=>xd3 call ow n ops base (k+1) rest past hist (updO s o.dst (.sc undef)) q h
   |some true=>match xopR P wf call ow (base+k) o (pev s) h with
    |none=>none
    |some (v,q',h')=>
     if isW ow wf o=true then
      (if(past.all (fun x=>pre ops x.1 k||xagain2 P wf call ow x.2.1 (pev x.2.2.1) h' x.2.2.2)&&((List.range ops.length).all fun f=>!(decide (k<f)&&alB ops f)||(h'.obj (base+f)).isNone))=true then xd3 call ow n ops base (k+1) rest past ((k,h)::hist) (updO s o.dst v) (mnO q q') h' else none)
     else if q'.isNone=true then
      (if hist.all (fun x=>pre ops x.1 k||xagain2 P wf call ow o (pev s) x.2 v)=true then xd3 call ow n ops base (k+1) rest ((k,o,s,v)::past) hist (updO s o.dst v) q h else none)
     else none
  else none
def xc2(call:CallR2)(ow:Nat→Bool)(n:Nat):Nat→Code→Slots→Option Nat→Heap→Option (Exit × Slots × Option Nat × Heap)
 |0,_,_,_,_=>none
 |k+1,c,s,q,h=>match c with
  | .skip=>some (.normal,s,q,h)
  | .region _ ops true => if dOk ow wf ops.toList = true then (xd2 P wf call ow n ops.toList 0 ops.toList [] [] s q h).map (Exit.normal, ·)
    else if dOk2 ow wf ops.toList=true then(xd3 P wf call ow n ops.toList h.next 0 ops.toList [] [] s (mnO q (some h.next)) ⟨h.next+ops.toList.length,h.obj⟩).map (Exit.normal,·)
    else none
  | .region _ ops false=>(xl2 P wf call ow n ops.toList ops.toList s q h).map (Exit.normal,·)
  | .seq a b=>match xc2 call ow n k a s q h with
   |some (.normal,s',q',h')=>xc2 call ow n k b s' q' h'
   |r=>r
  | .cond c x y=>match pev s c with
   | .sc (.bool true)=>xc2 call ow n k x s q h
   | .sc (.bool false)=>xc2 call ow n k y s q h
   |_=>none
  | .block id c=>match xc2 call ow n k c s q h with
   |some (.exit id',s',q',h')=>some (if id'=id then .normal else .exit id',s',q',h')
   |r=>r
  | .loop c=>match xc2 call ow n k c s q h with
   |some (.normal,s',q',h')=>xc2 call ow n k (.loop c) s' q' h'
   |r=>r
  | .exit id=>some (.exit id,s,q,h)
  | .ret=>some (.ret,s,q,h)
  |_=>none
def xf2(keep:FuncId→Bool)(m:Nat):Nat→CallR2
  |0,_,_,_=>none
  |k+1,f,args,h=>match ext f args h with
   |some r=>some (r,none,h)
   |none=>match P.funcs[f]? with
    |none=>none
    |some fn=>if hasBody P f=true∧args.length≤fn.ntmps then match fn.body with
        |none=>none
        |some c=>match endS (xc2 P wf (xf2 keep m k) (own f) fn.ntmps m c (slots0 args) none h)with
          |some (s,q,h')=>match resAll P s h' fn.results.toList with
            |none=>none
            |some vs=>if(!(keep f)&&dropB q h.next)=true then(match frzP h' h.next 1000 (resV vs)with
                |some r=>some (r,none,h)
                |none=>some (resV vs,q,h'))else some (resV vs,q,h')
          |none=>none
      else none
end
section
variable {P:Program}{wf:FuncId→Bool}{own:FuncId→Nat→Bool}
def ExtOk2(P:Program)(ext:FuncId→List PV→Heap→Option PV):Prop:= ∀ f args r h,ext f args h=some r→PCall P f args h (fun r' h'=>r'=r∧h'=h)
def CallOk2(P:Program)(call:CallR2):Prop:= ∀ f args h v q h',call f args h=some (v,q,h')→PCall P f args h (fun r h''=>r=v∧h''=h')∧Tch q h h'
theorem xop_ok2{call:CallR2}(hk:CallOk2 P call){ow:Nat→Bool}{o:Oper}{ρ:Operand→PV}{h h':Heap}{v:PV}{q:Option Nat}(hx:xop2 P wf call ow o ρ h=some (v,q,h')):Does P ow o ρ h v h'∧Tch q h h':=by
 unfold xop2 at hx
 unfold Does
 split at hx
 ·rename_i f args hc
  rw[hc]
  exact hk _ _ _ _ _ _ hx
 ·rename_i hc
  rw[hc]
  split at hx
  ·rename_i v1 h1 he
   simp only[Option.some.injEq,Prod.mk.injEq]at hx
   obtain⟨rfl,rfl,rfl⟩:=hx
   refine⟨he,?_⟩
   split
   ·exact eff_tch he
   ·rename_i hw;exact eff_same (by simpa using hw) hc he
  ·simp at hx
theorem xagain_ok2{call:CallR2}(hk:CallOk2 P call){ow:Nat→Bool}{o:Oper}{ρ:Operand→PV}{h:Heap}{v:PV}(hx:xagain2 P wf call ow o ρ h v=true):Does P ow o ρ h v h:=by
 unfold xagain2 at hx
 split at hx
 ·rename_i v' q h' hp
  simp only[Bool.and_eq_true,Option.isNone_iff_eq_none]at hx
  obtain⟨rfl,hx⟩:=hx
  obtain⟨h1,h2⟩:=xop_ok2 hk hp
  simp only[Tch]at h2
  rw[h2,pvEq_eq _ _ hx]at h1
  exact h1
 ·simp at hx
theorem xl_ok2{call:CallR2}(hk:CallOk2 P call){ow:Nat→Bool}{n:Nat}{ops:List Oper}{K:Slots→Heap→Prop}: ∀ (l:List Oper){s s':Slots}{q q':Option Nat}{h h':Heap},xl2 P wf call ow n ops l s q h=some (s',q',h')→
  (K s' h'→lwp P ow n ops l K s h)∧(∀ h0,Tch q h0 h→Tch q' h0 h')
 |[],s,s',q,q',h,h',hx=>by
  simp only[xl2,Option.some.injEq,Prod.mk.injEq]at hx
  obtain⟨rfl,rfl,rfl⟩:=hx
  exact⟨fun hK=>hK,fun h0 hq=>hq⟩
 |o::rest,s,s',q,q',h,h',hx=>by
  unfold xl2 at hx
  split at hx
  ·rename_i hd
   unfold lwp
   split at hx
   ·simp at hx
   ·rename_i hw
    obtain⟨h1,h2⟩:=xl_ok2 hk rest hx
    rw[hw]
    exact⟨fun hK=>⟨hd,by simpa using h1 hK⟩,h2⟩
   ·rename_i hw
    split at hx
    ·rename_i v q1 h1 hp
     obtain⟨d1,d2⟩:=xop_ok2 hk hp
     obtain⟨g1,g2⟩:=xl_ok2 hk rest hx
     rw[hw]
     exact⟨fun hK=>⟨hd,by simpa using d1.owp (g1 hK)⟩,fun h0 hq=>g2 h0 (hq.trans d2)⟩
    ·simp at hx
  ·simp at hx
theorem xd_ok2{call:CallR2}(hk:CallOk2 P call){ow:Nat→Bool}{n:Nat}{ops:List Oper}{K:Slots→Heap→Prop}: ∀ (l:List Oper)(k:Nat){past:List (Nat × Oper × Slots × PV)}{hist:List (Nat × Heap)}{s s':Slots}{q q':Option Nat}{h h':Heap},xd2 P wf call ow n ops k l past hist s q h=some (s',q',h')→
  (K s' h'→drun P ow wf n ops k l (past.map fun x=>(x.1,fun h2=>Does P ow x.2.1 (pev x.2.2.1) h2 x.2.2.2 h2)) hist K s h)∧(∀ h0,Tch q h0 h→Tch q' h0 h')
 |[],k,past,hist,s,s',q,q',h,h',hx=>by
  simp only[xd2,Option.some.injEq,Prod.mk.injEq]at hx
  obtain⟨rfl,rfl,rfl⟩:=hx
  exact⟨fun hK=>hK,fun h0 hq=>hq⟩
 |o::rest,k,past,hist,s,s',q,q',h,h',hx=>by
  unfold xd2 at hx
  split at hx
  ·rename_i hd
   unfold drun
   split at hx
   ·simp at hx
   ·rename_i hw
    obtain⟨h1,h2⟩:=xd_ok2 hk rest (k+1) hx
    rw[hw]
    exact⟨fun hK=>⟨hd,by simpa using h1 hK⟩,h2⟩
   ·rename_i hw
    split at hx
    ·simp at hx
    ·rename_i v q1 h1 hp
     obtain⟨d1,d2⟩:=xop_ok2 hk hp
     rw[hw]
     split at hx
     ·rename_i hiw
      split at hx
      ·rename_i hpast
       obtain⟨g1,g2⟩:=xd_ok2 hk rest (k+1) hx
       refine⟨fun hK=>⟨hd,?_⟩,fun h0 hq=>g2 h0 (hq.trans d2)⟩
       ·simp only[hiw,if_true]
        refine⟨v,h1,d1,?_,g1 hK⟩
        intro x hx1
        obtain⟨y,hy,rfl⟩:=List.mem_map.1 hx1
        have:=List.all_eq_true.1 hpast y hy
        simp only[Bool.or_eq_true]at this
        exact this.imp id (fun t=>xagain_ok2 hk t)
      ·simp at hx
     ·rename_i hiw
      split at hx
      ·rename_i hq1
       split at hx
       ·rename_i hhist
        obtain⟨g1,g2⟩:=xd_ok2 hk rest (k+1) hx
        refine⟨fun hK=>⟨hd,?_⟩,g2⟩
        simp only[hiw,if_true,Bool.false_eq_true,if_false]
        have e1:h1=h:=by rw[Option.isNone_iff_eq_none]at hq1;subst hq1;exact d2
        subst e1
        refine⟨v,d1,?_,g1 hK⟩
        intro x hx1
        have:=List.all_eq_true.1 hhist x hx1
        simp only[Bool.or_eq_true]at this
        exact this.imp id (fun t=>xagain_ok2 hk t)
       ·simp at hx
      ·simp at hx
  ·simp at hx
theorem xopR_ok{call:CallR2}(hk:CallOk2 P call){ow:Nat→Bool}{id:Nat}{o:Oper}{ρ:Operand→PV}{h h':Heap}{v:PV}{q:Option Nat}(hx:xopR P wf call ow id o ρ h=some (v,q,h')):DoesR P ow id o ρ h v h'∧Tch q h h':=by
 unfold xopR at hx
 unfold DoesR
 split at hx
 ·rename_i t hop
  simp only[hop]
  split at hx
  ·rename_i zs hz
   split at hx
   ·rename_i hpos
    simp only[Option.some.injEq,Prod.mk.injEq]at hx
    obtain⟨rfl,rfl,rfl⟩:=hx
    exact⟨⟨zs,hz,hpos,rfl,rfl⟩,tch_set⟩
   ·simp at hx
  ·simp at hx
 ·rename_i hop
  obtain⟨d1,d2⟩:=xop_ok2 hk hx
  refine⟨?_,d2⟩
  split
  ·rename_i t he;exact(hop t he).elim
  ·exact d1
theorem xd_ok3{call:CallR2}(hk:CallOk2 P call){ow:Nat→Bool}{n base:Nat}{ops:List Oper}{K:Slots→Heap→Prop}: ∀ (l:List Oper)(k:Nat){past:List (Nat × Oper × Slots × PV)}{hist:List (Nat × Heap)}{s s':Slots}{q q':Option Nat}{h h':Heap},xd3 P wf call ow n ops base k l past hist s q h=some (s',q',h')→
  (K s' h'→drun2 P ow wf n ops base k l (past.map fun x=>(x.1,fun h2=>Does P ow x.2.1 (pev x.2.2.1) h2 x.2.2.2 h2)) hist K s h)∧(∀ h0,Tch q h0 h→Tch q' h0 h')
 |[],k,past,hist,s,s',q,q',h,h',hx=>by
  simp only[xd3,Option.some.injEq,Prod.mk.injEq]at hx
  obtain⟨rfl,rfl,rfl⟩:=hx
  exact⟨fun hK=>hK,fun h0 hq=>hq⟩
 |o::rest,k,past,hist,s,s',q,q',h,h',hx=>by
  unfold xd3 at hx
  split at hx
  ·rename_i hd
   unfold drun2
   split at hx
   ·simp at hx
   ·rename_i hw
    obtain⟨h1,h2⟩:=xd_ok3 hk rest (k+1) hx
    rw[hw]
    exact⟨fun hK=>⟨hd,by simpa using h1 hK⟩,h2⟩
   ·rename_i hw
    split at hx
    ·simp at hx
    ·rename_i v q1 h1 hp
     obtain⟨d1,d2⟩:=xopR_ok hk hp
     rw[hw]
     split at hx
     ·rename_i hiw
      split at hx
      ·rename_i hpn
       simp only[Bool.and_eq_true]at hpn
       obtain⟨hpast,hnone⟩:=hpn
       obtain⟨g1,g2⟩:=xd_ok3 hk rest (k+1) hx
       refine⟨fun hK=>⟨hd,?_⟩,fun h0 hq=>g2 h0 (hq.trans d2)⟩
       ·simp only[hiw,if_true]
        refine⟨v,h1,d1,fun f hf ha=>?_,?_,g1 hK⟩
        ·have hfl:f<ops.length:=by
          unfold alB at ha
          split at ha
          ·rename_i hq;exact(List.getElem?_eq_some_iff.1 hq).1
          ·simp at ha
         have:=List.all_eq_true.1 hnone f (List.mem_range.2 hfl)
         simpa[hf,ha]using this
        intro x hx1
        obtain⟨y,hy,rfl⟩:=List.mem_map.1 hx1
        have:=List.all_eq_true.1 hpast y hy
        simp only[Bool.or_eq_true]at this
        exact this.imp id (fun t=>xagain_ok2 hk t)
      ·simp at hx
     ·rename_i hiw
      split at hx
      ·rename_i hq1
       split at hx
       ·rename_i hhist
        obtain⟨g1,g2⟩:=xd_ok3 hk rest (k+1) hx
        refine⟨fun hK=>⟨hd,?_⟩,g2⟩
        simp only[hiw,if_true,Bool.false_eq_true,if_false]
        have e1:h1=h:=by rw[Option.isNone_iff_eq_none]at hq1;subst hq1;exact d2
        subst e1
        refine⟨v,(doesR_of (by simpa using hiw)).1 d1,?_,g1 hK⟩
        intro x hx1
        have:=List.all_eq_true.1 hhist x hx1
        simp only[Bool.or_eq_true]at this
        exact this.imp id (fun t=>xagain_ok2 hk t)
       ·simp at hx
      ·simp at hx
  ·simp at hx
theorem xc_ok2{call:CallR2}(hk:CallOk2 P call){ow:Nat→Bool}{n:Nat}: ∀ (m:Nat)(c:Code){s s':Slots}{q q':Option Nat}{h h':Heap}{e:Exit},xc2 P wf call ow n m c s q h=some (e,s',q',h')→
  (∀ Q:Post,Q e s' h'→awp P ow wf n c Q s h)∧(∀ h0,Tch q h0 h→Tch q' h0 h')
 |0,c,s,s',q,q',h,h',e,hx=>by simp[xc2]at hx
 |m+1,c,s,s',q,q',h,h',e,hx=>by
  unfold xc2 at hx
  split at hx
  ·simp only[Option.some.injEq,Prod.mk.injEq]at hx
   obtain⟨rfl,rfl,rfl,rfl⟩:=hx
   exact⟨fun Q hQ=>by simpa only[awp]using hQ,fun h0 hq=>hq⟩
  ·rename_i id ops
   split at hx
   ·rename_i hdo
    simp only[Option.map_eq_some_iff,Prod.mk.injEq]at hx
    obtain⟨⟨s1,q1,h1⟩,hx,rfl,rfl,rfl,rfl⟩:=hx
    have:=fun(Q:Post)=>xd_ok2 (K:=Q .normal) hk _ _ hx
    exact⟨fun Q hQ=>by simp only[awp,if_true];exact⟨_,_,.refl,.inl ⟨hdo,(this Q).1 hQ⟩⟩,(this (fun _ _ _=>True)).2⟩
   ·split at hx
    ·rename_i hdo
     simp only[Option.map_eq_some_iff,Prod.mk.injEq]at hx
     obtain⟨⟨s1,q1,h1⟩,hx,rfl,rfl,rfl,rfl⟩:=hx
     have:=fun(Q:Post)=>xd_ok3 (K:=Q .normal) hk _ _ hx
     refine⟨fun Q hQ=>by simp only[awp,if_true];exact⟨_,_,.refl,.inr (.inl ⟨hdo,(this Q).1 hQ⟩)⟩,fun h0 hq=>(this (fun _ _ _=>True)).2 h0 (hq.trans ?_)⟩
     exact⟨Nat.le_add_right _ _,fun _ _=>rfl⟩
    ·simp at hx
  ·rename_i id ops
   simp only[Option.map_eq_some_iff,Prod.mk.injEq]at hx
   obtain⟨⟨s1,q1,h1⟩,hx,rfl,rfl,rfl,rfl⟩:=hx
   have:=fun(Q:Post)=>xl_ok2 (K:=Q .normal) hk _ hx
   exact⟨fun Q hQ=>by simp only[awp,Bool.false_eq_true,if_false];exact⟨_,_,.refl,(this Q).1 hQ⟩,(this (fun _ _ _=>True)).2⟩
  ·rename_i a b
   split at hx
   ·rename_i s1 q1 h1 ha
    obtain⟨a1,a2⟩:=xc_ok2 hk m a ha
    obtain⟨b1,b2⟩:=xc_ok2 hk m b hx
    exact⟨fun Q hQ=>by simp only[awp];exact a1 _ (b1 Q hQ),fun h0 hq=>b2 h0 (a2 h0 hq)⟩
   ·rename_i hne
    obtain⟨a1,a2⟩:=xc_ok2 hk m a hx
    refine⟨fun Q hQ=>?_,a2⟩
    simp only[awp]
    refine a1 _ ?_
    cases e<;>simp only[Post.seq]<;>first|exact hQ|exact(hne _ _ _ hx).elim
  ·rename_i c x y
   split at hx
   ·rename_i hc
    obtain⟨a1,a2⟩:=xc_ok2 hk m x hx
    exact⟨fun Q hQ=>by simp only[awp,hc,if_true];exact a1 Q hQ,a2⟩
   ·rename_i hc
    obtain⟨a1,a2⟩:=xc_ok2 hk m y hx
    exact⟨fun Q hQ=>by simp only[awp,hc,Bool.false_eq_true,if_false];exact a1 Q hQ,a2⟩
   ·simp at hx
  ·rename_i id c
   split at hx
   ·rename_i id' s1 q1 h1 ha
    obtain⟨a1,a2⟩:=xc_ok2 hk m c ha
    simp only[Option.some.injEq,Prod.mk.injEq]at hx
    obtain⟨rfl,rfl,rfl,rfl⟩:=hx
    refine⟨fun Q hQ=>?_,a2⟩
    simp only[awp]
    refine a1 _ ?_
    simp only[Post.block]
    split<;>rename_i hid<;>simpa only[hid,if_true,if_false]using hQ
   ·rename_i hne
    obtain⟨a1,a2⟩:=xc_ok2 hk m c hx
    refine⟨fun Q hQ=>?_,a2⟩
    simp only[awp]
    refine a1 _ ?_
    cases e<;>simp only[Post.block]<;>first|exact hQ|exact(hne _ _ _ _ hx).elim
  ·rename_i c
   split at hx
   ·rename_i s1 q1 h1 ha
    obtain⟨a1,a2⟩:=xc_ok2 hk m c ha
    obtain⟨b1,b2⟩:=xc_ok2 hk m (.loop c) hx
    refine⟨fun Q hQ=>?_,fun h0 hq=>b2 h0 (a2 h0 hq)⟩
    have:=b1 Q hQ
    simp only[awp]at this⊢
    obtain⟨j,hj⟩:=this
    exact⟨j+1,a1 _ hj⟩
   ·rename_i hne
    obtain⟨a1,a2⟩:=xc_ok2 hk m c hx
    refine⟨fun Q hQ=>?_,a2⟩
    simp only[awp]
    refine⟨1,a1 _ ?_⟩
    cases e<;>simp only[Post.seq]<;>first|exact hQ|exact(hne _ _ _ hx).elim
  ·simp only[Option.some.injEq,Prod.mk.injEq]at hx
   obtain⟨rfl,rfl,rfl,rfl⟩:=hx
   exact⟨fun Q hQ=>by simpa only[awp]using hQ,fun h0 hq=>hq⟩
  ·simp only[Option.some.injEq,Prod.mk.injEq]at hx
   obtain⟨rfl,rfl,rfl,rfl⟩:=hx
   exact⟨fun Q hQ=>by simpa only[awp]using hQ,fun h0 hq=>hq⟩
  ·simp at hx
theorem xf_ok2(hm:P.follows .mixedOrders=true){ext:FuncId→List PV→Heap→Option PV}(hext:ExtOk2 P ext){keep:FuncId→Bool}{m:Nat}: ∀ k,CallOk2 P (xf2 P wf own ext keep m k)
 |0,f,args,h,v,q,h',hx=>by simp[xf2]at hx
 |k+1,f,args,h,v,q,h',hx=>by
  unfold xf2 at hx
  split at hx
  ·rename_i r hr
   simp only[Option.some.injEq,Prod.mk.injEq]at hx
   obtain⟨rfl,rfl,rfl⟩:=hx
   exact⟨hext _ _ _ _ hr,rfl⟩
  split at hx
  ·simp at hx
  ·rename_i fn hf
   split at hx
   case isFalse=>simp at hx
   rename_i hh
   split at hx
   ·simp at hx
   ·rename_i c hb
    split at hx
    case h_2=>simp at hx
    rename_i s q1 h1 hc
    split at hx
    ·simp at hx
    ·rename_i vs hr
     have main:PCall P f args h (fun r h2=>r=resV vs∧h2=h1)∧Tch q1 h h1:=by
      obtain⟨e,he,hc⟩:=endS_some hc
      obtain⟨a1,a2⟩:=xc_ok2 (xf_ok2 hm hext k) m c hc
      refine⟨pcall_body hm hf hb hh.1 hh.2 (a1 _ ?_),a2 h rfl⟩
      rcases he with rfl|rfl<;>simp only[retPost,hr]<;>exact⟨trivial,trivial⟩
     split at hx
     ·rename_i hkp
      simp only[Bool.and_eq_true]at hkp
      split at hx
      ·rename_i r hfr
       simp only[Option.some.injEq,Prod.mk.injEq]at hx
       obtain⟨rfl,rfl,rfl⟩:=hx
       refine⟨pcall_wf hh.1 fun hwf=>PCall.drop (main.1.mono ?_),rfl⟩
       rintro r' h' ⟨rfl,rfl⟩
       have hold: ∀ id,id<h.next→h'.obj id=h.obj id:=by
        intro id hid
        have ht:=main.2
        cases q1 with
        |none=>simp only[Tch]at ht;rw[ht]
        |some t=>
         simp only[Tch]at ht
         have:=hkp.2
         simp[dropB]at this
         exact ht.2 id (by omega)
       refine⟨r,h,⟨rfl,rfl⟩,frzP_ok _ _ hfr,Nat.le_refl _,fun id o ho=>?_⟩
       have hid:=hwf id (by rw[ho];try rfl)
       exact⟨by rw[hold id hid];exact ho,hid,.inl ho⟩
      ·simp only[Option.some.injEq,Prod.mk.injEq]at hx
       obtain⟨rfl,rfl,rfl⟩:=hx
       exact main
     ·simp only[Option.some.injEq,Prod.mk.injEq]at hx
      obtain⟨rfl,rfl,rfl⟩:=hx
      exact main
def xgives2(r:Option (PV × Option Nat × Heap))(v:PV):Bool:=match r with
 |some (u,_,_)=>pvEq u v
 |none=>false
theorem pcall_run2(hm:P.follows .mixedOrders=true){ext:FuncId→List PV→Heap→Option PV}(hext:ExtOk2 P ext){keep:FuncId→Bool}{m k:Nat}{f:FuncId}{args:List PV}{h:Heap}{v:PV}(hx:xgives2 (xf2 P wf own ext keep m k f args h) v=true):PCall P f args h (fun r _=>r=v):=by
 unfold xgives2 at hx
 split at hx
 ·rename_i u q h' hr
  refine((xf_ok2 hm hext k _ _ _ _ _ _ hr).1).mono (fun r h'' hr=>?_)
  rw[hr.1,pvEq_eq _ _ hx]
 ·simp at hx
end
end Go.AM
namespace Go.Proofs.Ytjeolbgpllbemaa
open Go.AM
set_option maxHeartbeats 2000000
set_option maxRecDepth 100000
def pbOwn(f t:Nat):Bool:=([(34,5),(53,10),(999999,5),(8,40),(8,49),(8,67),(24,9)]:List (Nat × Nat)).contains (f,t)
def pbWf(f:Nat):Bool:=false
def pbExt(f:FuncId)(args:List PV)(_:Heap):Option PV:=ext f args
theorem pbExt_ok:ExtOk2 Try.prog pbExt:=fun f args r h hr=>ext_ok f args r h hr
theorem pbAwake_c:PCall Try.prog 7 [] Heap.nil fun r h'=>r= .sc (.bool true)∧h'=Heap.nil:=by
 have h1:PCall Try.prog 7 [] Heap.nil fun r _=>r= .sc (.bool true):=pcall_run2 (wf:=pbWf) (own:=pbOwn) (keep:=fun _=>false) Ty.mixed pbExt_ok (m:=2000) (k:=60) (by kernel_rfl)
 refine PCall.drop (h1.mono ?_)
 rintro r h' rfl
 refine⟨.sc (.bool true),Heap.nil,⟨rfl,rfl⟩,?_,Nat.le_refl _,fun id o ho=>by simp[Heap.nil]at ho⟩
 simp only[FrzTo]
end Go.Proofs.Ytjeolbgpllbemaa
namespace Go.AM
structure Ch where
 kind:Int
 params:List Pm
 cond:Fm
 name:ByteArray
 args:List ByteArray
 value:Ex
structure Pr where
 name:ByteArray
 params:List Pm
structure Fu where
 name:ByteArray
 params:List Pm
 lo:Int
 hi:Int
structure Ac where
 name:ByteArray
 params:List Pm
 cost:Int
 pre:Fm
 changes:List Ch
structure Du where
 name:ByteArray
 params:List Pm
 duration:Int
 start:Fm
 over:Fm
 stop:Fm
 atStart:List Ch
 atStop:List Ch
structure Dm where
 name:ByteArray
 types:List Pm
 constants:List Pm
 predicates:List Pr
 functions:List Fu
 actions:List Ac
 duratives:List Du
def chRow(c:Ch):List PV:=[.sc (.int .i64 c.kind),.imm 2 (pmRows c.params)]++(c.cond.cells++([sPV c.name,.imm 1 (strRows c.args)]++c.value.cells))
def chRows(l:List Ch):List (List PV):=l.map chRow
def prRow(p:Pr):List PV:=[sPV p.name,.imm 2 (pmRows p.params)]
def prRows(l:List Pr):List (List PV):=l.map prRow
def fuRow(f:Fu):List PV:=[sPV f.name,.imm 2 (pmRows f.params),.sc (.int .i64 f.lo),.sc (.int .i64 f.hi)]
def fuRows(l:List Fu):List (List PV):=l.map fuRow
def acRow(a:Ac):List PV:=[sPV a.name,.imm 2 (pmRows a.params),.sc (.int .i64 a.cost)]++(a.pre.cells++[.imm 15 (chRows a.changes)])
def acRows(l:List Ac):List (List PV):=l.map acRow
def duRow(d:Du):List PV:=[sPV d.name,.imm 2 (pmRows d.params),.sc (.int .i64 d.duration)]++(d.start.cells++(d.over.cells++(d.stop.cells++[.imm 15 (chRows d.atStart),.imm 15 (chRows d.atStop)])))
def duRows(l:List Du):List (List PV):=l.map duRow
def Dm.cells(d:Dm):List PV:=[sPV d.name,.imm 2 (pmRows d.types),.imm 2 (pmRows d.constants),.imm 2 (prRows d.predicates),.imm 4 (fuRows d.functions),.imm 10 (acRows d.actions),.imm 23 (duRows d.duratives)]
structure Ch.ok(c:Ch):Prop where
 params:c.params.length≤bigN∧ ∀ a∈c.params,a.ok
 cond:c.cond.ok
 args:c.args.length≤bigN∧ ∀ a∈c.args,a.size≤bigN
 value:c.value.ok
 name:c.name.size≤bigN
 kind: -9223372036854775808≤c.kind∧c.kind≤9223372036854775807
def Chs.ok(l:List Ch):Prop:=l.length≤bigN∧ ∀ a∈l,a.ok
structure Pr.ok(p:Pr):Prop where
 name:p.name.size≤bigN
 params:p.params.length≤bigN∧ ∀ a∈p.params,a.ok
structure Fu.ok(p:Fu):Prop where
 name:p.name.size≤bigN
 params:p.params.length≤bigN∧ ∀ a∈p.params,a.ok
 lo: -9223372036854775808≤p.lo∧p.lo≤9223372036854775807
 hi: -9223372036854775808≤p.hi∧p.hi≤9223372036854775807
structure Ac.ok(a:Ac):Prop where
 name:a.name.size≤bigN
 params:a.params.length≤bigN∧ ∀ p∈a.params,p.ok
 cost: -9223372036854775808≤a.cost∧a.cost≤9223372036854775807
 pre:a.pre.ok
 changes:Chs.ok a.changes
structure Du.ok(a:Du):Prop where
 name:a.name.size≤bigN
 params:a.params.length≤bigN∧ ∀ p∈a.params,p.ok
 duration: -9223372036854775808≤a.duration∧a.duration≤9223372036854775807
 start:a.start.ok
 over:a.over.ok
 stop:a.stop.ok
 atStart:Chs.ok a.atStart
 atStop:Chs.ok a.atStop
structure Dm.ok(d:Dm):Prop where
 name:d.name.size≤bigN
 types:d.types.length≤bigN∧ ∀ a∈d.types,a.ok
 constants:d.constants.length≤bigN∧ ∀ a∈d.constants,a.ok
 predicates:d.predicates.length≤bigN∧ ∀ a∈d.predicates,a.ok
 functions:d.functions.length≤bigN∧ ∀ a∈d.functions,a.ok
 actions:d.actions.length≤bigN∧ ∀ a∈d.actions,a.ok
 duratives:d.duratives.length≤bigN∧ ∀ a∈d.duratives,a.ok
end Go.AM
namespace Go.Proofs.Ytjeolbgpllbemaa
open Go.AM
set_option maxHeartbeats 4000000
set_option maxRecDepth 20000
theorem rparamsSl_c{h:Heap}{l m:List Pm}{p q:PV}(hp:Sl h 2 p (pmRows l))(hq:Sl h 2 q (pmRows m))(hl:l.length≤1099511627776)(hm:m.length≤1099511627776):PCall Try.prog 15 [p,q] h fun r h'=>r= .sc (.bool (pmsEq l m))∧h'=h:=by
 have hll: ∀ H,lenP H p=some l.length:=fun H=>by rw[lenP_sl hp H,pmRows_len]
 have hlm: ∀ H,lenP H q=some m.length:=fun H=>by rw[lenP_sl hq H,pmRows_len]
 have hkA:=hp.lk
 have hkB:=hq.lk
 refine pcall_body (ow:=fun _=>false) (wf:=fun _=>false) Ty.mixed Try.func15 rfl Ty.hb_15 (by rw[Try.ntmps15];simp) ?_
 rw[Try.ntmps15,Try.results15]
 cases hne:((l.length:Int) !=m.length)with
 |true=>
  have:pmsEq l m=false:=pmsEq_len (by simp at hne;omega)
  repeat'(first|refine a_seq fun K hK=>?_|((first|refine a_regionS ?_|refine a_ret ?_);simp(maxSteps:=2000000) only[Ty.w,simprocAttr,hll,hlm,hkA,hkB,hne])|(refine hK _ _ ?_;clear hK;try simp only[pst0,simprocAttr]))
  rw[this]
 |false=>
  have hlen:l.length=m.length:=by simp at hne;omega
  repeat'(first|refine a_seq fun K hK=>?_|(refine a_block ?_)|(refine a_regionS ?_;simp(maxSteps:=2000000) only[Ty.w,simprocAttr,hll,hlm,hkA,hkB,hne])|(refine a_skip ?_;try simp only[pst0,simprocAttr])|(refine a_cond _ (by(try simp(maxSteps:=2000000) only[Ty.w,simprocAttr,hll,hlm,hkA,hkB,hne]);rfl) (fun hb=>?_) (fun hb=>?_)<;>(try simp only[hb0,decide_eq_true_eq,decide_eq_false_iff_not,simprocAttr]at hb)<;>(try(exfalso;omega)))|(refine hK _ _ ?_;clear hK;try simp only[pst0,simprocAttr]))
  refine a_loop (fun c S h'=>h'=h∧S 0=p∧S 1=q∧ ∃ k:Nat,S 5= .sc (.int .i64 k)∧k≤l.length∧c=l.length-k∧pmsEq l m=pmsEq (l.drop k) (m.drop k)) l.length ?_ ?_
  ·simp only[Ty.w,simprocAttr]
   exact⟨0,rfl,by omega,rfl,by simp⟩
  ·rintro c S h' ⟨rfl,g0,g1,k,gk,hkl,rfl,hinv⟩
   by_cases hlt:k<l.length
   ·have hd:decide ((k:Int)<(l.length:Int))=true:=by simp;omega
    have w7:IntKind.i64.wrap ((k:Int)+1)=k+1:=by rw[wrap64 (by omega) (by omega)]
    obtain⟨a,hx⟩: ∃ a,l[k]? =some a:=⟨_,List.getElem?_eq_getElem hlt⟩
    obtain⟨b,hy⟩: ∃ b,m[k]? =some b:=⟨_,List.getElem?_eq_getElem (by omega)⟩
    rw[drop_of_get hx,drop_of_get hy]at hinv
    simp only[pmsEq]at hinv
    obtain⟨px,hpx,hrx⟩:=hp.get _ _ (pmRows_get hx)
    obtain⟨py,hpy,hry⟩:=hq.get _ _ (pmRows_get hy)
    cases he:pmEq a b with
    |false=>
     have he':(a.name.data.toList==b.name.data.toList&&a.type.data.toList==b.type.data.toList)=false:=he
     rw[he,Bool.false_and]at hinv
     repeat'(first|refine a_seq fun K hK=>?_|((first|refine a_regionS ?_|refine a_drawS (by decide+kernel) ?_|refine a_ret ?_);simp(maxSteps:=2000000) only[Ty.w,simprocAttr,g0,g1,gk,hll,hlm,hkA,hkB,hd,hpx,hrx,hpy,hry,he',w7,Bool.not_false,Option.map_some])|(refine a_skip ?_;try simp only[pst0,simprocAttr])|(refine a_cond _ (by(try simp(maxSteps:=2000000) only[Ty.w,simprocAttr,g0,g1,gk,hll,hlm,hkA,hkB,hd,hpx,hrx,hpy,hry,he',w7,Bool.not_false,Option.map_some]);rfl) (fun hb=>?_) (fun hb=>?_)<;>(try simp only[hb0,decide_eq_true_eq,decide_eq_false_iff_not,simprocAttr]at hb)<;>(try(exfalso;omega)))|(refine hK _ _ ?_;clear hK;try simp only[pst0,simprocAttr]))
     rw[hinv]
    |true=>
     have he':(a.name.data.toList==b.name.data.toList&&a.type.data.toList==b.type.data.toList)=true:=he
     rw[he,Bool.true_and]at hinv
     repeat'(first|refine a_seq fun K hK=>?_|(refine a_block ?_)|((first|refine a_regionS ?_|refine a_drawS (by decide+kernel) ?_);simp(maxSteps:=2000000) only[Ty.w,simprocAttr,g0,g1,gk,hll,hlm,hkA,hkB,hd,hpx,hrx,hpy,hry,he',w7,Bool.not_true,Option.map_some])|(refine a_skip ?_;try simp only[pst0,simprocAttr])|(refine a_cond _ (by(try simp(maxSteps:=2000000) only[Ty.w,simprocAttr,g0,g1,gk,hll,hlm,hkA,hkB,hd,hpx,hrx,hpy,hry,he',w7,Bool.not_true,Option.map_some]);rfl) (fun hb=>?_) (fun hb=>?_)<;>(try simp only[hb0,decide_eq_true_eq,decide_eq_false_iff_not,simprocAttr]at hb)<;>(try(exfalso;omega)))|(refine hK _ _ ?_;clear hK;try simp only[pst0,simprocAttr]))
     exact⟨l.length-(k+1),by omega,k+1,by simp,by omega,rfl,hinv⟩
   ·have hd:decide ((k:Int)<(l.length:Int))=false:=by simp;omega
    rw[List.drop_eq_nil_of_le (by omega),List.drop_eq_nil_of_le (by omega)]at hinv
    simp only[pmsEq]at hinv
    repeat'(first|refine a_seq fun K hK=>?_|((first|refine a_regionS ?_|refine a_ret ?_);simp(maxSteps:=2000000) only[Ty.w,simprocAttr,g0,g1,gk,hll,hkA,hd])|(refine a_exit ?_;try simp only[pst0,simprocAttr])|(refine a_cond _ (by(try simp(maxSteps:=2000000) only[Ty.w,simprocAttr,g0,g1,gk,hll,hkA,hd]);rfl) (fun hb=>?_) (fun hb=>?_)<;>(try simp only[hb0,decide_eq_true_eq,decide_eq_false_iff_not,simprocAttr]at hb)<;>(try(exfalso;omega)))|((first|refine hK _ _ ?_|(clear hK;refine hK _ _ ?_));clear hK;try simp only[pst0,simprocAttr]))
    rw[hinv]
theorem pmRows_app(l m:List Pm):pmRows (l++m)=pmRows l++pmRows m:=by simp[pmRows]
theorem pmRows_in(n:Nat)(l:List Pm): ∀ r∈pmRows l, ∀ p∈r, ∃ v,p= .sc v:=by
 intro r hr p hp
 simp only[pmRows,List.mem_map]at hr
 obtain⟨x,_,rfl⟩:=hr
 simp only[pmRow,List.mem_cons,List.not_mem_nil,or_false]at hp
 rcases hp with rfl|rfl
 ·exact ⟨_,rfl⟩
 ·exact ⟨_,rfl⟩
theorem PCall.nil_agg{P:Program}{f:FuncId}{z:Nat}{h:Heap}{K:PV→Heap→Prop}{pre post rest:List PV}(h0: ∀ a cap,PCall P f (.agg (pre++ .sc (.slice a 0 cap)::post)::rest) h K):PCall P f (.agg (pre++ .imm z []::post)::rest) h K:=by
 intro β w vals sm hr
 cases vals with
 |nil=>simp[RepL]at hr
 |cons v vals=>
  simp only[RepL,Rep]at hr
  obtain⟨⟨xs,rfl,h1,h2⟩,h3⟩:=hr
  obtain⟨a,cap,hx⟩:=RepL.nil_split h2
  exact h0 a cap β w _ sm (by simp only[RepL,Rep];exact⟨⟨xs,rfl,h1,hx⟩,h3⟩)
theorem robjects_c{d:Dm}{p:Pb}(hc:d.constants.length≤1048576)(ho:p.objects.length≤1048576)(h:Heap):
  PCall Try.prog 14 [.agg d.cells,.agg p.cells] h fun r h'=>r= .imm 2 (pmRows (d.constants++p.objects))∧h'=h:=by
 refine PCall.frz Ty.hb_14 ?_
 obtain⟨dn,dt,dc,dp,df,da,dd⟩:=d
 obtain⟨pn,pd,po,pi,pv,⟨gop,gname,gargs,gparams,gexprs,gkids⟩⟩:=p
 simp only[Dm.cells,Pb.cells,Fm.cells,List.cons_append,List.nil_append]at hc ho⊢
 have h1:=pmRows_len dc
 have h2:=pmRows_len po
 have hbb:dc.length*32≤140737488355328:=by omega
 have hb2:(dc.length+po.length)*32≤140737488355328:=by omega
 rw[pmRows_app]
 have hin: ∀ r∈pmRows dc++pmRows po, ∀ p∈r, ∃ v,p= .sc v:=by rw[← pmRows_app];exact pmRows_in 0 _
 generalize pmRows dc=RC at h1 hin
 have htk:List.take dc.length RC=RC:=List.take_of_length_le (by omega)
 generalize pmRows po=RO at h2 hin
 refine pcall_body (ow:=fun _=>false) (wf:=fun _=>false) Ty.mixed Try.func14 rfl Ty.hb_14 (by rw[Try.ntmps14];simp) ?_
 rw[Try.ntmps14,Try.results14]
 repeat'(first|refine a_seq fun K hK=>?_|((first|refine a_regionS ?_|refine a_drawS (by decide+kernel) ?_|refine a_ret ?_);simp(maxSteps:=2000000) only[Ty.w,simprocAttr,h1,h2,hbb,hb2,htk,Nat.zero_add,List.nil_append])|(refine hK _ _ ?_;clear hK;try simp only[pst0,simprocAttr])|(with_reducible refine a_past2 (by simp only[List.forall_mem_cons,Ty.w,simprocAttr,h1,h2,hbb,hb2,htk,Nat.zero_add,List.nil_append]<;>(repeat' apply And.intro)<;>first|trivial|exact .inl (by decide+kernel)) ?_;try simp(maxSteps:=2000000) only[Ty.w,simprocAttr,h1,h2,hbb,hb2,htk,Nat.zero_add,List.nil_append])|(rw[if_pos];rotate_left 1;omega;simp(maxSteps:=2000000) only[Ty.w,simprocAttr,h1,h2,hbb,hb2,htk,Nat.zero_add,List.nil_append]))
 have g:Grow h ((h.new (.arr 2 RC)).kill h.next):=((Grow.refl h).new _).kill (Nat.le_refl _)
 exact⟨(Tl.grow (H:=(h.new (.arr 2 RC)).kill h.next) g.le (by rw[List.length_append,h1,h2])).frz hin,g.new _⟩
theorem clone0_none(cap:Nat)(h:Heap):PCall Try.prog 32 [.sc (.slice none 0 cap)] h fun r h'=>r= .sc (.slice none 0 0)∧h'=h:=by
 refine pcall_body (ow:=fun _=>false) (wf:=fun _=>false) Ty.mixed Try.func32 rfl Ty.hb_32 (by rw[Try.ntmps32];simp) ?_
 rw[Try.ntmps32,Try.results32]
 repeat'(first|refine a_seq fun K hK=>?_|((first|refine a_regionS ?_|refine a_ret ?_);simp(maxSteps:=2000000) only[Ty.w,simprocAttr,peq_none])|(refine hK _ _ ?_;clear hK;try simp only[pst0,simprocAttr]))
theorem clone0_some(x:Addr)(cap:Nat)(h:Heap):PCall Try.prog 32 [.sc (.slice (some x) 0 cap)] h fun r h'=>r= .own h.next 0 0∧h'=h.new (.arr 2 []):=by
 refine pcall_body (ow:=fun _=>false) (wf:=fun _=>false) Ty.mixed Try.func32 rfl Ty.hb_32 (by rw[Try.ntmps32];simp) ?_
 rw[Try.ntmps32,Try.results32]
 repeat'(first|refine a_seq fun K hK=>?_|((first|refine a_regionS ?_|refine a_ret ?_);simp(maxSteps:=2000000) only[Ty.w,simprocAttr,peq_some,view_some,zOk_some])|(refine a_skip ?_;try simp only[pst0,simprocAttr])|(refine a_cond _ (by(try simp(maxSteps:=2000000) only[Ty.w,simprocAttr,peq_some,view_some,zOk_some]);rfl) (fun hb=>?_) (fun hb=>?_)<;>(try simp only[hb0,decide_eq_true_eq,decide_eq_false_iff_not,simprocAttr]at hb)<;>(try(exfalso;omega)))|(refine hK _ _ ?_;clear hK;try simp only[pst0,simprocAttr]))
theorem clone1{R:List (List PV)}{n:Nat}(hR:R.length=n+1)(hn:n≤1048576)(h:Heap):PCall Try.prog 32 [.imm 2 R] h fun r h'=>r= .own h.next 0 (n+1)∧h'=h.new (.arr 2 R):=by
 have h0:(0<R.length)=True:=by rw[hR];simp
 have hb:(n+1)*32≤140737488355328:=by omega
 refine pcall_body (ow:=fun _=>false) (wf:=fun _=>false) Ty.mixed Try.func32 rfl Ty.hb_32 (by rw[Try.ntmps32];simp) ?_
 rw[Try.ntmps32,Try.results32]
 repeat'(first|refine a_seq fun K hK=>?_|((first|refine a_regionS ?_|refine a_ret ?_);simp(maxSteps:=2000000) only[Ty.w,simprocAttr,h0,hR,hb,Nat.zero_add])|(refine a_skip ?_;try simp only[pst0,simprocAttr])|(refine a_cond _ (by(try simp(maxSteps:=2000000) only[Ty.w,simprocAttr,h0,hR,hb,Nat.zero_add]);rfl) (fun hb=>?_) (fun hb=>?_)<;>(try simp only[hb0,decide_eq_true_eq,decide_eq_false_iff_not,simprocAttr]at hb)<;>(try(exfalso;omega)))|(refine hK _ _ ?_;clear hK;try simp only[pst0,simprocAttr])|(rw[if_pos];rotate_left 1;omega;simp(maxSteps:=2000000) only[Ty.w,simprocAttr,h0,hR,hb,Nat.zero_add]))
theorem pobjects_c{d:Dm}{p:Pb}(hc:d.constants.length≤1048576)(ho:p.objects.length≤1048576)(h:Heap):
  PCall Try.prog 13 [.agg d.cells,.agg p.cells] h fun r h'=>Grow h h'∧Tl h' h.next 2 r (pmRows (d.constants++p.objects)):=by
 obtain⟨dn,dt,dc,dp,df,da,dd⟩:=d
 obtain⟨pn,pd,po,pi,pv,⟨gop,gname,gargs,gparams,gexprs,gkids⟩⟩:=p
 simp only[Dm.cells,Pb.cells,Fm.cells,List.cons_append,List.nil_append]at hc ho⊢
 have hc':=hc
 have h2:=pmRows_len po
 rw[pmRows_app]
 generalize pmRows po=RO at h2
 cases dc with
 |nil=>
  have hb2:po.length*32≤140737488355328:=by omega
  have e0:pmRows []=[]:=rfl
  rw[e0]
  refine PCall.nil_agg (pre:=[sPV dn,.imm 2 (pmRows dt)]) fun a cap=>?_
  cases a with
  |none=>
   have hk:=fun h=>clone0_none cap h
   refine pcall_body (ow:=fun _=>false) (wf:=fun f=>f==32) Ty.mixed Try.func13 rfl Ty.hb_13 (by rw[Try.ntmps13];simp) ?_
   rw[Try.ntmps13,Try.results13]
   repeat'(first|refine a_seq fun K hK=>?_|((first|refine a_regionS ?_|refine a_drawS (by decide+kernel) ?_);simp(maxSteps:=2000000) only[Ty.w,simprocAttr,h2])|(refine hK _ _ ?_;clear hK;try simp only[pst0,simprocAttr]))
   refine a_dcallW (hk _) (by(try simp only[Ty.w,simprocAttr,h2]);try rfl) (by simp only[Ty.w,simprocAttr,pastC,List.map_cons,List.map_nil,List.forall_mem_cons]<;>(repeat' apply And.intro)<;>first|trivial|exact .inl (by decide+kernel)|skip) ?_;simp(maxSteps:=2000000) only[Ty.w,simprocAttr,Option.getD_some,h2]
   repeat'(first|(refine a_ret ?_;simp(maxSteps:=2000000) only[Ty.w,simprocAttr,h2,hb2,Nat.zero_add,List.nil_append])|(refine hK _ _ ?_;clear hK;try simp only[pst0,simprocAttr])|(with_reducible refine a_past2 (by simp only[List.forall_mem_cons,Ty.w,simprocAttr,h2,hb2,Nat.zero_add,List.nil_append]<;>(repeat' apply And.intro)<;>first|trivial|exact .inl (by decide+kernel)) ?_;try simp(maxSteps:=2000000) only[Ty.w,simprocAttr,h2,hb2,Nat.zero_add,List.nil_append])|(rw[if_pos];rotate_left 1;omega;simp(maxSteps:=2000000) only[Ty.w,simprocAttr,h2,hb2,Nat.zero_add,List.nil_append]))
   exact⟨(Grow.refl h).new _,Tl.grow (Nat.le_refl _) h2.symm⟩
  |some x=>
   have hk:=fun h=>clone0_some x cap h
   refine pcall_body (ow:=fun _=>false) (wf:=fun f=>f==32) Ty.mixed Try.func13 rfl Ty.hb_13 (by rw[Try.ntmps13];simp) ?_
   rw[Try.ntmps13,Try.results13]
   repeat'(first|refine a_seq fun K hK=>?_|((first|refine a_regionS ?_|refine a_drawS (by decide+kernel) ?_);simp(maxSteps:=2000000) only[Ty.w,simprocAttr,h2])|(refine hK _ _ ?_;clear hK;try simp only[pst0,simprocAttr]))
   refine a_dcallW (hk _) (by(try simp only[Ty.w,simprocAttr,h2]);try rfl) (by simp only[Ty.w,simprocAttr,pastC,List.map_cons,List.map_nil,List.forall_mem_cons]<;>(repeat' apply And.intro)<;>first|trivial|exact .inl (by decide+kernel)|skip) ?_;simp(maxSteps:=2000000) only[Ty.w,simprocAttr,Option.getD_some,h2]
   repeat'(first|(refine a_ret ?_;simp(maxSteps:=2000000) only[Ty.w,simprocAttr,h2,hb2,Nat.zero_add,List.nil_append])|(refine hK _ _ ?_;clear hK;try simp only[pst0,simprocAttr])|(with_reducible refine a_past2 (by simp only[List.forall_mem_cons,Ty.w,simprocAttr,h2,hb2,Nat.zero_add,List.nil_append]<;>(repeat' apply And.intro)<;>first|trivial|exact .inl (by decide+kernel)) ?_;try simp(maxSteps:=2000000) only[Ty.w,simprocAttr,h2,hb2,Nat.zero_add,List.nil_append])|(rw[if_pos];rotate_left 1;omega;simp(maxSteps:=2000000) only[Ty.w,simprocAttr,h2,hb2,Nat.zero_add,List.nil_append]))
   have g:Grow h ((h.new (.arr 2 [])).kill h.next):=((Grow.refl h).new _).kill (Nat.le_refl _)
   exact⟨g.new _,Tl.grow (H:=(h.new (.arr 2 [])).kill h.next) g.le h2.symm⟩
 |cons x dc=>
  have h1:=pmRows_len (x::dc)
  rw[List.length_cons]at h1 hc hc'
  have hk:=fun h=>clone1 h1 (by omega) h
  have hb2:(dc.length+1+po.length)*32≤140737488355328:=by omega
  generalize pmRows (x::dc)=RC at h1 hk
  have htk:List.take (dc.length+1) RC=RC:=List.take_of_length_le (by omega)
  refine pcall_body (ow:=fun _=>false) (wf:=fun f=>f==32) Ty.mixed Try.func13 rfl Ty.hb_13 (by rw[Try.ntmps13];simp) ?_
  rw[Try.ntmps13,Try.results13]
  repeat'(first|refine a_seq fun K hK=>?_|((first|refine a_regionS ?_|refine a_drawS (by decide+kernel) ?_);simp(maxSteps:=2000000) only[Ty.w,simprocAttr,h2])|(refine hK _ _ ?_;clear hK;try simp only[pst0,simprocAttr]))
  refine a_dcallW (hk _) (by(try simp only[Ty.w,simprocAttr,h2]);try rfl) (by simp only[Ty.w,simprocAttr,pastC,List.map_cons,List.map_nil,List.forall_mem_cons]<;>(repeat' apply And.intro)<;>first|trivial|exact .inl (by decide+kernel)|skip) ?_;simp(maxSteps:=2000000) only[Ty.w,simprocAttr,Option.getD_some,h2]
  repeat'(first|(refine a_ret ?_;simp(maxSteps:=2000000) only[Ty.w,simprocAttr,h1,h2,hb2,htk])|(refine hK _ _ ?_;clear hK;try simp only[pst0,simprocAttr])|(with_reducible refine a_past2 (by simp only[List.forall_mem_cons,Ty.w,simprocAttr,h1,h2,hb2,htk]<;>(repeat' apply And.intro)<;>first|trivial|exact .inl (by decide+kernel)) ?_;try simp(maxSteps:=2000000) only[Ty.w,simprocAttr,h1,h2,hb2,htk])|(rw[if_pos];rotate_left 1;omega;simp(maxSteps:=2000000) only[Ty.w,simprocAttr,h1,h2,hb2,htk]))
  have g:Grow h ((h.new (.arr 2 RC)).kill h.next):=((Grow.refl h).new _).kill (Nat.le_refl _)
  exact⟨g.new _,Tl.grow (H:=(h.new (.arr 2 RC)).kill h.next) g.le (by rw[List.length_append,h1,h2])⟩
theorem problemObjects_c{d:Dm}{p:Pb}(hd:d.constants.length≤1048576)(hp:p.okS)(hpo:p.objects.length≤1048576):
  PCall Try.prog 5 [.agg d.cells,.agg p.cells] Heap.nil fun r _=>r= .sc (.bool true):=by
 have hL:=plarge_c p hp
 have hR:=fun h=>robjects_c (d:=d) (p:=p) hd hpo h
 have hO:=fun h=>pobjects_c (d:=d) (p:=p) hd hpo h
 have hlen:(d.constants++p.objects).length≤1099511627776:=by
  rw[List.length_append];omega
 have hc0:=pmRows_len d.constants
 generalize largeP p=big at hL
 generalize d.constants++p.objects=N at hR hO hlen
 have hE: ∀ (h:Heap)(l:PV),Sl h 2 l (pmRows N)→PCall Try.prog 15 [l,.imm 2 (pmRows N)] h fun r h'=>r= .sc (.bool true)∧h'=h:=fun h l hs=>by
  have:=rparamsSl_c (h:=h) hs (Sl.imm (pmRows N)) hlen hlen
  rw[pmsEq_refl]at this
  exact this
 have hNl:=pmRows_len N
 have hN2: ∀ (i:Nat)(r:List PV),(pmRows N)[i]? =some r→ ∃ a b,r=[a,b]:=by
  intro i r hr
  have:=List.mem_of_getElem? hr
  simp only[pmRows,List.mem_map]at this
  obtain⟨x,_,rfl⟩:=this
  exact⟨_,_,rfl⟩
 generalize hNR:pmRows N=R at hR hO hE hNl hN2
 have hRl:R.length=N.length:=hNl
 clear hp hd
 obtain⟨dn,dt,dc,dp,df,da,dd⟩:=d
 obtain⟨pn,pd,po,pi,pv,⟨gop,gname,gargs,gparams,gexprs,gkids⟩⟩:=p
 simp only[Dm.cells,Pb.cells,Fm.cells,List.cons_append,List.nil_append]at hL hR hO hc0⊢
 cases q1:decide ((dc.length:Int)>500)with
 |true=>
  refine pcall_body (ow:=fun _=>false) (wf:=fun f=>f==13) Ty.mixed Try.func5 rfl Ty.hb_5 (by rw[Try.ntmps5];simp) ?_
  rw[Try.ntmps5,Try.results5]
  repeat'(first|refine a_seq fun K hK=>?_|(refine a_regionS ?_;simp(maxSteps:=2000000) only[Ty.w,simprocAttr,hc0,q1])|(refine hK _ _ ?_;clear hK;try simp only[pst0,simprocAttr]))
  refine owp_useQ (pbAwake_c) (by(try simp only[Ty.w,simprocAttr,]);try rfl) ?_;simp(maxSteps:=2000000) only[Ty.w,simprocAttr,]
  repeat'(first|(refine a_ret ?_;simp(maxSteps:=2000000) only[Ty.w,simprocAttr])|(refine hK _ _ ?_;clear hK;try simp only[pst0,simprocAttr]))
 |false=>
  cases big with
  |true=>
   refine pcall_body (ow:=fun _=>false) (wf:=fun f=>f==13) Ty.mixed Try.func5 rfl Ty.hb_5 (by rw[Try.ntmps5];simp) ?_
   rw[Try.ntmps5,Try.results5]
   repeat'(first|refine a_seq fun K hK=>?_|(refine a_regionS ?_;simp(maxSteps:=2000000) only[Ty.w,simprocAttr,hc0,q1])|(refine hK _ _ ?_;clear hK;try simp only[pst0,simprocAttr]))
   refine owp_useQ (hL _) (by(try simp only[Ty.w,simprocAttr,q1]);try rfl) ?_;simp(maxSteps:=2000000) only[Ty.w,simprocAttr,q1]
   repeat'(first|refine a_seq fun K hK=>?_|(refine a_regionS ?_;simp(maxSteps:=2000000) only[Ty.w,simprocAttr,q1])|(refine hK _ _ ?_;clear hK;try simp only[pst0,simprocAttr]))
   refine owp_useQ (pbAwake_c) (by(try simp only[Ty.w,simprocAttr,]);try rfl) ?_;simp(maxSteps:=2000000) only[Ty.w,simprocAttr,]
   repeat'(first|(refine a_ret ?_;simp(maxSteps:=2000000) only[Ty.w,simprocAttr])|(refine hK _ _ ?_;clear hK;try simp only[pst0,simprocAttr]))
  |false=>
   refine pcall_body (ow:=fun _=>false) (wf:=fun f=>f==13) Ty.mixed Try.func5 rfl Ty.hb_5 (by rw[Try.ntmps5];simp) ?_
   rw[Try.ntmps5,Try.results5]
   repeat'(first|refine a_seq fun K hK=>?_|(refine a_regionS ?_;simp(maxSteps:=2000000) only[Ty.w,simprocAttr,hc0,q1])|(refine hK _ _ ?_;clear hK;try simp only[pst0,simprocAttr]))
   refine owp_useQ (hL _) (by(try simp only[Ty.w,simprocAttr,q1]);try rfl) ?_;simp(maxSteps:=2000000) only[Ty.w,simprocAttr,q1]
   skip
   refine owp_useQ (pbAwake_c) (by(try simp only[Ty.w,simprocAttr,Bool.not_true]);try rfl) ?_;simp(maxSteps:=2000000) only[Ty.w,simprocAttr,Bool.not_true]
   repeat'(first|refine a_seq fun K hK=>?_|(refine a_regionS ?_;simp(maxSteps:=2000000) only[Ty.w,simprocAttr,Bool.not_true])|(refine a_skip ?_;try simp only[pst0,simprocAttr])|(refine a_cond _ (by(try simp(maxSteps:=2000000) only[Ty.w,simprocAttr,Bool.not_true]);rfl) (fun hb=>?_) (fun hb=>?_)<;>(try simp only[hb0,decide_eq_true_eq,decide_eq_false_iff_not,simprocAttr]at hb)<;>(try(exfalso;omega)))|(refine hK _ _ ?_;clear hK;try simp only[pst0,simprocAttr]))
   refine owp_useL (hO _) (by(try simp only[Ty.w,simprocAttr]);try rfl) ?_
   rintro l h1 ⟨hg,tl⟩
   simp(maxSteps:=2000000) only[Ty.w,simprocAttr,Ty.all]
   repeat'(first|refine a_seq fun K hK=>?_|(refine a_regionS ?_;simp(maxSteps:=2000000) only[Ty.w,simprocAttr])|(refine hK _ _ ?_;clear hK;try simp only[pst0,simprocAttr]))
   refine owp_useQ (hR _) (by(try simp only[Ty.w,simprocAttr,]);try rfl) ?_;simp(maxSteps:=2000000) only[Ty.w,simprocAttr,]
   repeat'(first|refine a_seq fun K hK=>?_|(refine a_regionS ?_;simp(maxSteps:=2000000) only[Ty.w,simprocAttr])|(refine hK _ _ ?_;clear hK;try simp only[pst0,simprocAttr]))
   refine owp_useQ (hE _ l tl.sl) (by(try simp only[Ty.w,simprocAttr,Bool.not_true]);try rfl) ?_;simp(maxSteps:=2000000) only[Ty.w,simprocAttr,Bool.not_true]
   repeat'(first|(with_reducible refine a_hold 7 ?_)|(refine a_skip ?_;try simp only[pst0,simprocAttr])|(refine a_cond _ (by(try simp(maxSteps:=2000000) only[Ty.w,simprocAttr,Bool.not_true]);rfl) (fun hb=>?_) (fun hb=>?_)<;>(try simp only[hb0,decide_eq_true_eq,decide_eq_false_iff_not,simprocAttr]at hb)<;>(try(exfalso;omega)))|(refine hK _ _ ?_;clear hK;try simp only[pst0,simprocAttr]))
   refine⟨?_⟩
   have hll: ∀ H,lenP H l=some N.length:=fun H=>by rw[lenP_sl tl.sl H,hRl]
   have hkl:=tl.sl.lk
   refine a_cut (fun S H=>S 2= .cptr [sPV dn,.imm 2 (pmRows dt),.imm 2 (pmRows dc),.imm 2 (prRows dp),.imm 4 (fuRows df),.imm 10 (acRows da),.imm 23 (duRows dd)]∧S 3= .cptr [sPV pn,sPV pd,.imm 2 (pmRows po),.imm 2 (atRows pi),.imm 3 (vlRows pv),sPV gop,sPV gname,.imm 1 (strRows gargs),.imm 2 (pmRows gparams),.imm 5 (Ex.rows gexprs),.imm 6 (Fm.rows gkids)]∧S 6= .imm 2 R) ?_ ?_
   ·repeat' (first|refine a_seq fun K hK=>?_|(refine a_block ?_)|(refine a_regionS ?_;simp(maxSteps:=2000000) only[Ty.w,simprocAttr])|(refine hK _ _ ?_;clear hK;try simp only[pst0,simprocAttr]))
    refine a_loop (fun m S H=>S 2= .cptr [sPV dn,.imm 2 (pmRows dt),.imm 2 (pmRows dc),.imm 2 (prRows dp),.imm 4 (fuRows df),.imm 10 (acRows da),.imm 23 (duRows dd)]∧S 3= .cptr [sPV pn,sPV pd,.imm 2 (pmRows po),.imm 2 (atRows pi),.imm 3 (vlRows pv),sPV gop,sPV gname,.imm 1 (strRows gargs),.imm 2 (pmRows gparams),.imm 5 (Ex.rows gexprs),.imm 6 (Fm.rows gkids)]∧S 5=l∧S 6= .imm 2 R∧ ∃ k:Nat,S 7= .sc (.int .i64 k)∧k≤N.length∧m=N.length-k∧(N.length=0∨ ∃ (id:Nat)(rows:List (List PV)),l= .own id 0 N.length∧H.obj id=some (.arr 2 rows)∧rows.length=N.length∧ ∀ (i:Nat)(r:List PV),rows[i]? =some r→ ∃ a b,r=[a,b])) N.length ?_ ?_
    ·simp only[Ty.w,simprocAttr]
     refine⟨0,rfl,Nat.zero_le _,rfl,?_⟩
     rcases tl with⟨h0,_⟩|⟨id,_,_,e,ho⟩
     ·exact .inl (by rw[← hRl,h0];try rfl)
     ·exact .inr ⟨id,R,by rw[e,hRl],ho,hRl,hN2⟩
    ·clear tl hE hR hO hL hg
     rintro m S H ⟨g2,g3,g5,g6,k,g7,hk,rfl,hI⟩
     by_cases hlt:k<N.length
     ·obtain ⟨id,rows,rfl,ho,hrl,hr2⟩:=hI.resolve_left (by omega)
      have hd:decide ((k:Int)<(N.length:Int))=true:=by simp;omega
      have w7:IntKind.i64.wrap ((k:Int)+1)=((k+1:Nat):Int):=by rw[wrap64 (by omega) (by omega)];omega
      have hr0:rows[k]? =some rows[k]:=List.getElem?_eq_getElem (by omega)
      obtain⟨a,b,hab⟩:=hr2 k _ hr0
      rw[hab]at hr0
      have hkt:(k<N.length)=True:=eq_true hlt
      repeat'(first|refine a_seq fun K hK=>?_|(refine a_block ?_)|((first|refine a_regionS ?_|refine a_region (fun K hK=>?_));simp(maxSteps:=2000000) only[Ty.w,simprocAttr,g2,g3,g5,g6,g7,hll,hkl,hd,ho,hr0,hkt,w7])|(refine a_skip ?_;try simp only[pst0,simprocAttr])|(refine a_cond _ (by(try simp(maxSteps:=2000000) only[Ty.w,simprocAttr,g2,g3,g5,g6,g7,hll,hkl,hd,ho,hr0,hkt,w7]);rfl) (fun hb=>?_) (fun hb=>?_)<;>(try simp only[hb0,decide_eq_true_eq,decide_eq_false_iff_not,simprocAttr]at hb)<;>(try(exfalso;omega)))|(refine hK _ _ ?_;clear hK;try simp only[pst0,simprocAttr]))
      refine⟨N.length-(k+1),by omega,k+1,rfl,by omega,rfl,.inr ⟨id,rows.set k [sPV ⟨#[99,104,97,110,103,101,100]⟩,b],rfl,?_,by rw[List.length_set];exact hrl,?_⟩⟩
      ·first|rfl|exact if_pos rfl|(simp only[Heap.set,if_true])
      ·intro i r hi
       rw[List.getElem?_set]at hi
       split at hi
       ·split at hi
        ·simp only[Option.some.injEq]at hi
         exact⟨_,_,hi.symm⟩
        ·cases hi
       ·exact hr2 i r hi
     ·have hd:decide ((k:Int)<(N.length:Int))=false:=by simp;omega
      repeat'(first|refine a_seq fun K hK=>?_|(refine a_regionS ?_;simp(maxSteps:=2000000) only[Ty.w,simprocAttr,g2,g3,g5,g6,g7,hll,hkl,hd])|(refine a_exit ?_;try simp only[pst0,simprocAttr])|(refine a_cond _ (by(try simp(maxSteps:=2000000) only[Ty.w,simprocAttr,g2,g3,g5,g6,g7,hll,hkl,hd]);rfl) (fun hb=>?_) (fun hb=>?_)<;>(try simp only[hb0,decide_eq_true_eq,decide_eq_false_iff_not,simprocAttr]at hb)<;>(try(exfalso;omega)))|(refine hK _ _ ?_;clear hK;try simp only[pst0,simprocAttr]))
      exact⟨g2,g3,g6⟩
   ·clear tl hll hkl hg
    rintro S H ⟨g2,g3,g6⟩
    repeat'(first|refine a_seq fun K hK=>?_|(refine a_regionS ?_;simp(maxSteps:=2000000) only[Ty.w,simprocAttr,g2,g3,g6]))
    refine owp_useQ (hR _) (by(try simp only[Ty.w,simprocAttr,g2,g3,g6]);try rfl) ?_;simp(maxSteps:=2000000) only[Ty.w,simprocAttr,g2,g3,g6]
    skip
    refine owp_useQ (hE _ (.imm 2 R) (Sl.imm R)) (by(try simp only[Ty.w,simprocAttr,g2,g3,g6]);try rfl) ?_;simp(maxSteps:=2000000) only[Ty.w,simprocAttr,g2,g3,g6]
    skip
    refine owp_useL (hO _) (by(try simp only[Ty.w,simprocAttr,g2,g3,g6]);try rfl) ?_
    rintro l2 h2 ⟨_,tl2⟩
    simp(maxSteps:=2000000) only[Ty.w,simprocAttr,Ty.all,g6]
    skip
    refine owp_useQ (hE _ l2 tl2.sl) (by(try simp only[Ty.w,simprocAttr,g6]);try rfl) ?_;simp(maxSteps:=2000000) only[Ty.w,simprocAttr,g6]
    repeat'(first|(refine a_ret ?_;simp(maxSteps:=2000000) only[Ty.w,simprocAttr])|(refine hK _ _ ?_;clear hK;try simp only[pst0,simprocAttr]))
end Go.Proofs.Ytjeolbgpllbemaa
namespace Go.AM
mutual
def Fm.small:Fm→Prop
 | .mk _ _ args params exprs kids=>args.length≤1048576∧params.length≤1048576∧Ex.smalls exprs∧kids.length≤1048576∧Fm.smalls kids
def Fm.smalls:List Fm→Prop
 |[]=>True
 |k::ks=>k.small∧Fm.smalls ks
end
end Go.AM
namespace Go.Proofs.Ytjeolbgpllbemaa
open Go.AM
set_option maxHeartbeats 4000000
set_option maxRecDepth 20000
end Go.Proofs.Ytjeolbgpllbemaa
namespace Go.AM
open Go.ChangeShapes Go.WideShapes
open Go.Proofs.Ytjeolbgpllbemaa
mutual
def PV.bulk:PV→Nat
 | .sc (.string s)=>s.size+1
 | .imm _ rows=>PV.bulkR rows+1
 |_=>1
def PV.bulkL:List PV→Nat
 |[]=>0
 |p::ps=>p.bulk+PV.bulkL ps
def PV.bulkR:List (List PV)→Nat
 |[]=>0
 |r::rs=>PV.bulkL r+PV.bulkR rs
end
theorem PV.bulkL_append: ∀ l m:List PV,PV.bulkL (l++m)=PV.bulkL l+PV.bulkL m
 |[],m=>by simp[PV.bulkL]
 |p::l,m=>by simp only[List.cons_append,PV.bulkL,PV.bulkL_append l m];omega
theorem List.getElem?_range_some{k i j:Nat}(h:(List.range k)[i]? =some j):i<k∧i=j:=by
 have h1:=(List.getElem?_eq_some_iff.1 h).1
 simp at h1
 rw[List.getElem?_range h1]at h
 simp at h
 exact⟨h1,h⟩
section
variable {H:Type}{enc:TypeId × Value→H}{P:Program}{w:World}{sp:Nat→Bool}{held:Bool}
theorem bulkR_le: ∀ (rows:List (List PV))(ds:List (DataW H)),rows.length=ds.length→(∀ (i:Nat)(r:List PV),rows[i]? =some r→ ∃ d,ds[i]? =some d∧PV.bulkL r≤Rows.uptoBulk d)→PV.bulkR rows≤Rows.uptoBulkAll ds
 |[],_,_,_=>by simp[PV.bulkR]
 |r::rows,[],h,_=>by simp at h
 |r::rows,d::ds,h,hb=>by
  have h1:=bulkR_le rows ds (by simpa using h) fun i q hq=>by simpa using hb (i+1) q (by simpa using hq)
  obtain⟨d',h2,h3⟩:=hb 0 r rfl
  simp at h2;subst h2
  simp only[PV.bulkR,Rows.uptoBulkAll];omega
theorem parts_rep5{c:Nat}{cs:List Value}:(l:List (Nat × TypeId))→(ds:List (DataW H))→(o:Nat)→inRow P cs.length o l=true→
  (∀ (i:Nat)(p:Nat × TypeId),l[i]? =some p→ ∃ d,ds[i]? =some d∧ ∃ ps,Arg P c p.2 ps∧RA w ps ((cs.drop p.1).take (P.cellsOf p.2))∧PV.bulkL ps≤Rows.uptoBulk d)→
  ∃ ps,RA w ps (cs.drop o)∧(∀ p∈l,Arg P c p.2 ((ps.drop (p.1-o)).take (P.cellsOf p.2)))∧PV.bulkL ps≤Rows.uptoBulkAll ds
 |[],ds,o,h,_=>by
  simp[inRow]at h
  refine⟨[],⟨?_,fun β n=>?_⟩,by simp,by simp[PV.bulkL]⟩
  ·rw [List.drop_of_length_le (by omega)];simp
  ·rw [List.drop_of_length_le (by omega)];simp[RepL]
 |p::l,[],o,h,hp=>by
  obtain⟨d,hd,_⟩:=hp 0 p rfl
  simp at hd
 |p::l,d::ds,o,h,hp=>by
  have hle:=(inRow_le (p::l) o h).2 p (by simp)
  simp only[inRow,Bool.and_eq_true,beq_iff_eq]at h
  obtain⟨ps,h1,h2,h20⟩:=parts_rep5 l ds _ h.2 (fun i q hq=>by simpa using hp (i+1) q (by simpa using hq))
  obtain⟨d',hd,ps0,h3,h4,h40⟩:=hp 0 p rfl
  simp at hd;subst hd
  have hl2:=(inRow_le l _ h.2).2
  have e0:p.1=o:=h.1
  have l0:ps0.length=P.cellsOf p.2:=by rw[h4.len,List.length_take,List.length_drop];omega
  refine⟨ps0++ps,?_,fun q hq=>?_,by rw[PV.bulkL_append];simp only[Rows.uptoBulkAll];omega⟩
  ·have:cs.drop o=(cs.drop p.1).take (P.cellsOf p.2)++cs.drop (o+P.cellsOf p.2):=by
    rw[e0, ← List.drop_drop,List.take_append_drop]
   rw[this]
   exact h4.append h1
  ·rcases List.mem_cons.1 hq with rfl|hq
   ·rw [e0,Nat.sub_self,List.drop_zero,List.take_append_of_le_length (by omega),List.take_of_length_le (by omega)]
    exact h3
   ·have h5:=hl2 q hq
    have:q.1-o=ps0.length+(q.1-(o+P.cellsOf p.2)):=by omega
    rw[this, ← List.drop_drop,List.drop_left]
    exact h2 q hq
theorem arg_rec5{Ts:List TypeId}(hT:covC P Ts=true): ∀ (fuel:Nat)(t:TypeId),Ts.contains t=true→ ∀ (cs:List Value)(x:DataW H × List MemPlace),DataW.trod enc P w 0 sp held fuel t cs=some x→(∀ n∈x.1.weights P t,n≤reachBytes)→
  ∃ ps,Arg P fuel t ps∧RA w ps cs∧PV.bulkL ps≤Rows.uptoBulk x.1
 |0,_,_,_,_,hx,_=>by simp[DataW.trod]at hx
 |c+1,t,ht,cs,x,hx,hw=>by
  have h:=List.all_eq_true.1 hT t (by simpa using ht)
  split at h
  ·rename_i hu
   obtain⟨b,rfl,rfl⟩:=DataW.trod_bool hu hx
   refine⟨[.sc (.bool b)],?_,sc_RA rfl,by simp[PV.bulkL,PV.bulk,Rows.uptoBulk]⟩
   unfold Arg;rw[hu];exact⟨b,rfl⟩
  ·rename_i k hu
   obtain⟨n,rfl,rfl,hwf⟩:=DataW.trod_int hu hx
   refine⟨[.sc (.int k n)],?_,sc_RA rfl,by simp[PV.bulkL,PV.bulk,Rows.uptoBulk]⟩
   unfold Arg;rw[hu];exact⟨n,hwf,rfl⟩
  ·rename_i hu
   obtain⟨s,rfl,rfl,hs⟩:=DataW.trod_string hu hx
   refine⟨[.sc (.string s)],?_,sc_RA rfl,by have e:s.data.toList.length=s.size:=by{rw[Array.length_toList];try rfl};simp only[PV.bulkL,PV.bulk,Rows.uptoBulk];omega⟩
   unfold Arg;rw[hu]
   refine⟨s,?_,rfl⟩
   have:=hw s.data.toList.length (by simp[DataW.weights])
   simpa using this
  ·rename_i e hu
   simp only[Bool.and_eq_true,decide_eq_true_eq]at h
   obtain⟨hpos,hcov⟩:=h
   rcases DataW.trod_slice hu hx with⟨rfl,rfl⟩|⟨a,len,cap,elems,rest,n,hfu,rfl,rfl,hb,hl,hm,hlen,hel,hsp,hns⟩
   ·refine ⟨[.imm (P.cellsOf e) []],?_,⟨fun v hv=>?_,fun β n=>?_⟩,by simp[PV.bulkL,PV.bulk,PV.bulkR,Rows.uptoBulk]⟩
    ·unfold Arg;rw[hu];exact⟨[],rfl,by simp,by simp,by simp⟩
    ·simp at hv;subst hv;rfl
    ·simp only[RepL,Rep]
     exact⟨⟨none,0,rfl,Nat.le_refl _,Nat.zero_le _,.inl (by trivial)⟩,trivial⟩
   ·obtain rfl:c=n:=by omega
    have each: ∀ i,i<len→ ∃ r:List PV,(r.length=P.cellsOf e∧Arg P c e r∧ ∃ d,(elems.map (·.1))[i]? =some d∧PV.bulkL r≤Rows.uptoBulk d)∧ ∃ ci,RA w r ci∧ci.length=P.cellsOf e∧ ∀ j,j<P.cellsOf e→w.cell? ((a.add (i*P.cellsOf e)).add j)=ci[j]?:=by
     intro i hi
     have h1:=hel i hi
     have h2:elems[i]? =some (elems[i]'(by omega)):=List.getElem?_eq_getElem _
     rw[h2,Option.bind_eq_some_iff]at h1
     obtain⟨ci,h3,h4⟩:=h1
     obtain⟨_,h5,h6⟩:=World.cells?_some h3
     obtain⟨r,h7,h8,h80⟩:=arg_rec5 hT c e hcov ci _ h4 (fun m hm=>hw m (by
      simp only[DataW.weights,hu,List.mem_cons,List.mem_append]
      exact .inr (.inl (weightsAll_mem (i:=i) (by rw[List.getElem?_map,h2];try rfl) hm))))
     exact⟨r,⟨by rw[h8.len,h5],h7,_,by rw[List.getElem?_map,h2];try rfl,h80⟩,ci,h8,h5,h6⟩
    obtain⟨rows,hrl,hrows⟩:=exists_list len each
    refine⟨[.imm (P.cellsOf e) rows],?_,⟨fun v hv=>?_,fun β m=>?_⟩,?_⟩
    ·unfold Arg;rw[hu]
     refine⟨rows,rfl,?_,by omega,fun r hr=>?_⟩
     ·have:=hw ((elems.map (·.1)).length*P.bytesOf e+(rest.map (·.1)).length*P.bytesOf e) (by
       simp only[DataW.weights,hu,List.mem_cons,Nat.add_mul,true_or])
      have h9:rows.length=(elems.map (·.1)).length:=by simp[hrl,hlen]
      rw[h9]
      exact Nat.le_trans (Nat.le_add_right _ _) this
     ·obtain ⟨i,hi⟩:=List.getElem?_of_mem hr
      exact⟨(hrows i r hi).1.1,(hrows i r hi).1.2.1⟩
    ·simp at hv;subst hv;rfl
    ·simp only[RepL,Rep]
     refine⟨⟨some a,cap,by rw[hrl],by omega,hm,?_⟩,trivial⟩
     by_cases h0:len=0
     ·left;exact List.length_eq_zero_iff.1 (by omega)
     ·right
      obtain⟨_,_,c0,_,hc0,hcell0⟩:=each 0 (by omega)
      have h10:=hcell0 0 hpos
      rw[List.getElem?_eq_getElem (by omega)]at h10
      simp only[Nat.zero_mul,Addr.add,if_true]at h10
      have hs:a.spot=none:=by
       unfold World.cell? at h10
       split at h10
       ·split at h10
        ·simp at h10
        ·rename_i hsp;simpa using hsp
       ·simp at h10
      have hblk:a.block<w.heap.size:=by
       unfold World.cell? at h10
       split at h10
       ·rename_i hh;exact(Array.getElem?_eq_some_iff.1 hh).1
       ·simp at h10
      refine⟨a.block,a.off,hblk,by cases a;simp only at hs;subst hs;rfl,?_⟩
      rw[RepR_iff]
      intro i r hr
      obtain⟨⟨g1,_⟩,ci,g2,g3,g4⟩:=hrows i r hr
      refine⟨g1,?_⟩
      rw[RepS_iff]
      intro j p hp
      obtain⟨v,hv,hrep⟩:=(g2.2 β m).get hp
      have hj:j<P.cellsOf e:=by rw[← g3];exact(List.getElem?_eq_some_iff.1 hv).1
      refine⟨v,?_,g2.1 v (List.mem_of_getElem? hv),hrep⟩
      rw[← hv, ← g4 j hj]
      congr 1
      cases a
      simp only at hs;subst hs
      simp only[Addr.add]
      split<;>split<;>simp_all<;>omega
    ·have hb5:=bulkR_le rows (elems.map (·.1)) (by simp[hrl,hlen]) fun i r hr=>(hrows i r hr).1.2.2
     simp only[PV.bulkL,PV.bulk,Rows.uptoBulk]
     omega
  ·rename_i fs hu
   simp only[Bool.and_eq_true,List.all_eq_true]at h
   obtain⟨xs,n,hfu,rfl,hcl,hxl,hp⟩:=DataW.trod_struct hu hx
   obtain rfl:c=n:=by omega
   have hpt:partsT P t=fs.toList.map fun f=>(f.offset,f.type):=by unfold partsT;rw[hu]
   obtain⟨ps,h1,h2,h30⟩:=parts_rep5 (w:=w) (c:=c) (cs:=cs) (partsT P t) (xs.map (·.1)) 0 (by rw[hcl];exact h.1) (fun i p hi=>by
    have hcv:=h.2 p (List.mem_of_getElem? hi)
    rw[hpt]at hi
    rw[List.getElem?_map,Option.map_eq_some_iff]at hi
    obtain⟨f,hf,rfl⟩:=hi
    have hf':fs[i]? =some f:=by simpa using hf
    have hi':i<xs.length:=by
     rw[hxl]
     exact(Array.getElem?_eq_some_iff.1 hf').1
    have h3:=hp i f hf'
    rw[List.getElem?_eq_getElem hi']at h3
    exact⟨xs[i].1,by rw[List.getElem?_map,List.getElem?_eq_getElem hi'];try rfl,arg_rec5 hT c f.type hcv _ _ h3 (fun m hm=>hw m (by
     simp only[DataW.weights,hu]
     exact DataW.weights_mem_each (j:=i) (t:=f.type) (d:=xs[i].1) (by rw[List.getElem?_map,hf];try rfl) (by rw[List.getElem?_map,List.getElem?_eq_getElem hi'];try rfl) m hm))⟩)
   refine⟨ps,?_,by simpa using h1,by simp only[Rows.uptoBulk];omega⟩
   unfold Arg;rw[hu]
   exact⟨by rw[h1.len,List.drop_zero,hcl],fun p hpm=>by simpa using h2 p hpm⟩
  ·rename_i k e hu
   simp only[Bool.and_eq_true,List.all_eq_true]at h
   obtain⟨xs,n,hfu,rfl,hcl,hxl,hp⟩:=DataW.trod_array hu hx
   obtain rfl:c=n:=by omega
   have hpt:partsT P t=(List.range k).map fun i=>(i*P.cellsOf e,e):=by unfold partsT;rw[hu]
   obtain⟨ps,h1,h2,h30⟩:=parts_rep5 (w:=w) (c:=c) (cs:=cs) (partsT P t) (xs.map (·.1)) 0 (by rw[hcl];exact h.1) (fun i p hi=>by
    have hcv:=h.2 p (List.mem_of_getElem? hi)
    rw[hpt,List.getElem?_map,Option.map_eq_some_iff]at hi
    obtain⟨j,hj,rfl⟩:=hi
    obtain⟨hjk,rfl⟩:=List.getElem?_range_some hj
    have hi':i<xs.length:=by rw[hxl];exact hjk
    have h3:=hp i hjk
    rw[List.getElem?_eq_getElem hi']at h3
    exact⟨xs[i].1,by rw[List.getElem?_map,List.getElem?_eq_getElem hi'];try rfl,arg_rec5 hT c e hcv _ _ h3 (fun m hm=>hw m (by
     simp only[DataW.weights,hu]
     exact weightsAll_mem (i:=i) (d:=xs[i].1) (by rw[List.getElem?_map,List.getElem?_eq_getElem hi'];try rfl) hm))⟩)
   refine⟨ps,?_,by simpa using h1,by simp only[Rows.uptoBulk];omega⟩
   unfold Arg;rw[hu]
   exact⟨by rw[h1.len,List.drop_zero,hcl],fun p hpm=>by simpa using h2 p hpm⟩
  ·simp at h
theorem arg_value5{Ts:List TypeId}(hT:covC P Ts=true){t:TypeId}(ht:Ts.contains t=true){fs:Array Field}(hu:P.underlying t=some (.struct fs)){v:Value}{d:DataW H}{pl:List MemPlace}
  (h:DataW.Trod enc P w 0 sp held t v d pl)(hv: ∃ base,Value.okWide P w .any base t v)(hw: ∀ n∈d.weights P t,n≤reachBytes):
  ∃ c ps,Arg P c t ps∧(∀ β n,Rep β n (fun b=>b<w.heap.size) w (.agg ps) v)∧PV.bulkL ps≤Rows.uptoBulk d:=by
 obtain⟨fuel,hf⟩:=h
 obtain⟨ps,h1,h2,h3⟩:=arg_rec5 hT fuel t ht _ _ hf hw
 obtain⟨base,hv⟩:=hv
 unfold Value.okWide at hv
 simp only[hu]at hv
 obtain⟨cs,rfl,_⟩:=hv
 refine⟨fuel,ps,h1,fun β n=>?_,h3⟩
 simp only[Rep]
 exact⟨cs.toList,by simp,h2.1,h2.2 β n⟩
end
end Go.AM
namespace Go.AM
theorem bulkR_strs: ∀ l:List ByteArray,l.length≤PV.bulkR (strRows l)
 |[]=>by simp
 |s::l=>by
  have:=bulkR_strs l
  simp only[strRows,List.map_cons,PV.bulkR,PV.bulkL,PV.bulk,List.length_cons]at this⊢
  omega
mutual
theorem Ex.small_bulk: ∀ (e:Ex),PV.bulkL e.cells≤1048576→e.small
 | .mk op name n args kids,h=>by
  simp only[Ex.cells,PV.bulkL,PV.bulk]at h
  simp only[Ex.small]
  have:=bulkR_strs args
  exact⟨by omega,Ex.smalls_bulk kids (by omega)⟩
theorem Ex.smalls_bulk: ∀ (l:List Ex),PV.bulkR (Ex.rows l)≤1048576→Ex.smalls l
 |[],_=>by simp[Ex.smalls]
 |k::ks,h=>by
  simp only[Ex.rows,PV.bulkR]at h
  simp only[Ex.smalls]
  exact⟨Ex.small_bulk k (by omega),Ex.smalls_bulk ks (by omega)⟩
end
end Go.AM
namespace Go.Proofs.Ytjeolbgpllbemaa
open Go.AM
end Go.Proofs.Ytjeolbgpllbemaa
namespace Go.AM
theorem bulkR_pms: ∀ l:List Pm,2*l.length≤PV.bulkR (pmRows l)
 |[]=>by simp
 |s::l=>by
  have:=bulkR_pms l
  simp only[pmRows,pmRow,List.map_cons,PV.bulkR,PV.bulkL,PV.bulk,List.length_cons]at this⊢
  omega
theorem bulkR_fms: ∀ l:List Fm,l.length≤PV.bulkR (Fm.rows l)
 |[]=>by simp
 |s::l=>by
  have:=bulkR_fms l
  cases s
  simp only[Fm.rows,Fm.cells,PV.bulkR,PV.bulkL,PV.bulk,List.length_cons]at this⊢
  omega
mutual
theorem Fm.small_bulk: ∀ (f:Fm),PV.bulkL f.cells≤1048576→f.small
 | .mk op name args params exprs kids,h=>by
  simp only[Fm.cells,PV.bulkL,PV.bulk]at h
  simp only[Fm.small]
  have:=bulkR_strs args
  have:=bulkR_pms params
  have:=bulkR_fms kids
  exact⟨by omega,by omega,Ex.smalls_bulk exprs (by omega),by omega,Fm.smalls_bulk kids (by omega)⟩
theorem Fm.smalls_bulk: ∀ (l:List Fm),PV.bulkR (Fm.rows l)≤1048576→Fm.smalls l
 |[],_=>by simp[Fm.smalls]
 |k::ks,h=>by
  simp only[Fm.rows,PV.bulkR]at h
  simp only[Fm.smalls]
  exact⟨Fm.small_bulk k (by omega),Fm.smalls_bulk ks (by omega)⟩
end
end Go.AM
namespace Go.Proofs.Ytjeolbgpllbemaa
open Go.AM
end Go.Proofs.Ytjeolbgpllbemaa
namespace Go.Proofs.Ytjeolbgpllbemaa
open Go.AM
theorem dm_small{d:Dm}(hb:PV.bulkL d.cells≤1048576):d.constants.length≤1048576:=by
 have h1:=bulkR_pms d.constants
 simp only[Dm.cells,PV.bulkL,PV.bulk]at hb
 omega
end Go.Proofs.Ytjeolbgpllbemaa
namespace Go.Proofs.Ytjeolbgpllbemaa
open Go.AM
set_option maxHeartbeats 1000000
set_option maxRecDepth 20000
def dmTs:List TypeId:=recTs++[55,182,175,172,50,174,51,177,52,179,53]
theorem coChs:Try.prog.cellsOf 175=1:=by kernel_rfl
theorem partsCh:partsT Try.prog 182=[(0,3),(1,22),(2,29),(8,9),(9,25),(10,78)]:=by kernel_rfl
theorem coCh:Try.prog.cellsOf 182=15:=by kernel_rfl
theorem byCh:0<Try.prog.bytesOf 182:=by rw[show Try.prog.bytesOf 182=288 by kernel_rfl];omega
theorem arg_ch{c:Nat}{ps:List PV}(h:Arg Try.prog c 182 ps): ∃ a:Ch,a.ok∧ps=chRow a:=by
 cases c with
 |zero=>simp[Arg]at h
 |succ c=>
  obtain⟨h1,h2⟩:=Arg_struct Try.underlying182 h
  rw[coCh]at h1
  rw[partsCh]at h2
  match ps,h1,h2 with
  |[p0,p1,p2,p3,p4,p5,p6,p7,p8,p9,p10,p11,p12,p13,p14],_,h2=>
   have a0:=h2 (0,3) (by simp)
   have a1:=h2 (1,22) (by simp)
   have a2:=h2 (2,29) (by simp)
   have a3:=h2 (8,9) (by simp)
   have a4:=h2 (9,25) (by simp)
   have a5:=h2 (10,78) (by simp)
   simp only[co24,co25,co29,co3,co57,co9,List.drop_zero,List.drop_succ_cons,List.take_succ_cons,List.take_zero]at a0 a1 a2 a3 a4 a5
   obtain⟨kind,hkind,e0⟩:=arg_i64 a0
   obtain⟨params,hparams,e1⟩:=arg_pms a1
   obtain⟨cond,hcond,e2⟩:=arg_fm _ a2
   obtain⟨name,hname,e3⟩:=arg_str a3
   obtain⟨args,hargs,e4⟩:=arg_strs a4
   obtain⟨value,hvalue,e5⟩:=arg_ex _ a5
   simp at e0 e1 e3 e4
   refine⟨⟨kind,params,cond,name,args,value⟩,⟨hparams,hcond,hargs,hvalue,hname,hkind⟩,?_⟩
   simp only[chRow,e0,e1,e3,e4, ← e2, ← e5,List.cons_append,List.nil_append]
theorem arg_chs{c:Nat}{ps:List PV}(h:Arg Try.prog c 175 ps): ∃ l:List Ch,Chs.ok l∧ps=[.imm 15 (chRows l)]:=by
 cases c with
 |zero=>simp[Arg]at h
 |succ c=>
  obtain⟨rows,rfl,h1,_,h2⟩:=Arg_slice Try.underlying175 h
  obtain⟨xs,rfl,h3⟩:=rows_map (Q:=Ch.ok) (f:=chRow) rows (fun r hr=>arg_ch (h2 r hr).2)
  refine⟨xs,⟨len_le (by simpa using h1) byCh,h3⟩,?_⟩
  rw[coCh];try rfl
theorem partsPr:partsT Try.prog 172=[(0,9),(1,22)]:=by kernel_rfl
theorem coPr:Try.prog.cellsOf 172=2:=by kernel_rfl
theorem byPr:0<Try.prog.bytesOf 172:=by rw[show Try.prog.bytesOf 172=40 by kernel_rfl];omega
theorem coPrs:Try.prog.cellsOf 50=1:=by kernel_rfl
theorem arg_pr{c:Nat}{ps:List PV}(h:Arg Try.prog c 172 ps): ∃ a:Pr,a.ok∧ps=prRow a:=by
 cases c with
 |zero=>simp[Arg]at h
 |succ c=>
  obtain⟨h1,h2⟩:=Arg_struct Try.underlying172 h
  rw[coPr]at h1
  rw[partsPr]at h2
  match ps,h1,h2 with
  |[p0,p1],_,h2=>
   have a0:=h2 (0,9) (by simp)
   have a1:=h2 (1,22) (by simp)
   simp only[co25,co9,List.drop_zero,List.drop_succ_cons,List.take_succ_cons,List.take_zero]at a0 a1
   obtain⟨name,hname,e0⟩:=arg_str a0
   obtain⟨params,hparams,e1⟩:=arg_pms a1
   simp at e0 e1
   refine⟨⟨name,params⟩,⟨hname,hparams⟩,?_⟩
   simp only[prRow,e0,e1,List.cons_append,List.nil_append]
theorem arg_prs{c:Nat}{ps:List PV}(h:Arg Try.prog c 50 ps): ∃ l:List Pr,(l.length≤bigN∧ ∀ a∈l,a.ok)∧ps=[.imm 2 (prRows l)]:=by
 cases c with
 |zero=>simp[Arg]at h
 |succ c=>
  obtain⟨rows,rfl,h1,_,h2⟩:=Arg_slice Try.underlying50 h
  obtain⟨xs,rfl,h3⟩:=rows_map (Q:=Pr.ok) (f:=prRow) rows (fun r hr=>arg_pr (h2 r hr).2)
  refine⟨xs,⟨len_le (by simpa using h1) byPr,h3⟩,?_⟩
  rw[coPr];try rfl
theorem partsFu:partsT Try.prog 174=[(0,9),(1,22),(2,3),(3,3)]:=by kernel_rfl
theorem coFu:Try.prog.cellsOf 174=4:=by kernel_rfl
theorem byFu:0<Try.prog.bytesOf 174:=by rw[show Try.prog.bytesOf 174=56 by kernel_rfl];omega
theorem coFus:Try.prog.cellsOf 51=1:=by kernel_rfl
theorem arg_fu{c:Nat}{ps:List PV}(h:Arg Try.prog c 174 ps): ∃ a:Fu,a.ok∧ps=fuRow a:=by
 cases c with
 |zero=>simp[Arg]at h
 |succ c=>
  obtain⟨h1,h2⟩:=Arg_struct Try.underlying174 h
  rw[coFu]at h1
  rw[partsFu]at h2
  match ps,h1,h2 with
  |[p0,p1,p2,p3],_,h2=>
   have a0:=h2 (0,9) (by simp)
   have a1:=h2 (1,22) (by simp)
   have a2:=h2 (2,3) (by simp)
   have a3:=h2 (3,3) (by simp)
   simp only[co25,co3,co9,List.drop_zero,List.drop_succ_cons,List.take_succ_cons,List.take_zero]at a0 a1 a2 a3
   obtain⟨name,hname,e0⟩:=arg_str a0
   obtain⟨params,hparams,e1⟩:=arg_pms a1
   obtain⟨lo,hlo,e2⟩:=arg_i64 a2
   obtain⟨hi,hhi,e3⟩:=arg_i64 a3
   simp at e0 e1 e2 e3
   refine⟨⟨name,params,lo,hi⟩,⟨hname,hparams,hlo,hhi⟩,?_⟩
   simp only[fuRow,e0,e1,e2,e3,List.cons_append,List.nil_append]
theorem arg_fus{c:Nat}{ps:List PV}(h:Arg Try.prog c 51 ps): ∃ l:List Fu,(l.length≤bigN∧ ∀ a∈l,a.ok)∧ps=[.imm 4 (fuRows l)]:=by
 cases c with
 |zero=>simp[Arg]at h
 |succ c=>
  obtain⟨rows,rfl,h1,_,h2⟩:=Arg_slice Try.underlying51 h
  obtain⟨xs,rfl,h3⟩:=rows_map (Q:=Fu.ok) (f:=fuRow) rows (fun r hr=>arg_fu (h2 r hr).2)
  refine⟨xs,⟨len_le (by simpa using h1) byFu,h3⟩,?_⟩
  rw[coFu];try rfl
theorem partsAc:partsT Try.prog 177=[(0,9),(1,22),(2,3),(3,29),(9,175)]:=by kernel_rfl
theorem coAc:Try.prog.cellsOf 177=10:=by kernel_rfl
theorem byAc:0<Try.prog.bytesOf 177:=by rw[show Try.prog.bytesOf 177=200 by kernel_rfl];omega
theorem coAcs:Try.prog.cellsOf 52=1:=by kernel_rfl
theorem arg_ac{c:Nat}{ps:List PV}(h:Arg Try.prog c 177 ps): ∃ a:Ac,a.ok∧ps=acRow a:=by
 cases c with
 |zero=>simp[Arg]at h
 |succ c=>
  obtain⟨h1,h2⟩:=Arg_struct Try.underlying177 h
  rw[coAc]at h1
  rw[partsAc]at h2
  match ps,h1,h2 with
  |[p0,p1,p2,p3,p4,p5,p6,p7,p8,p9],_,h2=>
   have a0:=h2 (0,9) (by simp)
   have a1:=h2 (1,22) (by simp)
   have a2:=h2 (2,3) (by simp)
   have a3:=h2 (3,29) (by simp)
   have a4:=h2 (9,175) (by simp)
   simp only[co25,co29,co3,co9,coChs,List.drop_zero,List.drop_succ_cons,List.take_succ_cons,List.take_zero]at a0 a1 a2 a3 a4
   obtain⟨name,hname,e0⟩:=arg_str a0
   obtain⟨params,hparams,e1⟩:=arg_pms a1
   obtain⟨cost,hcost,e2⟩:=arg_i64 a2
   obtain⟨pre,hpre,e3⟩:=arg_fm _ a3
   obtain⟨changes,hchanges,e4⟩:=arg_chs a4
   simp at e0 e1 e2 e4
   refine⟨⟨name,params,cost,pre,changes⟩,⟨hname,hparams,hcost,hpre,hchanges⟩,?_⟩
   simp only[acRow,e0,e1,e2,e4, ← e3,List.cons_append,List.nil_append]
theorem arg_acs{c:Nat}{ps:List PV}(h:Arg Try.prog c 52 ps): ∃ l:List Ac,(l.length≤bigN∧ ∀ a∈l,a.ok)∧ps=[.imm 10 (acRows l)]:=by
 cases c with
 |zero=>simp[Arg]at h
 |succ c=>
  obtain⟨rows,rfl,h1,_,h2⟩:=Arg_slice Try.underlying52 h
  obtain⟨xs,rfl,h3⟩:=rows_map (Q:=Ac.ok) (f:=acRow) rows (fun r hr=>arg_ac (h2 r hr).2)
  refine⟨xs,⟨len_le (by simpa using h1) byAc,h3⟩,?_⟩
  rw[coAc];try rfl
theorem partsDu:partsT Try.prog 179=[(0,9),(1,22),(2,3),(3,29),(9,29),(15,29),(21,175),(22,175)]:=by kernel_rfl
theorem coDu:Try.prog.cellsOf 179=23:=by kernel_rfl
theorem byDu:0<Try.prog.bytesOf 179:=by rw[show Try.prog.bytesOf 179=480 by kernel_rfl];omega
theorem coDus:Try.prog.cellsOf 53=1:=by kernel_rfl
theorem arg_du{c:Nat}{ps:List PV}(h:Arg Try.prog c 179 ps): ∃ a:Du,a.ok∧ps=duRow a:=by
 cases c with
 |zero=>simp[Arg]at h
 |succ c=>
  obtain⟨h1,h2⟩:=Arg_struct Try.underlying179 h
  rw[coDu]at h1
  rw[partsDu]at h2
  match ps,h1,h2 with
  |[p0,p1,p2,p3,p4,p5,p6,p7,p8,p9,p10,p11,p12,p13,p14,p15,p16,p17,p18,p19,p20,p21,p22],_,h2=>
   have a0:=h2 (0,9) (by simp)
   have a1:=h2 (1,22) (by simp)
   have a2:=h2 (2,3) (by simp)
   have a3:=h2 (3,29) (by simp)
   have a4:=h2 (9,29) (by simp)
   have a5:=h2 (15,29) (by simp)
   have a6:=h2 (21,175) (by simp)
   have a7:=h2 (22,175) (by simp)
   simp only[co25,co29,co3,co9,coChs,List.drop_zero,List.drop_succ_cons,List.take_succ_cons,List.take_zero]at a0 a1 a2 a3 a4 a5 a6 a7
   obtain⟨name,hname,e0⟩:=arg_str a0
   obtain⟨params,hparams,e1⟩:=arg_pms a1
   obtain⟨duration,hduration,e2⟩:=arg_i64 a2
   obtain⟨start,hstart,e3⟩:=arg_fm _ a3
   obtain⟨over,hover,e4⟩:=arg_fm _ a4
   obtain⟨stop,hstop,e5⟩:=arg_fm _ a5
   obtain⟨atStart,hatStart,e6⟩:=arg_chs a6
   obtain⟨atStop,hatStop,e7⟩:=arg_chs a7
   simp at e0 e1 e2 e6 e7
   refine⟨⟨name,params,duration,start,over,stop,atStart,atStop⟩,⟨hname,hparams,hduration,hstart,hover,hstop,hatStart,hatStop⟩,?_⟩
   simp only[duRow,e0,e1,e2,e6,e7, ← e3, ← e4, ← e5,List.cons_append,List.nil_append]
theorem arg_dus{c:Nat}{ps:List PV}(h:Arg Try.prog c 53 ps): ∃ l:List Du,(l.length≤bigN∧ ∀ a∈l,a.ok)∧ps=[.imm 23 (duRows l)]:=by
 cases c with
 |zero=>simp[Arg]at h
 |succ c=>
  obtain⟨rows,rfl,h1,_,h2⟩:=Arg_slice Try.underlying53 h
  obtain⟨xs,rfl,h3⟩:=rows_map (Q:=Du.ok) (f:=duRow) rows (fun r hr=>arg_du (h2 r hr).2)
  refine⟨xs,⟨len_le (by simpa using h1) byDu,h3⟩,?_⟩
  rw[coDu];try rfl
theorem partsDm:partsT Try.prog 55=[(0,9),(1,22),(2,22),(3,50),(4,51),(5,52),(6,53)]:=by kernel_rfl
theorem coDm:Try.prog.cellsOf 55=7:=by kernel_rfl
theorem arg_dm(c:Nat){ps:List PV}(h:Arg Try.prog c 55 ps): ∃ d:Dm,d.ok∧ps=d.cells:=by
 cases c with
 |zero=>simp[Arg]at h
 |succ c=>
  obtain⟨h1,h2⟩:=Arg_struct Try.underlying55 h
  rw[coDm]at h1
  rw[partsDm]at h2
  match ps,h1,h2 with
  |[p0,p1,p2,p3,p4,p5,p6],_,h2=>
   have a0:=h2 (0,9) (by simp)
   have a1:=h2 (1,22) (by simp)
   have a2:=h2 (2,22) (by simp)
   have a3:=h2 (3,50) (by simp)
   have a4:=h2 (4,51) (by simp)
   have a5:=h2 (5,52) (by simp)
   have a6:=h2 (6,53) (by simp)
   simp only[co9,co25,coPrs,coFus,coAcs,coDus,List.drop_zero,List.drop_succ_cons,List.take_succ_cons,List.take_zero]at a0 a1 a2 a3 a4 a5 a6
   obtain⟨name,hname,e0⟩:=arg_str a0
   obtain⟨types,htypes,e1⟩:=arg_pms a1
   obtain⟨constants,hconstants,e2⟩:=arg_pms a2
   obtain⟨predicates,hpredicates,e3⟩:=arg_prs a3
   obtain⟨functions,hfunctions,e4⟩:=arg_fus a4
   obtain⟨actions,hactions,e5⟩:=arg_acs a5
   obtain⟨duratives,hduratives,e6⟩:=arg_dus a6
   simp at e0 e1 e2 e3 e4 e5 e6
   exact⟨⟨name,types,constants,predicates,functions,actions,duratives⟩,⟨hname,htypes,hconstants,hpredicates,hfunctions,hactions,hduratives⟩,by simp only[Dm.cells,e0,e1,e2,e3,e4,e5,e6]⟩
end Go.Proofs.Ytjeolbgpllbemaa
namespace Go.Proofs.Ytjeolbgpllbemaa
open Go.AM
set_option maxHeartbeats 1000000
set_option maxRecDepth 20000
def pbTs:List TypeId:=recTs++[31,48,23,62,24]
theorem partsAt:partsT Try.prog 48=[(0,9),(1,25)]:=by kernel_rfl
theorem partsVl:partsT Try.prog 62=[(0,48),(2,3)]:=by kernel_rfl
theorem partsPb:partsT Try.prog 31=[(0,9),(1,9),(2,22),(3,23),(4,24),(5,29)]:=by kernel_rfl
theorem coAt:Try.prog.cellsOf 48=2:=by kernel_rfl
theorem coVl:Try.prog.cellsOf 62=3:=by kernel_rfl
theorem coPb:Try.prog.cellsOf 31=11:=by kernel_rfl
theorem coAts:Try.prog.cellsOf 23=1:=by kernel_rfl
theorem coVls:Try.prog.cellsOf 24=1:=by kernel_rfl
theorem byAt:0<Try.prog.bytesOf 48:=by rw[show Try.prog.bytesOf 48=40 by kernel_rfl];omega
theorem byVl:0<Try.prog.bytesOf 62:=by rw[show Try.prog.bytesOf 62=48 by kernel_rfl];omega
theorem arg_at{c:Nat}{ps:List PV}(h:Arg Try.prog c 48 ps): ∃ a:At,a.ok∧ps=atRow a:=by
 cases c with
 |zero=>simp[Arg]at h
 |succ c=>
  obtain⟨h1,h2⟩:=Arg_struct Try.underlying48 h
  rw[coAt]at h1
  rw[partsAt]at h2
  match ps,h1,h2 with
  |[p0,p1],_,h2=>
   have a0:=h2 (0,9) (by simp)
   have a1:=h2 (1,25) (by simp)
   simp only[co9,co24,List.drop_zero,List.drop_succ_cons,List.take_succ_cons,List.take_zero]at a0 a1
   obtain⟨s,hs,e1⟩:=arg_str a0
   obtain⟨t,ht,e2⟩:=arg_strs a1
   simp at e1 e2
   exact⟨⟨s,t⟩,⟨hs,ht⟩,by simp[atRow,e1,e2]⟩
theorem arg_ats{c:Nat}{ps:List PV}(h:Arg Try.prog c 23 ps): ∃ l:List At,(l.length≤bigN∧ ∀ a∈l,a.ok)∧ps=[.imm 2 (atRows l)]:=by
 cases c with
 |zero=>simp[Arg]at h
 |succ c=>
  obtain⟨rows,rfl,h1,_,h2⟩:=Arg_slice Try.underlying23 h
  obtain⟨xs,rfl,h3⟩:=rows_map (Q:=At.ok) (f:=atRow) rows (fun r hr=>arg_at (h2 r hr).2)
  refine⟨xs,⟨len_le (by simpa using h1) byAt,h3⟩,?_⟩
  rw[coAt];try rfl
theorem arg_vl{c:Nat}{ps:List PV}(h:Arg Try.prog c 62 ps): ∃ a:Vl,a.okS∧ps=vlRow a:=by
 cases c with
 |zero=>simp[Arg]at h
 |succ c=>
  obtain⟨h1,h2⟩:=Arg_struct Try.underlying62 h
  rw[coVl]at h1
  rw[partsVl]at h2
  match ps,h1,h2 with
  |[p0,p1,p2],_,h2=>
   have a0:=h2 (0,48) (by simp)
   have a1:=h2 (2,3) (by simp)
   simp only[coAt,co3,List.drop_zero,List.drop_succ_cons,List.take_succ_cons,List.take_zero]at a0 a1
   obtain⟨s,hs,e1⟩:=arg_at a0
   obtain⟨n,hn,e2⟩:=arg_i64 a1
   simp[atRow]at e1 e2
   exact⟨⟨s,n⟩,hs,by simp[vlRow,e1,e2]⟩
theorem arg_vls{c:Nat}{ps:List PV}(h:Arg Try.prog c 24 ps): ∃ l:List Vl,(l.length≤bigN∧ ∀ a∈l,a.okS)∧ps=[.imm 3 (vlRows l)]:=by
 cases c with
 |zero=>simp[Arg]at h
 |succ c=>
  obtain⟨rows,rfl,h1,_,h2⟩:=Arg_slice Try.underlying24 h
  obtain⟨xs,rfl,h3⟩:=rows_map (Q:=Vl.okS) (f:=vlRow) rows (fun r hr=>arg_vl (h2 r hr).2)
  refine⟨xs,⟨len_le (by simpa using h1) byVl,h3⟩,?_⟩
  rw[coVl];try rfl
theorem arg_pb(c:Nat){ps:List PV}(h:Arg Try.prog c 31 ps): ∃ p:Pb,p.okS∧ps=p.cells:=by
 cases c with
 |zero=>simp[Arg]at h
 |succ c=>
  obtain⟨h1,h2⟩:=Arg_struct Try.underlying31 h
  rw[coPb]at h1
  rw[partsPb]at h2
  match ps,h1,h2 with
  |[p0,p1,p2,p3,p4,p5,p6,p7,p8,p9,p10],_,h2=>
   have a0:=h2 (0,9) (by simp)
   have a1:=h2 (1,9) (by simp)
   have a2:=h2 (2,22) (by simp)
   have a3:=h2 (3,23) (by simp)
   have a4:=h2 (4,24) (by simp)
   have a5:=h2 (5,29) (by simp)
   simp only[co9,co25,coAts,coVls,co29,List.drop_zero,List.drop_succ_cons,List.take_succ_cons,List.take_zero]at a0 a1 a2 a3 a4 a5
   obtain⟨name,hname,e0⟩:=arg_str a0
   obtain⟨domain,hdomain,e1⟩:=arg_str a1
   obtain⟨objects,hobjects,e2⟩:=arg_pms a2
   obtain⟨init,hinit,e3⟩:=arg_ats a3
   obtain⟨values,hvalues,e4⟩:=arg_vls a4
   obtain⟨goal,hgoal,e5⟩:=arg_fm _ a5
   simp at e0 e1 e2 e3 e4
   refine⟨⟨name,domain,objects,init,values,goal⟩,⟨hobjects.1,hinit,hvalues,hgoal⟩,?_⟩
   simp only[Pb.cells,e0,e1,e2,e3,e4,List.cons_append,List.nil_append]
   rw[← e5]
end Go.Proofs.Ytjeolbgpllbemaa
namespace Go.Proofs.Ytjeolbgpllbemaa
open Go.AM
set_option maxHeartbeats 8000000
set_option maxRecDepth 20000
structure PbSm(p:Pb):Prop where
 g:p.goal.small
 o:p.objects.length≤1048576
 i:p.init.length≤1048576
 v:p.values.length≤1048576
 ia: ∀ a∈p.init,a.args.length≤1048576
 va: ∀ v∈p.values,v.at_.args.length≤1048576
end Go.Proofs.Ytjeolbgpllbemaa
namespace Go.Proofs.Ytjeolbgpllbemaa
open Go.AM
set_option maxHeartbeats 4000000
set_option maxRecDepth 20000
theorem bulkR_ats: ∀ l:List At,l.length≤PV.bulkR (atRows l)∧ ∀ a∈l,a.args.length≤PV.bulkR (atRows l)
 |[]=>by simp
 |a::l=>by
  have ih:=bulkR_ats l
  have hs:=bulkR_strs a.args
  have e:PV.bulkR (atRows (a::l))=PV.bulkL (atRow a)+PV.bulkR (atRows l):=rfl
  have e2:PV.bulkR (strRows a.args)+1≤PV.bulkL (atRow a):=by simp only[atRow,PV.bulkL,PV.bulk];omega
  rw[e]
  refine⟨by simp only[List.length_cons];omega,?_⟩
  intro b hb
  rcases List.mem_cons.1 hb with rfl|hb
  ·omega
  ·have:=ih.2 b hb;omega
theorem bulkR_vls: ∀ l:List Vl,l.length≤PV.bulkR (vlRows l)∧ ∀ a∈l,a.at_.args.length≤PV.bulkR (vlRows l)
 |[]=>by simp
 |a::l=>by
  have ih:=bulkR_vls l
  have hs:=bulkR_strs a.at_.args
  have e:PV.bulkR (vlRows (a::l))=PV.bulkL (vlRow a)+PV.bulkR (vlRows l):=rfl
  have e2:PV.bulkR (strRows a.at_.args)+1≤PV.bulkL (vlRow a):=by simp only[vlRow,PV.bulkL,PV.bulk];omega
  rw[e]
  refine⟨by simp only[List.length_cons];omega,?_⟩
  intro b hb
  rcases List.mem_cons.1 hb with rfl|hb
  ·omega
  ·have:=ih.2 b hb;omega
theorem pb_small{p:Pb}(hb:PV.bulkL p.cells≤1048576):PbSm p:=by
 obtain⟨name,domain,objects,init,values,goal⟩:=p
 have h1:=bulkR_pms objects
 have h2:=bulkR_ats init
 have h3:=bulkR_vls values
 have hg:PV.bulkL goal.cells+PV.bulkR (pmRows objects)+PV.bulkR (atRows init)+PV.bulkR (vlRows values)≤PV.bulkL (Pb.cells ⟨name,domain,objects,init,values,goal⟩):=by
  obtain⟨op,gn,ga,gp,ge,gk⟩:=goal
  simp only[Pb.cells,Fm.cells,List.cons_append,List.nil_append,PV.bulkL,PV.bulk]
  omega
 exact⟨Fm.small_bulk goal (by omega),by simp only;omega,by simp only;omega,by simp only;omega,fun a ha=>by have:=h2.2 a ha;omega,fun a ha=>by have:=h3.2 a ha;omega⟩
end Go.Proofs.Ytjeolbgpllbemaa
