/- What the claim rests on, part 3: the abstract machine, contracts of the functions, plain data. -/
import Derived.Test.YtjlkapgpjamnkaaProg
import Derived.Test.YtjlkapgpjamnkaaZp2
set_option linter.unusedVariables false
set_option linter.unusedSimpArgs false
set_option linter.unusedSectionVars false
namespace Go.Proofs.Ytjlkapgpjamnkaa
open Go.AM
namespace Ty
theorem mixed : Try.prog.follows .mixedOrders = true := by kernel_rfl
theorem hb_15 : hasBody Try.prog 15 = true := by kernel_rfl
theorem hb_16 : hasBody Try.prog 16 = true := by kernel_rfl
theorem kT_4 : kT Try.prog 4 = 1 := by kernel_rfl
theorem hb_17 : hasBody Try.prog 17 = true := by kernel_rfl
theorem hb_18 : hasBody Try.prog 18 = true := by kernel_rfl
theorem szT_29 : szT Try.prog 29 = some 6 := by kernel_rfl
theorem aggB_29 : aggB Try.prog 29 = true := by kernel_rfl
theorem hb_20 : hasBody Try.prog 20 = true := by kernel_rfl
theorem kT_29 : kT Try.prog 29 = 8 := by kernel_rfl
theorem zeroT_29 : zeroT Try.prog 29 = some [.string ⟨#[]⟩, .string ⟨#[]⟩, .slice none 0 0, .slice none 0 0, .slice none 0 0, .slice none 0 0] := by kernel_rfl
theorem fieldsT_29 : fieldsT Try.prog 29 = some [(0, 1), (1, 1), (2, 1), (3, 1), (4, 1), (5, 1)] := by kernel_rfl
theorem hb_21 : hasBody Try.prog 21 = true := by kernel_rfl
theorem kT_3 : kT Try.prog 3 = 2 := by kernel_rfl
theorem hb_26 : hasBody Try.prog 26 = true := by kernel_rfl
theorem kT_37 : kT Try.prog 37 = 8 := by kernel_rfl
theorem zeroT_37 : zeroT Try.prog 37 = some [.slice none 0 0, .slice none 0 0] := by kernel_rfl
theorem fieldsT_37 : fieldsT Try.prog 37 = some [(0, 1), (1, 1)] := by kernel_rfl
theorem zeroT_41 : zeroT Try.prog 41 = some [.int .i64 0, .int .i64 0, .int .i64 0, .int .i64 0, .string ⟨#[]⟩, .slice none 0 0] := by kernel_rfl
theorem szT_41 : szT Try.prog 41 = some 6 := by kernel_rfl
theorem aggB_41 : aggB Try.prog 41 = true := by kernel_rfl
theorem elT_39 : elT Try.prog 39 = some (6, 72) := by kernel_rfl
theorem elZ_39 : elZ Try.prog 39 = some [.int .i64 0, .int .i64 0, .int .i64 0, .int .i64 0, .string ⟨#[]⟩, .slice none 0 0] := by kernel_rfl
theorem kT_41 : kT Try.prog 41 = 8 := by kernel_rfl
theorem fieldsT_41 : fieldsT Try.prog 41 = some [(0, 1), (1, 1), (2, 1), (3, 1), (4, 1), (5, 1)] := by kernel_rfl
theorem kT_43 : kT Try.prog 43 = 7 := by kernel_rfl
theorem hb_31 : hasBody Try.prog 31 = true := by kernel_rfl
theorem hb_32 : hasBody Try.prog 32 = true := by kernel_rfl
theorem hb_33 : hasBody Try.prog 33 = true := by kernel_rfl
theorem hb_34 : hasBody Try.prog 34 = true := by kernel_rfl
theorem hb_35 : hasBody Try.prog 35 = true := by kernel_rfl
theorem hb_36 : hasBody Try.prog 36 = true := by kernel_rfl
theorem zeroT_57 : zeroT Try.prog 57 = some [.string ⟨#[]⟩, .string ⟨#[]⟩, .int .i64 0, .slice none 0 0, .slice none 0 0] := by kernel_rfl
theorem szT_57 : szT Try.prog 57 = some 5 := by kernel_rfl
theorem aggB_57 : aggB Try.prog 57 = true := by kernel_rfl
theorem hb_37 : hasBody Try.prog 37 = true := by kernel_rfl
theorem hb_38 : hasBody Try.prog 38 = true := by kernel_rfl
theorem hb_41 : hasBody Try.prog 41 = true := by kernel_rfl
theorem hb_42 : hasBody Try.prog 42 = true := by kernel_rfl
theorem hb_43 : hasBody Try.prog 43 = true := by kernel_rfl
theorem fldT_37_0 : fldT Try.prog 37 0 = some (0, 1, false) := by kernel_rfl
theorem szT_24 : szT Try.prog 24 = some 1 := by kernel_rfl
theorem aggB_24 : aggB Try.prog 24 = false := by kernel_rfl
theorem kT_24 : kT Try.prog 24 = 5 := by kernel_rfl
theorem fldT_37_1 : fldT Try.prog 37 1 = some (1, 1, false) := by kernel_rfl
theorem fldT_29_0 : fldT Try.prog 29 0 = some (0, 1, false) := by kernel_rfl
theorem szT_9 : szT Try.prog 9 = some 1 := by kernel_rfl
theorem aggB_9 : aggB Try.prog 9 = false := by kernel_rfl
theorem kT_9 : kT Try.prog 9 = 3 := by kernel_rfl
theorem kT_5 : kT Try.prog 5 = 2 := by kernel_rfl
theorem elT_24 : elT Try.prog 24 = some (1, 16) := by kernel_rfl
theorem elZ_24 : elZ Try.prog 24 = some [.string ⟨#[]⟩] := by kernel_rfl
theorem fldT_29_5 : fldT Try.prog 29 5 = some (5, 1, false) := by kernel_rfl
theorem szT_27 : szT Try.prog 27 = some 1 := by kernel_rfl
theorem aggB_27 : aggB Try.prog 27 = false := by kernel_rfl
theorem kT_27 : kT Try.prog 27 = 5 := by kernel_rfl
theorem elT_27 : elT Try.prog 27 = some (6, 128) := by kernel_rfl
theorem hb_55 : hasBody Try.prog 55 = true := by kernel_rfl
theorem hb_54 : hasBody Try.prog 54 = true := by kernel_rfl
theorem hb_56 : hasBody Try.prog 56 = true := by kernel_rfl
theorem hb_57 : hasBody Try.prog 57 = true := by kernel_rfl
theorem hb_58 : hasBody Try.prog 58 = true := by kernel_rfl
theorem fldT_29_1 : fldT Try.prog 29 1 = some (1, 1, false) := by kernel_rfl
theorem fldT_29_2 : fldT Try.prog 29 2 = some (2, 1, false) := by kernel_rfl
theorem hb_59 : hasBody Try.prog 59 = true := by kernel_rfl
theorem fldT_29_3 : fldT Try.prog 29 3 = some (3, 1, false) := by kernel_rfl
theorem szT_25 : szT Try.prog 25 = some 1 := by kernel_rfl
theorem aggB_25 : aggB Try.prog 25 = false := by kernel_rfl
theorem hb_60 : hasBody Try.prog 60 = true := by kernel_rfl
theorem fldT_29_4 : fldT Try.prog 29 4 = some (4, 1, false) := by kernel_rfl
theorem szT_26 : szT Try.prog 26 = some 1 := by kernel_rfl
theorem aggB_26 : aggB Try.prog 26 = false := by kernel_rfl
theorem kT_26 : kT Try.prog 26 = 5 := by kernel_rfl
theorem elT_26 : elT Try.prog 26 = some (5, 88) := by kernel_rfl
theorem kT_25 : kT Try.prog 25 = 5 := by kernel_rfl
theorem kT_81 : kT Try.prog 81 = 8 := by kernel_rfl
theorem zeroT_81 : zeroT Try.prog 81 = some [.int .i64 0] := by kernel_rfl
theorem fieldsT_81 : fieldsT Try.prog 81 = some [(0, 1)] := by kernel_rfl
theorem hb_63 : hasBody Try.prog 63 = true := by kernel_rfl
theorem hb_65 : hasBody Try.prog 65 = true := by kernel_rfl
theorem hb_64 : hasBody Try.prog 64 = true := by kernel_rfl
theorem kT_33 : kT Try.prog 33 = 2 := by kernel_rfl
theorem szT_37 : szT Try.prog 37 = some 2 := by kernel_rfl
theorem aggB_37 : aggB Try.prog 37 = true := by kernel_rfl
theorem kT_47 : kT Try.prog 47 = 2 := by kernel_rfl
theorem kT_39 : kT Try.prog 39 = 5 := by kernel_rfl
theorem fldT_41_0 : fldT Try.prog 41 0 = some (0, 1, false) := by kernel_rfl
theorem szT_3 : szT Try.prog 3 = some 1 := by kernel_rfl
theorem aggB_3 : aggB Try.prog 3 = false := by kernel_rfl
theorem fldT_41_1 : fldT Try.prog 41 1 = some (1, 1, false) := by kernel_rfl
theorem fldT_41_4 : fldT Try.prog 41 4 = some (4, 1, false) := by kernel_rfl
theorem fldT_41_2 : fldT Try.prog 41 2 = some (2, 1, false) := by kernel_rfl
theorem fldT_41_3 : fldT Try.prog 41 3 = some (3, 1, false) := by kernel_rfl
theorem fldT_41_5 : fldT Try.prog 41 5 = some (5, 1, false) := by kernel_rfl
theorem szT_39 : szT Try.prog 39 = some 1 := by kernel_rfl
theorem aggB_39 : aggB Try.prog 39 = false := by kernel_rfl
theorem hb_70 : hasBody Try.prog 70 = true := by kernel_rfl
theorem hb_71 : hasBody Try.prog 71 = true := by kernel_rfl
theorem hb_72 : hasBody Try.prog 72 = true := by kernel_rfl
theorem hb_73 : hasBody Try.prog 73 = true := by kernel_rfl
theorem hb_74 : hasBody Try.prog 74 = true := by kernel_rfl
theorem zvT_47 : zvT Try.prog 47 = some (.int .i64 0) := by kernel_rfl
theorem kT_57 : kT Try.prog 57 = 8 := by kernel_rfl
theorem fieldsT_57 : fieldsT Try.prog 57 = some [(0, 1), (1, 1), (2, 1), (3, 1), (4, 1)] := by kernel_rfl
theorem hb_75 : hasBody Try.prog 75 = true := by kernel_rfl
theorem hb_76 : hasBody Try.prog 76 = true := by kernel_rfl
theorem fldT_57_0 : fldT Try.prog 57 0 = some (0, 1, false) := by kernel_rfl
theorem fldT_57_1 : fldT Try.prog 57 1 = some (1, 1, false) := by kernel_rfl
theorem fldT_57_2 : fldT Try.prog 57 2 = some (2, 1, false) := by kernel_rfl
theorem fldT_57_3 : fldT Try.prog 57 3 = some (3, 1, false) := by kernel_rfl
theorem fldT_57_4 : fldT Try.prog 57 4 = some (4, 1, false) := by kernel_rfl
theorem hb_77 : hasBody Try.prog 77 = true := by kernel_rfl
theorem hb_78 : hasBody Try.prog 78 = true := by kernel_rfl
theorem hb_79 : hasBody Try.prog 79 = true := by kernel_rfl
theorem hb_80 : hasBody Try.prog 80 = true := by kernel_rfl
theorem elT_25 : elT Try.prog 25 = some (2, 32) := by kernel_rfl
theorem elZ_25 : elZ Try.prog 25 = some [.string ⟨#[]⟩, .string ⟨#[]⟩] := by kernel_rfl
theorem elZ_26 : elZ Try.prog 26 = some [.string ⟨#[]⟩, .string ⟨#[]⟩, .int .i64 0, .slice none 0 0, .slice none 0 0] := by kernel_rfl
theorem elZ_27 : elZ Try.prog 27 = some [.string ⟨#[]⟩, .string ⟨#[]⟩, .slice none 0 0, .slice none 0 0, .slice none 0 0, .slice none 0 0] := by kernel_rfl
theorem hb_95 : hasBody Try.prog 95 = true := by kernel_rfl
theorem hb_96 : hasBody Try.prog 96 = true := by kernel_rfl
theorem hb_97 : hasBody Try.prog 97 = true := by kernel_rfl
theorem hb_98 : hasBody Try.prog 98 = true := by kernel_rfl
theorem szT_99 : szT Try.prog 99 = some 2 := by kernel_rfl
theorem aggB_99 : aggB Try.prog 99 = true := by kernel_rfl
theorem kT_99 : kT Try.prog 99 = 8 := by kernel_rfl
theorem strsT_99 : strsT Try.prog 99 = some 2 := by kernel_rfl
theorem hb_103 : hasBody Try.prog 103 = true := by kernel_rfl
theorem hb_104 : hasBody Try.prog 104 = true := by kernel_rfl
theorem zeroT_99 : zeroT Try.prog 99 = some [.string ⟨#[]⟩, .string ⟨#[]⟩] := by kernel_rfl
theorem fldT_99_0 : fldT Try.prog 99 0 = some (0, 1, false) := by kernel_rfl
theorem fldT_99_1 : fldT Try.prog 99 1 = some (1, 1, false) := by kernel_rfl
theorem hb_107 : hasBody Try.prog 107 = true := by kernel_rfl
theorem zeroT_3 : zeroT Try.prog 3 = some [.int .i64 0] := by kernel_rfl
theorem hb_108 : hasBody Try.prog 108 = true := by kernel_rfl
theorem hb_109 : hasBody Try.prog 109 = true := by kernel_rfl
theorem hb_111 : hasBody Try.prog 111 = true := by kernel_rfl
theorem hb_110 : hasBody Try.prog 110 = true := by kernel_rfl
theorem hb_112 : hasBody Try.prog 112 = true := by kernel_rfl
theorem intT_5 : intT Try.prog 5 = some .u8 := by kernel_rfl
theorem intT_33 : intT Try.prog 33 = some .u32 := by kernel_rfl
theorem intT_3 : intT Try.prog 3 = some .i64 := by kernel_rfl
theorem hb_113 : hasBody Try.prog 113 = true := by kernel_rfl
theorem hb_114 : hasBody Try.prog 114 = true := by kernel_rfl
theorem hb_115 : hasBody Try.prog 115 = true := by kernel_rfl
theorem hb_116 : hasBody Try.prog 116 = true := by kernel_rfl
theorem hb_117 : hasBody Try.prog 117 = true := by kernel_rfl
theorem hb_118 : hasBody Try.prog 118 = true := by kernel_rfl
theorem hb_119 : hasBody Try.prog 119 = true := by kernel_rfl
theorem hb_120 : hasBody Try.prog 120 = true := by kernel_rfl
theorem hb_121 : hasBody Try.prog 121 = true := by kernel_rfl
theorem hb_122 : hasBody Try.prog 122 = true := by kernel_rfl
theorem hb_123 : hasBody Try.prog 123 = true := by kernel_rfl
theorem hb_125 : hasBody Try.prog 125 = true := by kernel_rfl
theorem hb_106 : hasBody Try.prog 106 = true := by kernel_rfl
theorem mapT_92 : mapT Try.prog 92 = some (3, (.string ⟨#[]⟩)) := by kernel_rfl
theorem intT_116 : intT Try.prog 116 = some .u64 := by kernel_rfl
theorem kT_116 : kT Try.prog 116 = 2 := by kernel_rfl
theorem hb_134 : hasBody Try.prog 134 = true := by kernel_rfl
theorem fldT_81_0 : fldT Try.prog 81 0 = some (0, 1, false) := by kernel_rfl
theorem hb_135 : hasBody Try.prog 135 = true := by kernel_rfl
theorem hb_136 : hasBody Try.prog 136 = true := by kernel_rfl
theorem hb_137 : hasBody Try.prog 137 = true := by kernel_rfl
theorem fieldsT_99 : fieldsT Try.prog 99 = some [(0, 1), (1, 1)] := by kernel_rfl
theorem hb_138 : hasBody Try.prog 138 = true := by kernel_rfl
theorem kT_147 : kT Try.prog 147 = 2 := by kernel_rfl
theorem hb_151 : hasBody Try.prog 151 = true := by kernel_rfl
theorem hb_152 : hasBody Try.prog 152 = true := by kernel_rfl
theorem intT_9 : intT Try.prog 9 = none := by kernel_rfl
theorem intT_159 : intT Try.prog 159 = none := by kernel_rfl
theorem kT_159 : kT Try.prog 159 = 5 := by kernel_rfl
theorem u8T_159 : u8T Try.prog 159 = true := by kernel_rfl
theorem elT_159 : elT Try.prog 159 = some (1, 1) := by kernel_rfl
theorem szT_5 : szT Try.prog 5 = some 1 := by kernel_rfl
theorem aggB_5 : aggB Try.prog 5 = false := by kernel_rfl
theorem hb_153 : hasBody Try.prog 153 = true := by kernel_rfl
theorem hb_154 : hasBody Try.prog 154 = true := by kernel_rfl
theorem hb_155 : hasBody Try.prog 155 = true := by kernel_rfl
theorem intT_162 : intT Try.prog 162 = some .u64 := by kernel_rfl
theorem kT_162 : kT Try.prog 162 = 2 := by kernel_rfl
theorem zeroT_162 : zeroT Try.prog 162 = some [.int .u64 0] := by kernel_rfl
theorem szT_162 : szT Try.prog 162 = some 1 := by kernel_rfl
theorem aggB_162 : aggB Try.prog 162 = false := by kernel_rfl
theorem kT_157 : kT Try.prog 157 = 2 := by kernel_rfl
theorem intT_157 : intT Try.prog 157 = some .u64 := by kernel_rfl
theorem hb_162 : hasBody Try.prog 162 = true := by kernel_rfl
theorem hb_163 : hasBody Try.prog 163 = true := by kernel_rfl
theorem hb_164 : hasBody Try.prog 164 = true := by kernel_rfl
theorem hb_167 : hasBody Try.prog 167 = true := by kernel_rfl
theorem hb_7 : hasBody Try.prog 7 = true := by kernel_rfl
theorem hb_105 : hasBody Try.prog 105 = true := by kernel_rfl
theorem hb_124 : hasBody Try.prog 124 = true := by kernel_rfl
set_option maxRecDepth 20000
theorem all : type_of% (And.intro kT_4 (And.intro szT_29 (And.intro aggB_29 (And.intro kT_29 (And.intro zeroT_29 (And.intro fieldsT_29 (And.intro kT_3 (And.intro kT_37 (And.intro zeroT_37 (And.intro fieldsT_37 (And.intro zeroT_41 (And.intro szT_41 (And.intro aggB_41 (And.intro elT_39 (And.intro elZ_39 (And.intro kT_41 (And.intro fieldsT_41 (And.intro kT_43 (And.intro zeroT_57 (And.intro szT_57 (And.intro aggB_57 (And.intro fldT_37_0 (And.intro szT_24 (And.intro aggB_24 (And.intro kT_24 (And.intro fldT_37_1 (And.intro fldT_29_0 (And.intro szT_9 (And.intro aggB_9 (And.intro kT_9 (And.intro kT_5 (And.intro elT_24 (And.intro elZ_24 (And.intro fldT_29_5 (And.intro szT_27 (And.intro aggB_27 (And.intro kT_27 (And.intro elT_27 (And.intro fldT_29_1 (And.intro fldT_29_2 (And.intro fldT_29_3 (And.intro szT_25 (And.intro aggB_25 (And.intro fldT_29_4 (And.intro szT_26 (And.intro aggB_26 (And.intro kT_26 (And.intro elT_26 (And.intro kT_25 (And.intro kT_81 (And.intro zeroT_81 (And.intro fieldsT_81 (And.intro kT_33 (And.intro szT_37 (And.intro aggB_37 (And.intro kT_47 (And.intro kT_39 (And.intro fldT_41_0 (And.intro szT_3 (And.intro aggB_3 (And.intro fldT_41_1 (And.intro fldT_41_4 (And.intro fldT_41_2 (And.intro fldT_41_3 (And.intro fldT_41_5 (And.intro szT_39 (And.intro aggB_39 (And.intro zvT_47 (And.intro kT_57 (And.intro fieldsT_57 (And.intro fldT_57_0 (And.intro fldT_57_1 (And.intro fldT_57_2 (And.intro fldT_57_3 (And.intro fldT_57_4 (And.intro elT_25 (And.intro elZ_25 (And.intro elZ_26 (And.intro elZ_27 (And.intro szT_99 (And.intro aggB_99 (And.intro kT_99 (And.intro strsT_99 (And.intro zeroT_99 (And.intro fldT_99_0 (And.intro fldT_99_1 (And.intro zeroT_3 (And.intro intT_5 (And.intro intT_33 (And.intro intT_3 (And.intro mapT_92 (And.intro intT_116 (And.intro kT_116 (And.intro fldT_81_0 (And.intro fieldsT_99 (And.intro kT_147 (And.intro intT_9 (And.intro intT_159 (And.intro kT_159 (And.intro u8T_159 (And.intro elT_159 (And.intro szT_5 (And.intro aggB_5 (And.intro intT_162 (And.intro kT_162 (And.intro zeroT_162 (And.intro szT_162 (And.intro aggB_162 (And.intro kT_157 (intT_157)))))))))))))))))))))))))))))))))))))))))))))))))))))))))))))))))))))))))))))))))))))))))))))))))))))))))))))) := And.intro kT_4 (And.intro szT_29 (And.intro aggB_29 (And.intro kT_29 (And.intro zeroT_29 (And.intro fieldsT_29 (And.intro kT_3 (And.intro kT_37 (And.intro zeroT_37 (And.intro fieldsT_37 (And.intro zeroT_41 (And.intro szT_41 (And.intro aggB_41 (And.intro elT_39 (And.intro elZ_39 (And.intro kT_41 (And.intro fieldsT_41 (And.intro kT_43 (And.intro zeroT_57 (And.intro szT_57 (And.intro aggB_57 (And.intro fldT_37_0 (And.intro szT_24 (And.intro aggB_24 (And.intro kT_24 (And.intro fldT_37_1 (And.intro fldT_29_0 (And.intro szT_9 (And.intro aggB_9 (And.intro kT_9 (And.intro kT_5 (And.intro elT_24 (And.intro elZ_24 (And.intro fldT_29_5 (And.intro szT_27 (And.intro aggB_27 (And.intro kT_27 (And.intro elT_27 (And.intro fldT_29_1 (And.intro fldT_29_2 (And.intro fldT_29_3 (And.intro szT_25 (And.intro aggB_25 (And.intro fldT_29_4 (And.intro szT_26 (And.intro aggB_26 (And.intro kT_26 (And.intro elT_26 (And.intro kT_25 (And.intro kT_81 (And.intro zeroT_81 (And.intro fieldsT_81 (And.intro kT_33 (And.intro szT_37 (And.intro aggB_37 (And.intro kT_47 (And.intro kT_39 (And.intro fldT_41_0 (And.intro szT_3 (And.intro aggB_3 (And.intro fldT_41_1 (And.intro fldT_41_4 (And.intro fldT_41_2 (And.intro fldT_41_3 (And.intro fldT_41_5 (And.intro szT_39 (And.intro aggB_39 (And.intro zvT_47 (And.intro kT_57 (And.intro fieldsT_57 (And.intro fldT_57_0 (And.intro fldT_57_1 (And.intro fldT_57_2 (And.intro fldT_57_3 (And.intro fldT_57_4 (And.intro elT_25 (And.intro elZ_25 (And.intro elZ_26 (And.intro elZ_27 (And.intro szT_99 (And.intro aggB_99 (And.intro kT_99 (And.intro strsT_99 (And.intro zeroT_99 (And.intro fldT_99_0 (And.intro fldT_99_1 (And.intro zeroT_3 (And.intro intT_5 (And.intro intT_33 (And.intro intT_3 (And.intro mapT_92 (And.intro intT_116 (And.intro kT_116 (And.intro fldT_81_0 (And.intro fieldsT_99 (And.intro kT_147 (And.intro intT_9 (And.intro intT_159 (And.intro kT_159 (And.intro u8T_159 (And.intro elT_159 (And.intro szT_5 (And.intro aggB_5 (And.intro intT_162 (And.intro kT_162 (And.intro zeroT_162 (And.intro szT_162 (And.intro aggB_162 (And.intro kT_157 (intT_157)))))))))))))))))))))))))))))))))))))))))))))))))))))))))))))))))))))))))))))))))))))))))))))))))))))))))))))
theorem w : type_of% (And.intro @w0 @all) := And.intro @w0 @all
end Ty
end Go.Proofs.Ytjlkapgpjamnkaa
namespace Go.AM
structure Pm where
 name : ByteArray
 type : ByteArray
inductive Ex where
 | mk (op name : ByteArray) (n : Int) (args : List ByteArray) (kids : List Ex)
inductive Fm where
 | mk (op name : ByteArray) (args : List ByteArray) (params : List Pm) (exprs : List Ex) (kids : List Fm)
abbrev sPV (s : ByteArray) : PV := .sc (.string s)
def strRows (l : List ByteArray) : List (List PV) := l.map fun s => [sPV s]
def pmRow (p : Pm) : List PV := [sPV p.name, sPV p.type]
def pmRows (l : List Pm) : List (List PV) := l.map pmRow
theorem pmRows_len (l : List Pm) : (pmRows l).length = l.length := by simp [pmRows]
theorem pmRows_get {l : List Pm} {i : Nat} {p : Pm} (h : l[i]? = some p) : (pmRows l)[i]? = some [sPV p.name, sPV p.type] := by simp [pmRows, h, pmRow]
mutual
def Ex.cells : Ex → List PV
 | .mk op name n args kids => [sPV op, sPV name, .sc (.int .i64 n), .imm 1 (strRows args), .imm 5 (Ex.rows kids)]
def Ex.rows : List Ex → List (List PV)
 | [] => []
 | k :: ks => k.cells :: Ex.rows ks
end
mutual
def Fm.cells : Fm → List PV
 | .mk op name args params exprs kids => [sPV op, sPV name, .imm 1 (strRows args), .imm 2 (pmRows params), .imm 5 (Ex.rows exprs), .imm 6 (Fm.rows kids)]
def Fm.rows : List Fm → List (List PV)
 | [] => []
 | k :: ks => k.cells :: Fm.rows ks
end
theorem Ex.rows_map : ∀ l : List Ex, Ex.rows l = l.map Ex.cells
 | [] => rfl
 | k :: ks => by simp [Ex.rows, Ex.rows_map ks]
theorem Fm.rows_map : ∀ l : List Fm, Fm.rows l = l.map Fm.cells
 | [] => rfl
 | k :: ks => by simp [Fm.rows, Fm.rows_map ks]
def bEq (a b : ByteArray) : Bool := a.data.toList == b.data.toList
def bsEq : List ByteArray → List ByteArray → Bool
 | [], [] => true
 | a :: l, b :: m => bEq a b && bsEq l m
 | _, _ => false
def pmEq (a b : Pm) : Bool := bEq a.name b.name && bEq a.type b.type
def pmsEq : List Pm → List Pm → Bool
 | [], [] => true
 | a :: l, b :: m => pmEq a b && pmsEq l m
 | _, _ => false
mutual
def Ex.same : Ex → Ex → Bool
 | .mk op name n args kids, .mk op' name' n' args' kids' => bEq op op' && bEq name name' && n == n' && bsEq args args' && Ex.sames kids kids'
def Ex.sames : List Ex → List Ex → Bool
 | [], [] => true
 | a :: l, b :: m => a.same b && Ex.sames l m
 | _, _ => false
end
mutual
def Fm.same : Fm → Fm → Bool
 | .mk op name args params exprs kids, .mk op' name' args' params' exprs' kids' => bEq op op' && bEq name name' && bsEq args args' && pmsEq params params' && Ex.sames exprs exprs' && Fm.sames kids kids'
def Fm.sames : List Fm → List Fm → Bool
 | [], [] => true
 | a :: l, b :: m => a.same b && Fm.sames l m
 | _, _ => false
end
theorem Ex.rows_len (l : List Ex) : (Ex.rows l).length = l.length := by simp [Ex.rows_map]
theorem Fm.rows_len (l : List Fm) : (Fm.rows l).length = l.length := by simp [Fm.rows_map]
theorem Ex.rows_get {l : List Ex} {i : Nat} {k : Ex} (h : l[i]? = some k) : (Ex.rows l)[i]? = some k.cells := by simp [Ex.rows_map, h]
theorem Fm.rows_get {l : List Fm} {i : Nat} {k : Fm} (h : l[i]? = some k) : (Fm.rows l)[i]? = some k.cells := by simp [Fm.rows_map, h]
theorem Ex.ind {C : Ex → Prop} (hC : ∀ op name n args kids, (∀ k ∈ kids, C k) → C (.mk op name n args kids)) : ∀ e, C e
 | .mk op name n args kids => hC op name n args kids fun k hk => Ex.ind hC k
termination_by e => SizeOf.sizeOf e
decreasing_by
 have := List.sizeOf_lt_of_mem hk
 simp only [Ex.mk.sizeOf_spec]
 omega
theorem Fm.ind {C : Fm → Prop} (hC : ∀ op name args params exprs kids, (∀ k ∈ kids, C k) → C (.mk op name args params exprs kids)) : ∀ f, C f
 | .mk op name args params exprs kids => hC op name args params exprs kids fun k hk => Fm.ind hC k
termination_by f => SizeOf.sizeOf f
decreasing_by
 have := List.sizeOf_lt_of_mem hk
 simp only [Fm.mk.sizeOf_spec]
 omega
theorem Ex.sames_len : ∀ {l m : List Ex}, ¬ l.length = m.length → Ex.sames l m = false
 | [], [], h => by simp at h
 | [], _ :: _, _ => rfl
 | _ :: _, [], _ => rfl
 | a :: l, b :: m, h => by simp only [Ex.sames, Ex.sames_len (l := l) (m := m) (by simpa using h), Bool.and_false]
theorem Fm.sames_len : ∀ {l m : List Fm}, ¬ l.length = m.length → Fm.sames l m = false
 | [], [], h => by simp at h
 | [], _ :: _, _ => rfl
 | _ :: _, [], _ => rfl
 | a :: l, b :: m, h => by simp only [Fm.sames, Fm.sames_len (l := l) (m := m) (by simpa using h), Bool.and_false]
def bigN : Nat := 1152921504606846976
mutual
def Ex.ok : Ex → Prop
 | .mk op name n args kids => op.size ≤ bigN ∧ name.size ≤ bigN ∧ (-9223372036854775808 ≤ n ∧ n ≤ 9223372036854775807) ∧ (args.length ≤ bigN ∧ ∀ a ∈ args, a.size ≤ bigN) ∧ kids.length ≤ bigN ∧ Ex.oks kids
def Ex.oks : List Ex → Prop
 | [] => True
 | k :: ks => k.ok ∧ Ex.oks ks
end
def Pm.ok (p : Pm) : Prop := p.name.size ≤ bigN ∧ p.type.size ≤ bigN
mutual
def Fm.ok : Fm → Prop
 | .mk op name args params exprs kids => op.size ≤ bigN ∧ name.size ≤ bigN ∧ (args.length ≤ bigN ∧ ∀ a ∈ args, a.size ≤ bigN) ∧ (params.length ≤ bigN ∧ ∀ p ∈ params, p.ok) ∧ (exprs.length ≤ bigN ∧ Ex.oks exprs) ∧ kids.length ≤ bigN ∧ Fm.oks kids
def Fm.oks : List Fm → Prop
 | [] => True
 | k :: ks => k.ok ∧ Fm.oks ks
end
theorem Ex.oks_iff : {l : List Ex} → (Ex.oks l ↔ ∀ k ∈ l, k.ok)
 | [] => by simp [Ex.oks]
 | k :: ks => by simp [Ex.oks, Ex.oks_iff (l := ks)]
theorem Fm.oks_iff : {l : List Fm} → (Fm.oks l ↔ ∀ k ∈ l, k.ok)
 | [] => by simp [Fm.oks]
 | k :: ks => by simp [Fm.oks, Fm.oks_iff (l := ks)]
structure Grow (h h' : Heap) : Prop where
 le : h.next ≤ h'.next
 old : ∀ id, id < h.next → h'.obj id = h.obj id
theorem Grow.refl (h : Heap) : Grow h h := ⟨Nat.le_refl _, fun _ _ => rfl⟩
theorem Grow.new {h h' : Heap} (g : Grow h h') (o : AObj) : Grow h (h'.new o) :=
 ⟨Nat.le_trans g.le (by simp [Heap.new]), fun id hid => by simp only [Heap.new]; rw [if_neg (by have := g.le; omega)]; exact g.old id hid⟩
theorem Grow.set {h h' : Heap} (g : Grow h h') {id : Nat} (hid : h.next ≤ id) (o : AObj) : Grow h (h'.set id o) :=
 ⟨g.le, fun i hi => by simp only [Heap.set]; rw [if_neg (by omega)]; exact g.old i hi⟩
theorem Grow.kill {h h' : Heap} (g : Grow h h') {id : Nat} (hid : h.next ≤ id) : Grow h (h'.kill id) :=
 ⟨g.le, fun i hi => by simp only [Heap.kill]; rw [if_neg (by omega)]; exact g.old i hi⟩
theorem PCall.quiet {P : Program} {f : FuncId} {args : List PV} {h : Heap} {v : Value} (hb : hasBody P f = true) (hc : PCall P f args h fun r h' => r = .sc v ∧ Grow h h') : PCall P f args h fun r h' => r = .sc v ∧ h' = h := by
 refine pcall_wf hb fun hw => PCall.drop (hc.mono ?_)
 rintro r h' ⟨rfl, g⟩
 refine ⟨.sc v, h, ⟨rfl, rfl⟩, by simp only [FrzTo], Nat.le_refl _, fun id o ho => ?_⟩
 have hid := hw id (by rw [ho]; try rfl)
 exact ⟨by rw [g.old id hid]; exact ho, hid, .inl ho⟩
theorem owp_useV {P : Program} {ow : Nat → Bool} {n : Nat} {s : Slots} {h : Heap} {f : FuncId} {fo : Operand} {dst : Option Tmp} {args : List Operand} {ts : Array TypeId} {ty : TypeId} {pos : String} {af : Array Edge} {gd : Option (Nat × Bool)} {ags : List PV} {v : PV} {K : Slots → Heap → Prop} {ops rest : List Oper}
  (hf : pev s fo = .sc (.func (.func f) #[] #[])) (hc : PCall P f ags h fun r h' => r = v ∧ h' = h) (ha : args.map (pev s) = ags) (hk : lwn P ow n ops rest K (updO s dst v) h) :
  owp P ow { dst := dst, op := .call { callee := .value fo, args := args.toArray, argTypes := ts }, type := ty, pos := pos, after := af, guard := gd } (lwp P ow n ops rest K) s h := by
 unfold owp
 simp only [callee, hf, and_self, if_true]
 rw [ha]
 exact hc.mono fun r h' hr => by rw [hr.1, hr.2]; exact lwn_lwp _ _ _ hk
end Go.AM
namespace Go.Proofs.Ytjlkapgpjamnkaa
open Go.AM
set_option maxHeartbeats 2000000
set_option maxRecDepth 20000
def words : List ByteArray := [⟨#[97, 110, 100]⟩, ⟨#[111, 114]⟩, ⟨#[110, 111, 116]⟩, ⟨#[105, 109, 112, 108, 121]⟩, ⟨#[102, 111, 114, 97, 108, 108]⟩, ⟨#[101, 120, 105, 115, 116, 115]⟩, ⟨#[119, 104, 101, 110]⟩, ⟨#[97, 115, 115, 105, 103, 110]⟩, ⟨#[105, 110, 99, 114, 101, 97, 115, 101]⟩, ⟨#[100, 101, 99, 114, 101, 97, 115, 101]⟩, ⟨#[111, 98, 106, 101, 99, 116]⟩]
theorem words_len : words.length = 11 := rfl
def idxM (l : List ByteArray) (s : ByteArray) : Int := match l.findIdx? (fun w => bEq s w) with
 | some i => i
 | none => -1
theorem strRows_get {l : List ByteArray} {i : Nat} {w : ByteArray} (h : l[i]? = some w) : (strRows l)[i]? = some [sPV w] := by simp [strRows, h]
theorem strRows_len (l : List ByteArray) : (strRows l).length = l.length := by simp [strRows]
theorem index_c {h : Heap} {l : List ByteArray} {s : ByteArray} (hl : l.length ≤ 9223372036854775807) : PCall Try.prog 95 [.imm 1 (strRows l), sPV s] h fun r h' => r = .sc (.int .i64 (idxM l s)) ∧ h' = h := by
 have hlen := strRows_len l
 refine pcall_body (ow := fun _ => false) (wf := fun _ => false) Ty.mixed Try.func95 rfl Ty.hb_95 (by rw [Try.ntmps95]; simp) ?_
 rw [Try.ntmps95, Try.results95]
 repeat' (first | refine a_seq fun K hK => ?_ | (refine a_block ?_) | (refine a_regionS ?_; simp only [Ty.w, simprocAttr, hlen]) | (refine hK _ _ ?_; clear hK; try simp only [pst0, simprocAttr]))
 refine a_loop (fun m S h' => h' = h ∧ S 0 = .imm 1 (strRows l) ∧ S 1 = sPV s ∧ S 7 = .sc (.int .i64 l.length) ∧ ∃ k : Nat, S 8 = .sc (.int .i64 k) ∧ k ≤ l.length ∧ m = l.length - k ∧ ∀ (i : Nat) (w : ByteArray), i < k → l[i]? = some w → bEq s w = false) l.length ?_ ?_
 ·simp only [Ty.w, simprocAttr]
  exact ⟨0, rfl, by omega, rfl, by omega⟩
 ·rintro m S h' ⟨rfl, g0, g1, g7, k, g8, hk, rfl, hall⟩
  by_cases hlt : k < l.length
  ·have hd : decide ((k : Int) < (l.length : Int)) = true := by simp; omega
   have w7 : IntKind.i64.wrap ((k : Int) + 1) = k + 1 := by rw [wrap64 (by omega) (by omega)]
   obtain ⟨w, hx⟩ : ∃ w, l[k]? = some w := ⟨l[k], List.getElem?_eq_getElem hlt⟩
   have hr := strRows_get hx
   cases he : bEq s w with
   | true =>
    have he' := he
    unfold bEq at he'
    repeat' (first | refine a_seq fun K hK => ?_ | ((first | refine a_regionS ?_ | refine a_ret ?_); simp only [Ty.w, simprocAttr, g0, g1, g7, g8, hd, hr, he']) | (refine a_skip ?_; try simp only [pst0, simprocAttr]) | (refine a_cond _ (by (try simp only [Ty.w, simprocAttr, g0, g1, g7, g8, hd, hr, he']); rfl) (fun hb => ?_) (fun hb => ?_) <;> (try simp only [hb0, decide_eq_true_eq, decide_eq_false_iff_not, simprocAttr] at hb) <;> (try (exfalso; omega))) | (refine hK _ _ ?_; clear hK; try simp only [pst0, simprocAttr]))
    have : l.findIdx? (fun w => bEq s w) = some k := by
     rw [List.findIdx?_eq_some_iff_getElem]
     refine ⟨hlt, ?_, fun j hj => ?_⟩
     ·rw [List.getElem?_eq_getElem hlt] at hx
      simp only [Option.some.injEq] at hx
      rw [hx]; exact he
     ·rw [hall j l[j] hj (List.getElem?_eq_getElem (by omega))]; simp
    simp only [idxM, this]
   | false =>
    have he' := he
    unfold bEq at he'
    repeat' (first | refine a_seq fun K hK => ?_ | (refine a_block ?_) | (refine a_regionS ?_; simp only [Ty.w, simprocAttr, g0, g1, g7, g8, hd, hr, he', w7]) | (refine a_skip ?_; try simp only [pst0, simprocAttr]) | (refine a_cond _ (by (try simp only [Ty.w, simprocAttr, g0, g1, g7, g8, hd, hr, he', w7]); rfl) (fun hb => ?_) (fun hb => ?_) <;> (try simp only [hb0, decide_eq_true_eq, decide_eq_false_iff_not, simprocAttr] at hb) <;> (try (exfalso; omega))) | (refine hK _ _ ?_; clear hK; try simp only [pst0, simprocAttr]))
    refine ⟨l.length - (k + 1), by omega, k + 1, by simp, by omega, rfl, fun i w2 hi hw => ?_⟩
    by_cases hik : i = k
    ·subst hik; rw [hx] at hw; simp at hw; rw [← hw]; exact he
    ·exact hall i w2 (by omega) hw
  ·have hd : decide ((k : Int) < (l.length : Int)) = false := by simp; omega
   repeat' (first | refine a_seq fun K hK => ?_ | ((first | refine a_regionS ?_ | refine a_ret ?_); simp only [Ty.w, simprocAttr, g0, g1, g7, g8, hd]) | (refine a_exit ?_; try simp only [pst0, simprocAttr]) | (refine a_cond _ (by (try simp only [Ty.w, simprocAttr, g0, g1, g7, g8, hd]); rfl) (fun hb => ?_) (fun hb => ?_) <;> (try simp only [hb0, decide_eq_true_eq, decide_eq_false_iff_not, simprocAttr] at hb) <;> (try (exfalso; omega))) | ((first | refine hK _ _ ?_ | (clear hK; refine hK _ _ ?_)); clear hK; try simp only [pst0, simprocAttr]))
   have : l.findIdx? (fun w => bEq s w) = none := by
    rw [List.findIdx?_eq_none_iff]
    intro w hw
    obtain ⟨i, hi⟩ := List.getElem?_of_mem hw
    have : i < l.length := (List.getElem?_eq_some_iff.1 hi).1
    exact hall i w (by omega) hi
   simp only [idxM, this]
theorem idxM_any (l : List ByteArray) (s : ByteArray) : decide (idxM l s ≥ 0) = l.any (fun w => bEq s w) := by
 unfold idxM
 cases h : l.findIdx? (fun w => bEq s w) with
 | none =>
  rw [List.findIdx?_eq_none_iff] at h
  have : l.any (fun w => bEq s w) = false := by simpa using h
  rw [this]; try rfl
 | some i =>
  rw [List.findIdx?_eq_some_iff_getElem] at h
  obtain ⟨hi, h1, _⟩ := h
  have : l.any (fun w => bEq s w) = true := List.any_eq_true.2 ⟨l[i], List.getElem_mem hi, h1⟩
  rw [this]; simp
theorem contains_c {h : Heap} {l : List ByteArray} {s : ByteArray} (hl : l.length ≤ 9223372036854775807) : PCall Try.prog 54 [.imm 1 (strRows l), sPV s] h fun r h' => r = .sc (.bool (l.any fun w => bEq s w)) ∧ h' = h := by
 refine pcall_body (ow := fun _ => false) (wf := fun _ => false) Ty.mixed Try.func54 rfl Ty.hb_54 (by rw [Try.ntmps54]; simp) ?_
 rw [Try.ntmps54, Try.results54]
 repeat' (first | refine a_seq fun K hK => ?_ | (refine a_regionS ?_; simp only [Ty.w, simprocAttr]) | (refine hK _ _ ?_; clear hK; try simp only [pst0, simprocAttr]))
 refine owp_useQ (index_c (l := l) (s := s) hl) (by (try simp only [Ty.w, simprocAttr, ]); try rfl) ?_; simp only [Ty.w, simprocAttr, ]
 repeat' (first | (refine a_ret ?_; simp only [Ty.w, simprocAttr]) | (refine hK _ _ ?_; clear hK; try simp only [pst0, simprocAttr]))
 rw [← idxM_any]
theorem reserved_c {h : Heap} : PCall Try.prog 55 [] h fun r h' => r = .imm 1 (strRows words) ∧ h' = h := by
 refine pcall_body (ow := fun _ => false) (wf := fun _ => false) Ty.mixed Try.func55 rfl Ty.hb_55 (by rw [Try.ntmps55]; simp) ?_
 rw [Try.ntmps55, Try.results55]
 repeat' (first | refine a_seq fun K hK => ?_ | ((first | refine a_regionS ?_ | refine a_ret ?_); simp only [Ty.w, simprocAttr]) | (refine hK _ _ ?_; clear hK; try simp only [pst0, simprocAttr]))
 rfl
theorem rreserved_c {h : Heap} {s : ByteArray} : PCall Try.prog 56 [sPV s] h fun r h' => r = .sc (.bool (words.any fun w => bEq s w)) ∧ h' = h := by
 refine pcall_body (ow := fun _ => false) (wf := fun _ => false) Ty.mixed Try.func56 rfl Ty.hb_56 (by rw [Try.ntmps56]; simp) ?_
 rw [Try.ntmps56, Try.results56]
 repeat' (first | refine a_seq fun K hK => ?_ | (refine a_block ?_) | (refine a_regionS ?_; simp only [Ty.w, simprocAttr]) | (refine hK _ _ ?_; clear hK; try simp only [pst0, simprocAttr]))
 refine a_loop (fun m S h' => h' = h ∧ S 0 = sPV s ∧ S 3 = .imm 1 (strRows words) ∧ ∃ k : Nat, S 4 = .sc (.int .i64 k) ∧ k ≤ 11 ∧ m = 11 - k ∧ ∀ (i : Nat) (w : ByteArray), i < k → words[i]? = some w → bEq s w = false) 11 ?_ ?_
 ·simp only [Ty.w, simprocAttr]
  refine ⟨rfl, 0, rfl, by omega, rfl, by omega⟩
 ·rintro m S h' ⟨rfl, g0, g3, k, g4, hk, rfl, hall⟩
  have hlen : (strRows words).length = 11 := rfl
  by_cases hlt : k < 11
  ·have hd : decide ((k : Int) < 11) = true := by simp; omega
   have w7 : IntKind.i64.wrap ((k : Int) + 1) = k + 1 := by rw [wrap64 (by omega) (by omega)]
   obtain ⟨w, hx⟩ : ∃ w, words[k]? = some w := ⟨words[k], List.getElem?_eq_getElem (by rw [words_len]; exact hlt)⟩
   have hr := strRows_get hx
   cases he : bEq s w with
   | true =>
    have he' : (w.data.toList == s.data.toList) = true := by rw [BEq.comm]; exact he
    repeat' (first | refine a_seq fun K hK => ?_ | ((first | refine a_regionS ?_ | refine a_ret ?_); simp only [Ty.w, simprocAttr, g0, g3, g4, hlen, hd, hr, he']) | (refine a_skip ?_; try simp only [pst0, simprocAttr]) | (refine a_cond _ (by (try simp only [Ty.w, simprocAttr, g0, g3, g4, hlen, hd, hr, he']); rfl) (fun hb => ?_) (fun hb => ?_) <;> (try simp only [hb0, decide_eq_true_eq, decide_eq_false_iff_not, simprocAttr] at hb) <;> (try (exfalso; omega))) | (refine hK _ _ ?_; clear hK; try simp only [pst0, simprocAttr]))
    rw [List.any_eq_true.2 ⟨w, List.mem_of_getElem? hx, he⟩]
   | false =>
    have he' : (w.data.toList == s.data.toList) = false := by rw [BEq.comm]; exact he
    repeat' (first | refine a_seq fun K hK => ?_ | (refine a_block ?_) | (refine a_regionS ?_; simp only [Ty.w, simprocAttr, g0, g3, g4, hlen, hd, hr, he', w7]) | (refine a_skip ?_; try simp only [pst0, simprocAttr]) | (refine a_cond _ (by (try simp only [Ty.w, simprocAttr, g0, g3, g4, hlen, hd, hr, he', w7]); rfl) (fun hb => ?_) (fun hb => ?_) <;> (try simp only [hb0, decide_eq_true_eq, decide_eq_false_iff_not, simprocAttr] at hb) <;> (try (exfalso; omega))) | (refine hK _ _ ?_; clear hK; try simp only [pst0, simprocAttr]))
    refine ⟨11 - (k + 1), by omega, k + 1, by simp, by omega, rfl, fun i w2 hi hw => ?_⟩
    by_cases hik : i = k
    ·subst hik; rw [hx] at hw; simp at hw; rw [← hw]; exact he
    ·exact hall i w2 (by omega) hw
  ·have hd : decide ((k : Int) < 11) = false := by simp; omega
   repeat' (first | refine a_seq fun K hK => ?_ | ((first | refine a_regionS ?_ | refine a_ret ?_); simp only [Ty.w, simprocAttr, g0, g3, g4, hlen, hd]) | (refine a_exit ?_; try simp only [pst0, simprocAttr]) | (refine a_cond _ (by (try simp only [Ty.w, simprocAttr, g0, g3, g4, hlen, hd]); rfl) (fun hb => ?_) (fun hb => ?_) <;> (try simp only [hb0, decide_eq_true_eq, decide_eq_false_iff_not, simprocAttr] at hb) <;> (try (exfalso; omega))) | ((first | refine hK _ _ ?_ | (clear hK; refine hK _ _ ?_)); clear hK; try simp only [pst0, simprocAttr]))
   have : words.any (fun w => bEq s w) = false := by
    rw [List.any_eq_false]
    intro w hw
    obtain ⟨i, hi⟩ := List.getElem?_of_mem hw
    have : i < words.length := (List.getElem?_eq_some_iff.1 hi).1
    rw [words_len] at this
    rw [hall i w (by omega) hi]; simp
   rw [this]
def letB (c : UInt8) : Bool := decide (97 ≤ c.toNat) && decide (c.toNat ≤ 122)
def midB (c : UInt8) : Bool := letB c || (decide (48 ≤ c.toNat) && decide (c.toNat ≤ 57)) || decide (c.toNat = 45) || decide (c.toNat = 95)
def okAt (i : Nat) (c : UInt8) : Bool := letB c || (decide (i ≠ 0) && midB c)
def bytesOkB : List UInt8 → Bool
 | [] => true
 | c :: l => letB c && l.all midB
def nameB (s : ByteArray) : Bool := bytesOkB s.data.toList && decide (0 < s.size) && decide (s.size ≤ 32) && !(words.any fun w => bEq s w)
def varB (s : ByteArray) : Bool := decide (2 ≤ s.size) && decide (s.size ≤ 32) && (match s.data.toList[0]? with | some c => decide (c.toNat = 63) | none => false) && nameB (s.extract 1 s.size)
theorem ba_get (s : ByteArray) (i : Nat) : s[i]? = s.data.toList[i]? := by
 rw [getElem?_def]
 by_cases hi : i < s.size
 ·rw [dif_pos hi, List.getElem?_eq_getElem (by simpa using hi)]
  rfl
 ·rw [dif_neg hi, List.getElem?_eq_none (by simp; omega)]
theorem letB_mid {c : UInt8} (h : letB c = true) : midB c = true := by simp [midB, h]
theorem bytesOk_true {l : List UInt8} (h : ∀ (j : Nat) (c : UInt8), l[j]? = some c → okAt j c = true) : bytesOkB l = true := by
 cases l with
 | nil => rfl
 | cons c l =>
  simp only [bytesOkB, Bool.and_eq_true, List.all_eq_true]
  refine ⟨by simpa [okAt] using h 0 c rfl, fun x hx => ?_⟩
  obtain ⟨i, hi⟩ := List.getElem?_of_mem hx
  have := h (i + 1) x (by simpa using hi)
  simp only [okAt, Bool.or_eq_true, Bool.and_eq_true] at this
  exact this.elim letB_mid (·.2)
theorem bytesOk_false {l : List UInt8} {j : Nat} {c : UInt8} (hj : l[j]? = some c) (h : okAt j c = false) : bytesOkB l = false := by
 cases l with
 | nil => simp at hj
 | cons d l =>
  cases j with
  | zero =>
   simp at hj; subst hj
   simp only [okAt] at h
   simp at h
   simp [bytesOkB, h]
  | succ j =>
   simp at hj
   have hm : midB c = false := by simp [okAt] at h; exact h.2
   have : l.all midB = false := by rw [List.all_eq_false]; exact ⟨c, List.mem_of_getElem? hj, by simp [hm]⟩
   simp [bytesOkB, this]
end Go.Proofs.Ytjlkapgpjamnkaa
namespace Go.Proofs.Ytjlkapgpjamnkaa
open Go.AM
set_option maxHeartbeats 800000
set_option maxRecDepth 20000
theorem byte_cls (c : UInt8) : (letB c = true ∧ decide ((c.toNat : Int) ≥ 97) = true ∧ decide ((c.toNat : Int) ≤ 122) = true) ∨
  (letB c = false ∧ decide ((c.toNat : Int) ≥ 97) = false) ∨ (letB c = false ∧ midB c = false ∧ decide ((c.toNat : Int) ≥ 97) = true ∧ decide ((c.toNat : Int) ≤ 122) = false ∧ decide ((c.toNat : Int) < 48) = false ∧ decide ((c.toNat : Int) > 57) = true ∧ ((c.toNat : Int) != 45) = true ∧ ((c.toNat : Int) != 95) = true) := by
 by_cases h1 : 97 ≤ c.toNat
 ·by_cases h2 : c.toNat ≤ 122
  ·exact .inl ⟨by simp [letB, h1, h2], by simp; omega, by simp; omega⟩
  ·refine .inr (.inr ⟨by simp [letB, h1, h2], by simp [midB, letB]; omega, by simp; omega, by simp; omega, by simp; omega, by simp; omega, by simp; omega, by simp; omega⟩)
 ·exact .inr (.inl ⟨by simp [letB, h1], by simp; omega⟩)
theorem byte_cls2 {c : UInt8} (h : decide ((c.toNat : Int) ≥ 97) = false) :
  (midB c = true ∧ decide ((c.toNat : Int) < 48) = true ∧ ((c.toNat : Int) != 45) = false) ∨
  (midB c = false ∧ decide ((c.toNat : Int) < 48) = true ∧ ((c.toNat : Int) != 45) = true ∧ ((c.toNat : Int) != 95) = true) ∨
  (midB c = true ∧ decide ((c.toNat : Int) < 48) = false ∧ decide ((c.toNat : Int) > 57) = false) ∨
  (midB c = true ∧ decide ((c.toNat : Int) < 48) = false ∧ decide ((c.toNat : Int) > 57) = true ∧ ((c.toNat : Int) != 45) = true ∧ ((c.toNat : Int) != 95) = false) ∨
  (midB c = false ∧ decide ((c.toNat : Int) < 48) = false ∧ decide ((c.toNat : Int) > 57) = true ∧ ((c.toNat : Int) != 45) = true ∧ ((c.toNat : Int) != 95) = true) := by
 simp at h
 by_cases h1 : c.toNat < 48
 ·by_cases h2 : c.toNat = 45
  ·exact .inl ⟨by simp [midB, h2], by simp; omega, by simp; omega⟩
  ·exact .inr (.inl ⟨by simp [midB, letB]; omega, by simp; omega, by simp; omega, by simp; omega⟩)
 ·by_cases h2 : c.toNat ≤ 57
  ·exact .inr (.inr (.inl ⟨by simp [midB, letB]; omega, by simp; omega, by simp; omega⟩))
  ·by_cases h3 : c.toNat = 95
   ·exact .inr (.inr (.inr (.inl ⟨by simp [midB, h3], by simp; omega, by simp; omega, by simp; omega, by simp; omega⟩)))
   ·exact .inr (.inr (.inr (.inr ⟨by simp [midB, letB]; omega, by simp; omega, by simp; omega, by simp; omega, by simp; omega⟩)))
theorem byte_cls3 (c : UInt8) : (midB c = true ∧ decide ((c.toNat : Int) < 97) = false ∧ decide ((c.toNat : Int) > 122) = false) ∨
  (midB c = false ∧ decide ((c.toNat : Int) < 97) = false ∧ decide ((c.toNat : Int) > 122) = true ∧ decide ((c.toNat : Int) < 48) = false ∧ decide ((c.toNat : Int) > 57) = true ∧ ((c.toNat : Int) != 45) = true ∧ ((c.toNat : Int) != 95) = true) ∨
  (decide ((c.toNat : Int) < 97) = true ∧ decide ((c.toNat : Int) ≥ 97) = false) := by
 by_cases h1 : 97 ≤ c.toNat
 ·by_cases h2 : c.toNat ≤ 122
  ·exact .inl ⟨by simp [midB, letB, h1, h2], by simp; omega, by simp; omega⟩
  ·exact .inr (.inl ⟨by simp [midB, letB]; omega, by simp; omega, by simp; omega, by simp; omega, by simp; omega, by simp; omega, by simp; omega⟩)
 ·exact .inr (.inr ⟨by simp; omega, by simp; omega⟩)
theorem fname_c {h : Heap} {s : ByteArray} (hs : s.size ≤ 9223372036854775807) : PCall Try.prog 15 [sPV s] h fun r h' => r = .sc (.bool (nameB s)) ∧ h' = h := by
 have hsl : s.data.toList.length = s.size := by rw [Array.length_toList]; try rfl
 refine pcall_body (ow := fun _ => false) (wf := fun _ => false) Ty.mixed Try.func15 rfl Ty.hb_15 (by rw [Try.ntmps15]; simp) ?_
 rw [Try.ntmps15, Try.results15]
 repeat' (first | refine a_seq fun K hK => ?_ | (refine a_block ?_) | (refine a_regionS ?_; simp only [Ty.w, simprocAttr]) | (refine hK _ _ ?_; clear hK; try simp only [pst0, simprocAttr]))
 refine a_loop (fun m S h' => h' = h ∧ S 0 = sPV s ∧ S 7 = .sc (.int .i64 s.size) ∧ ∃ k : Nat, S 8 = .sc (.int .i64 k) ∧ k ≤ s.size ∧ m = s.size - k ∧ ∀ (i : Nat) (c : UInt8), i < k → s.data.toList[i]? = some c → okAt i c = true) s.size ?_ ?_
 ·simp only [Ty.w, simprocAttr]
  exact ⟨0, rfl, by omega, rfl, by omega⟩
 ·rintro m S h' ⟨rfl, g0, g7, k, g8, hk, rfl, hall⟩
  by_cases hlt : k < s.size
  ·have hd : decide ((k : Int) < (s.size : Int)) = true := by simp; omega
   have w7 : IntKind.i64.wrap ((k : Int) + 1) = k + 1 := by rw [wrap64 (by omega) (by omega)]
   obtain ⟨c, hx⟩ : ∃ c, s.data.toList[k]? = some c := ⟨_, List.getElem?_eq_getElem (by omega)⟩
   have hr : s[k]? = some c := by rw [ba_get]; exact hx
   have bad : okAt k c = false → nameB s = false := fun e => by simp [nameB, bytesOk_false hx e]
   have good : okAt k c = true → ∃ m', m' < s.size - k ∧ ∃ k' : Nat, (k : Int) + 1 = k' ∧ k' ≤ s.size ∧ m' = s.size - k' ∧ ∀ (i : Nat) (c : UInt8), i < k' → s.data.toList[i]? = some c → okAt i c = true := fun e => by
    refine ⟨s.size - (k + 1), by omega, k + 1, by simp, by omega, rfl, fun i c2 hi hw => ?_⟩
    by_cases hik : i = k
    ·subst hik; rw [hx] at hw; simp at hw; rw [← hw]; exact e
    ·exact hall i c2 (by omega) hw
   clear hall
   have fin1 : ∀ {e : Bool}, okAt k c = false → e = false → PV.sc (.bool e) = .sc (.bool (nameB s)) := fun h1 h2 => by rw [h2, bad h1]
   rcases byte_cls c with ⟨l1, c1, c2⟩ | ⟨l1, c1⟩ | ⟨l1, m1, c1, c2, c3, c4, c5, c6⟩
   ·repeat' (first | refine a_seq fun K hK => ?_ | (refine a_block ?_) | (refine a_regionS ?_; simp only [Ty.w, simprocAttr, g0, g7, g8, hd, hr, w7, c1, c2]) | (refine a_skip ?_; try simp only [pst0, simprocAttr]) | (refine a_cond _ (by (try simp only [Ty.w, simprocAttr, g0, g7, g8, hd, hr, w7, c1, c2]); rfl) (fun hb => ?_) (fun hb => ?_) <;> (try simp only [hb0, decide_eq_true_eq, decide_eq_false_iff_not, simprocAttr] at hb) <;> (try (exfalso; omega))) | (refine hK _ _ ?_; clear hK; try simp only [pst0, simprocAttr]))
    have := good (by simp [okAt, l1])
    simpa using this
   ·cases k0 : ((k : Int) == 0) with
    | true =>
     have hk0 : k = 0 := by simpa using k0
     have hbad := bad (by simp [okAt, l1, hk0])
     repeat' (first | refine a_seq fun K hK => ?_ | ((first | refine a_regionS ?_ | refine a_ret ?_); simp only [Ty.w, simprocAttr, g0, g7, g8, hd, hr, w7, c1, k0]) | (refine a_skip ?_; try simp only [pst0, simprocAttr]) | (refine a_cond _ (by (try simp only [Ty.w, simprocAttr, g0, g7, g8, hd, hr, w7, c1, k0]); rfl) (fun hb => ?_) (fun hb => ?_) <;> (try simp only [hb0, decide_eq_true_eq, decide_eq_false_iff_not, simprocAttr] at hb) <;> (try (exfalso; omega))) | (refine hK _ _ ?_; clear hK; try simp only [pst0, simprocAttr]))
     rw [hbad]
    | false =>
     have hk0 : k ≠ 0 := by simpa using k0
     rcases byte_cls2 c1 with ⟨m1, c3, c5⟩ | ⟨m1, c3, c5, c6⟩ | ⟨m1, c3, c4⟩ | ⟨m1, c3, c4, c5, c6⟩ | ⟨m1, c3, c4, c5, c6⟩
     ·repeat' (first | refine a_seq fun K hK => ?_ | (refine a_block ?_) | (refine a_regionS ?_; simp only [Ty.w, simprocAttr, g0, g7, g8, hd, hr, w7, c1, k0, c3, c5]) | (refine a_skip ?_; try simp only [pst0, simprocAttr]) | (refine a_cond _ (by (try simp only [Ty.w, simprocAttr, g0, g7, g8, hd, hr, w7, c1, k0, c3, c5]); rfl) (fun hb => ?_) (fun hb => ?_) <;> (try simp only [hb0, decide_eq_true_eq, decide_eq_false_iff_not, simprocAttr] at hb) <;> (try (exfalso; omega))) | (refine hK _ _ ?_; clear hK; try simp only [pst0, simprocAttr]))
      have := good (by simp [okAt, m1, hk0])
      simpa using this
     ·have hbad := bad (by simp [okAt, l1, m1])
      repeat' (first | refine a_seq fun K hK => ?_ | ((first | refine a_regionS ?_ | refine a_ret ?_); simp only [Ty.w, simprocAttr, g0, g7, g8, hd, hr, w7, c1, k0, c3, c5, c6]) | (refine a_skip ?_; try simp only [pst0, simprocAttr]) | (refine a_cond _ (by (try simp only [Ty.w, simprocAttr, g0, g7, g8, hd, hr, w7, c1, k0, c3, c5, c6]); rfl) (fun hb => ?_) (fun hb => ?_) <;> (try simp only [hb0, decide_eq_true_eq, decide_eq_false_iff_not, simprocAttr] at hb) <;> (try (exfalso; omega))) | (refine hK _ _ ?_; clear hK; try simp only [pst0, simprocAttr]))
      rw [hbad]
     ·repeat' (first | refine a_seq fun K hK => ?_ | (refine a_block ?_) | (refine a_regionS ?_; simp only [Ty.w, simprocAttr, g0, g7, g8, hd, hr, w7, c1, k0, c3, c4]) | (refine a_skip ?_; try simp only [pst0, simprocAttr]) | (refine a_cond _ (by (try simp only [Ty.w, simprocAttr, g0, g7, g8, hd, hr, w7, c1, k0, c3, c4]); rfl) (fun hb => ?_) (fun hb => ?_) <;> (try simp only [hb0, decide_eq_true_eq, decide_eq_false_iff_not, simprocAttr] at hb) <;> (try (exfalso; omega))) | (refine hK _ _ ?_; clear hK; try simp only [pst0, simprocAttr]))
      have := good (by simp [okAt, m1, hk0])
      simpa using this
     ·repeat' (first | refine a_seq fun K hK => ?_ | (refine a_block ?_) | (refine a_regionS ?_; simp only [Ty.w, simprocAttr, g0, g7, g8, hd, hr, w7, c1, k0, c3, c4, c5, c6]) | (refine a_skip ?_; try simp only [pst0, simprocAttr]) | (refine a_cond _ (by (try simp only [Ty.w, simprocAttr, g0, g7, g8, hd, hr, w7, c1, k0, c3, c4, c5, c6]); rfl) (fun hb => ?_) (fun hb => ?_) <;> (try simp only [hb0, decide_eq_true_eq, decide_eq_false_iff_not, simprocAttr] at hb) <;> (try (exfalso; omega))) | (refine hK _ _ ?_; clear hK; try simp only [pst0, simprocAttr]))
      have := good (by simp [okAt, m1, hk0])
      simpa using this
     ·have hbad := bad (by simp [okAt, l1, m1])
      repeat' (first | refine a_seq fun K hK => ?_ | ((first | refine a_regionS ?_ | refine a_ret ?_); simp only [Ty.w, simprocAttr, g0, g7, g8, hd, hr, w7, c1, k0, c3, c4, c5, c6]) | (refine a_skip ?_; try simp only [pst0, simprocAttr]) | (refine a_cond _ (by (try simp only [Ty.w, simprocAttr, g0, g7, g8, hd, hr, w7, c1, k0, c3, c4, c5, c6]); rfl) (fun hb => ?_) (fun hb => ?_) <;> (try simp only [hb0, decide_eq_true_eq, decide_eq_false_iff_not, simprocAttr] at hb) <;> (try (exfalso; omega))) | (refine hK _ _ ?_; clear hK; try simp only [pst0, simprocAttr]))
      rw [hbad]
   ·have hbad := bad (by simp [okAt, l1, m1])
    cases k0 : ((k : Int) == 0) with
    | true =>
     repeat' (first | refine a_seq fun K hK => ?_ | ((first | refine a_regionS ?_ | refine a_ret ?_); simp only [Ty.w, simprocAttr, g0, g7, g8, hd, hr, w7, c1, c2, k0]) | (refine a_skip ?_; try simp only [pst0, simprocAttr]) | (refine a_cond _ (by (try simp only [Ty.w, simprocAttr, g0, g7, g8, hd, hr, w7, c1, c2, k0]); rfl) (fun hb => ?_) (fun hb => ?_) <;> (try simp only [hb0, decide_eq_true_eq, decide_eq_false_iff_not, simprocAttr] at hb) <;> (try (exfalso; omega))) | (refine hK _ _ ?_; clear hK; try simp only [pst0, simprocAttr]))
     rw [hbad]
    | false =>
     repeat' (first | refine a_seq fun K hK => ?_ | ((first | refine a_regionS ?_ | refine a_ret ?_); simp only [Ty.w, simprocAttr, g0, g7, g8, hd, hr, w7, c1, c2, k0, c3, c4, c5, c6]) | (refine a_skip ?_; try simp only [pst0, simprocAttr]) | (refine a_cond _ (by (try simp only [Ty.w, simprocAttr, g0, g7, g8, hd, hr, w7, c1, c2, k0, c3, c4, c5, c6]); rfl) (fun hb => ?_) (fun hb => ?_) <;> (try simp only [hb0, decide_eq_true_eq, decide_eq_false_iff_not, simprocAttr] at hb) <;> (try (exfalso; omega))) | (refine hK _ _ ?_; clear hK; try simp only [pst0, simprocAttr]))
     rw [hbad]
  ·have hd : decide ((k : Int) < (s.size : Int)) = false := by simp; omega
   have hok : bytesOkB s.data.toList = true := bytesOk_true fun j c hj => hall j c (by have := (List.getElem?_eq_some_iff.1 hj).1; omega) hj
   clear hall
   have hn : nameB s = (!(s.data.toList == (#[] : Array UInt8).toList) && decide ((s.size : Int) ≤ 32) && !(words.any fun w => bEq s w)) := by
    have e1 : decide (0 < s.size) = !(s.data.toList == (#[] : Array UInt8).toList) := by
     rw [← hsl]
     cases s.data.toList <;> simp
    have e2 : decide ((s.size : Int) ≤ 32) = decide (s.size ≤ 32) := by
     exact decide_eq_decide.2 (by omega)
    simp only [nameB, hok, Bool.true_and, e1, e2]
   cases b1 : (s.data.toList == (#[] : Array UInt8).toList) with
   | true =>
    repeat' (first | refine a_seq fun K hK => ?_ | ((first | refine a_regionS ?_ | refine a_ret ?_); simp only [Ty.w, simprocAttr, g0, g7, g8, hd, b1]) | (refine a_exit ?_; try simp only [pst0, simprocAttr]) | (refine a_cond _ (by (try simp only [Ty.w, simprocAttr, g0, g7, g8, hd, b1]); rfl) (fun hb => ?_) (fun hb => ?_) <;> (try simp only [hb0, decide_eq_true_eq, decide_eq_false_iff_not, simprocAttr] at hb) <;> (try (exfalso; omega))) | ((first | refine hK _ _ ?_ | (clear hK; refine hK _ _ ?_)); clear hK; try simp only [pst0, simprocAttr]))
    rw [hn, b1]; try rfl
   | false =>
    cases b2 : decide ((s.size : Int) ≤ 32) with
    | false =>
     repeat' (first | refine a_seq fun K hK => ?_ | ((first | refine a_regionS ?_ | refine a_ret ?_); simp only [Ty.w, simprocAttr, g0, g7, g8, hd, b1, b2]) | (refine a_exit ?_; try simp only [pst0, simprocAttr]) | (refine a_cond _ (by (try simp only [Ty.w, simprocAttr, g0, g7, g8, hd, b1, b2]); rfl) (fun hb => ?_) (fun hb => ?_) <;> (try simp only [hb0, decide_eq_true_eq, decide_eq_false_iff_not, simprocAttr] at hb) <;> (try (exfalso; omega))) | ((first | refine hK _ _ ?_ | (clear hK; refine hK _ _ ?_)); clear hK; try simp only [pst0, simprocAttr]))
     rw [hn, b1, b2]; try rfl
    | true =>
     repeat' (first | refine a_seq fun K hK => ?_ | (refine a_regionS ?_; simp only [Ty.w, simprocAttr, g0, g7, g8, hd, b1, b2]) | (refine a_exit ?_; try simp only [pst0, simprocAttr]) | (refine a_cond _ (by (try simp only [Ty.w, simprocAttr, g0, g7, g8, hd, b1, b2]); rfl) (fun hb => ?_) (fun hb => ?_) <;> (try simp only [hb0, decide_eq_true_eq, decide_eq_false_iff_not, simprocAttr] at hb) <;> (try (exfalso; omega))) | ((first | refine hK _ _ ?_ | (clear hK; refine hK _ _ ?_)); clear hK; try simp only [pst0, simprocAttr]))
     have hwl : words.length ≤ 9223372036854775807 := by rw [words_len]; omega
     refine owp_useQ (reserved_c) (by (try simp only [Ty.w, simprocAttr, ]); try rfl) ?_; simp only [Ty.w, simprocAttr, ]
     refine owp_useQ (contains_c (l := words) (s := s) hwl) (by (try simp only [Ty.w, simprocAttr, b1, b2, g0]); try rfl) ?_; simp only [Ty.w, simprocAttr, b1, b2, g0]
     repeat' (first | (refine a_ret ?_; simp only [Ty.w, simprocAttr, g0, b1, b2]) | (refine hK _ _ ?_; clear hK; try simp only [pst0, simprocAttr]))
     rw [hn, b1, b2]; try rfl
theorem fvariable_c {h : Heap} {s : ByteArray} (hs : s.size ≤ 9223372036854775807) : PCall Try.prog 17 [sPV s] h fun r h' => r = .sc (.bool (varB s)) ∧ h' = h := by
 cases b1 : decide ((s.size : Int) > 1) with
 | false =>
  have : varB s = false := by simp at b1; simp [varB]; omega
  refine pcall_body (ow := fun _ => false) (wf := fun _ => false) Ty.mixed Try.func17 rfl Ty.hb_17 (by rw [Try.ntmps17]; simp) ?_
  rw [Try.ntmps17, Try.results17]
  repeat' (first | refine a_seq fun K hK => ?_ | ((first | refine a_regionS ?_ | refine a_ret ?_); simp only [Ty.w, simprocAttr, b1]) | (refine hK _ _ ?_; clear hK; try simp only [pst0, simprocAttr]))
  rw [this]
 | true =>
  cases b2 : decide ((s.size : Int) ≤ 32) with
  | false =>
   have : varB s = false := by simp at b2; simp [varB]; omega
   refine pcall_body (ow := fun _ => false) (wf := fun _ => false) Ty.mixed Try.func17 rfl Ty.hb_17 (by rw [Try.ntmps17]; simp) ?_
   rw [Try.ntmps17, Try.results17]
   repeat' (first | refine a_seq fun K hK => ?_ | ((first | refine a_regionS ?_ | refine a_ret ?_); simp only [Ty.w, simprocAttr, b1, b2]) | (refine hK _ _ ?_; clear hK; try simp only [pst0, simprocAttr]))
   rw [this]
  | true =>
   simp at b1 b2
   have hsl : s.data.toList.length = s.size := by rw [Array.length_toList]; try rfl
   obtain ⟨c, hx⟩ : ∃ c, s.data.toList[0]? = some c := ⟨_, List.getElem?_eq_getElem (by omega)⟩
   have hr : s[0]? = some c := by rw [ba_get]; exact hx
   have d1 : decide ((s.size : Int) > 1) = true := by simp; omega
   have d2 : decide ((s.size : Int) ≤ 32) = true := by simp; omega
   have q1 : (1 : Int) ≤ (s.size : Int) := by omega
   have hv : varB s = (decide (c.toNat = 63) && nameB (s.extract 1 s.size)) := by
    have e1 : decide (2 ≤ s.size) = true := by simp; omega
    have e2 : decide (s.size ≤ 32) = true := by simp; omega
    simp only [varB, e1, e2, hx, Bool.true_and]
   cases b3 : ((c.toNat : Int) == 63) with
   | false =>
    have : ¬ c.toNat = 63 := by simp at b3; omega
    refine pcall_body (ow := fun _ => false) (wf := fun _ => false) Ty.mixed Try.func17 rfl Ty.hb_17 (by rw [Try.ntmps17]; simp) ?_
    rw [Try.ntmps17, Try.results17]
    repeat' (first | refine a_seq fun K hK => ?_ | ((first | refine a_regionS ?_ | refine a_ret ?_); simp only [Ty.w, simprocAttr, d1, d2, hr, b3]) | (refine hK _ _ ?_; clear hK; try simp only [pst0, simprocAttr]))
    rw [hv]; simp [this]
   | true =>
    have : c.toNat = 63 := by simp at b3; omega
    refine pcall_body (ow := fun _ => false) (wf := fun _ => false) Ty.mixed Try.func17 rfl Ty.hb_17 (by rw [Try.ntmps17]; simp) ?_
    rw [Try.ntmps17, Try.results17]
    have hsz : (s.extract 1 s.size).size ≤ 9223372036854775807 := by simp; omega
    repeat' (first | refine a_seq fun K hK => ?_ | (refine a_regionS ?_; simp only [Ty.w, simprocAttr, d1, d2, hr, b3, q1, Option.getD_some, Option.getD_none, Int.le_refl]) | (refine hK _ _ ?_; clear hK; try simp only [pst0, simprocAttr]))
    refine owp_useQ (fname_c (s := s.extract 1 s.size) hsz) (by (try simp only [Ty.w, simprocAttr, d1, d2, hr, b3, q1, Option.getD_some, Option.getD_none, Int.le_refl]); try rfl) ?_; simp only [Ty.w, simprocAttr, d1, d2, hr, b3, q1, Option.getD_some, Option.getD_none, Int.le_refl]
    repeat' (first | (refine a_ret ?_; simp only [Ty.w, simprocAttr, d1, d2, b3]) | (refine hK _ _ ?_; clear hK; try simp only [pst0, simprocAttr]))
    rw [hv, this]; try rfl
theorem rname_c {h : Heap} {s : ByteArray} (hs : s.size ≤ 9223372036854775807) : PCall Try.prog 16 [sPV s] h fun r h' => r = .sc (.bool (nameB s)) ∧ h' = h := by
  have hsl : s.data.toList.length = s.size := by rw [Array.length_toList]; try rfl
  cases b1 : decide ((s.size : Int) < 1) with
  | true =>
    have : nameB s = false := by simp at b1; simp [nameB]; intros; omega
    refine pcall_body (ow := fun _ => false) (wf := fun _ => false) Ty.mixed Try.func16 rfl Ty.hb_16 (by rw [Try.ntmps16]; simp) ?_
    rw [Try.ntmps16, Try.results16]
    repeat' (first | refine a_seq fun K hK => ?_ | ((first | refine a_regionS ?_ | refine a_ret ?_); simp only [Ty.w, simprocAttr, b1]) | (refine hK _ _ ?_; clear hK; try simp only [pst0, simprocAttr]))
    rw [this]
  | false =>
    cases b2 : decide ((s.size : Int) > 32) with
    | true =>
      have : nameB s = false := by simp at b2; have : ¬ s.size ≤ 32 := by omega
                                   simp [nameB, this]
      refine pcall_body (ow := fun _ => false) (wf := fun _ => false) Ty.mixed Try.func16 rfl Ty.hb_16 (by rw [Try.ntmps16]; simp) ?_
      rw [Try.ntmps16, Try.results16]
      repeat' (first | refine a_seq fun K hK => ?_ | ((first | refine a_regionS ?_ | refine a_ret ?_); simp only [Ty.w, simprocAttr, b1, b2]) | (refine hK _ _ ?_; clear hK; try simp only [pst0, simprocAttr]))
      rw [this]
    | false =>
      have b1' := b1
      have b2' := b2
      simp at b1' b2'
      obtain ⟨c, hx⟩ : ∃ c, s.data.toList[0]? = some c := ⟨_, List.getElem?_eq_getElem (by omega)⟩
      have hr : s[0]? = some c := by rw [ba_get]; exact hx
      cases b3 : decide ((c.toNat : Int) < 97) with
      | true =>
        have : letB c = false := by simp at b3; simp [letB]; omega
        have : nameB s = false := by simp [nameB, bytesOk_false hx (by simp [okAt, this])]
        refine pcall_body (ow := fun _ => false) (wf := fun _ => false) Ty.mixed Try.func16 rfl Ty.hb_16 (by rw [Try.ntmps16]; simp) ?_
        rw [Try.ntmps16, Try.results16]
        repeat' (first | refine a_seq fun K hK => ?_ | ((first | refine a_regionS ?_ | refine a_ret ?_); simp only [Ty.w, simprocAttr, b1, b2, b3, hr]) | (refine hK _ _ ?_; clear hK; try simp only [pst0, simprocAttr]))
        rw [this]
      | false =>
        cases b4 : decide ((c.toNat : Int) > 122) with
        | true =>
          have : letB c = false := by simp at b4; simp [letB]; omega
          have : nameB s = false := by simp [nameB, bytesOk_false hx (by simp [okAt, this])]
          refine pcall_body (ow := fun _ => false) (wf := fun _ => false) Ty.mixed Try.func16 rfl Ty.hb_16 (by rw [Try.ntmps16]; simp) ?_
          rw [Try.ntmps16, Try.results16]
          repeat' (first | refine a_seq fun K hK => ?_ | ((first | refine a_regionS ?_ | refine a_ret ?_); simp only [Ty.w, simprocAttr, b1, b2, b3, b4, hr]) | (refine hK _ _ ?_; clear hK; try simp only [pst0, simprocAttr]))
          rw [this]
        | false =>
          have hlet : letB c = true := by simp at b3 b4; simp [letB]; omega
          refine pcall_body (ow := fun _ => false) (wf := fun _ => false) Ty.mixed Try.func16 rfl Ty.hb_16 (by rw [Try.ntmps16]; simp) ?_
          rw [Try.ntmps16, Try.results16]
          repeat' (first | refine a_seq fun K hK => ?_ | (refine a_regionS ?_; simp only [Ty.w, simprocAttr, b1, b2, b3, b4, hr]) | (refine hK _ _ ?_; clear hK; try simp only [pst0, simprocAttr]))
          cases b5 : (words.any fun w => bEq s w) with
          | true =>
            have : nameB s = false := by simp [nameB, b5]
            refine owp_useQ (rreserved_c (s := s)) (by (try simp only [Ty.w, simprocAttr, b1, b2, b3, b4, hr]); try rfl) ?_; simp only [Ty.w, simprocAttr, b1, b2, b3, b4, hr]
            repeat' (first | refine a_seq fun K hK => ?_ | ((first | refine a_regionS ?_ | refine a_ret ?_); simp only [Ty.w, simprocAttr, b5]) | (refine a_cond _ (by (try simp only [Ty.w, simprocAttr, b5]); rfl) (fun hb => ?_) (fun hb => ?_) <;> (try simp only [hb0, decide_eq_true_eq, decide_eq_false_iff_not, simprocAttr] at hb) <;> (try (exfalso; omega))) | (refine hK _ _ ?_; clear hK; try simp only [pst0, simprocAttr]))
            rw [this]
          | false =>
            refine owp_useQ (rreserved_c (s := s)) (by (try simp only [Ty.w, simprocAttr, b1, b2, b3, b4, hr]); try rfl) ?_; simp only [Ty.w, simprocAttr, b1, b2, b3, b4, hr]
            repeat' (first | refine a_seq fun K hK => ?_ | (refine a_block ?_) | (refine a_regionS ?_; simp only [Ty.w, simprocAttr, b5]) | (refine a_skip ?_; try simp only [pst0, simprocAttr]) | (refine a_cond _ (by (try simp only [Ty.w, simprocAttr, b5]); rfl) (fun hb => ?_) (fun hb => ?_) <;> (try simp only [hb0, decide_eq_true_eq, decide_eq_false_iff_not, simprocAttr] at hb) <;> (try (exfalso; omega))) | (refine hK _ _ ?_; clear hK; try simp only [pst0, simprocAttr]))
            refine a_loop (fun m S h' => h' = h ∧ S 0 = sPV s ∧ ∃ k : Nat, S 3 = .sc (.int .i64 k) ∧ k ≤ s.size ∧ m = s.size - k ∧ ∀ (i : Nat) (c : UInt8), i < k → s.data.toList[i]? = some c → midB c = true) s.size ?_ ?_
            · simp only [Ty.w, simprocAttr]
              exact ⟨0, rfl, by omega, rfl, by omega⟩
            · rintro m S h' ⟨rfl, g0, k, g3, hk, rfl, hall⟩
              by_cases hlt : k < s.size
              · have hd : decide ((k : Int) < (s.size : Int)) = true := by simp; omega
                have w7 : IntKind.i64.wrap ((k : Int) + 1) = k + 1 := by rw [wrap64 (by omega) (by omega)]
                obtain ⟨d, hx2⟩ : ∃ d, s.data.toList[k]? = some d := ⟨_, List.getElem?_eq_getElem (by omega)⟩
                have hr2 : s[k]? = some d := by rw [ba_get]; exact hx2
                have bad : midB d = false → nameB s = false := fun e => by
                  by_cases hk0 : k = 0
                  · subst hk0; rw [hx] at hx2; simp at hx2; subst hx2; rw [letB_mid hlet] at e; simp at e
                  · simp [nameB, bytesOk_false hx2 (by simp [okAt, e]; cases hl : letB d <;> simp; rw [letB_mid hl] at e; simp at e)]
                have good : midB d = true → ∃ m', m' < s.size - k ∧ ∃ k' : Nat, (k : Int) + 1 = k' ∧ k' ≤ s.size ∧ m' = s.size - k' ∧ ∀ (i : Nat) (c : UInt8), i < k' → s.data.toList[i]? = some c → midB c = true := fun e => by
                  refine ⟨s.size - (k + 1), by omega, k + 1, by simp, by omega, rfl, fun i c2 hi hw => ?_⟩
                  by_cases hik : i = k
                  · subst hik; rw [hx2] at hw; simp at hw; rw [← hw]; exact e
                  · exact hall i c2 (by omega) hw
                clear hall
                rcases byte_cls3 d with ⟨m1, c1, c2⟩ | ⟨m1, c1, c2, c3, c4, c5, c6⟩ | ⟨c1, c2⟩
                · repeat' (first | refine a_seq fun K hK => ?_ | (refine a_block ?_) | (refine a_regionS ?_; simp only [Ty.w, simprocAttr, g0, g3, hd, hr2, w7, c1, c2]) | (refine a_skip ?_; try simp only [pst0, simprocAttr]) | (refine a_cond _ (by (try simp only [Ty.w, simprocAttr, g0, g3, hd, hr2, w7, c1, c2]); rfl) (fun hb => ?_) (fun hb => ?_) <;> (try simp only [hb0, decide_eq_true_eq, decide_eq_false_iff_not, simprocAttr] at hb) <;> (try (exfalso; omega))) | (refine hK _ _ ?_; clear hK; try simp only [pst0, simprocAttr]))
                  have := good m1
                  simpa using this
                · have hbad := bad m1
                  repeat' (first | refine a_seq fun K hK => ?_ | ((first | refine a_regionS ?_ | refine a_ret ?_); simp only [Ty.w, simprocAttr, g0, g3, hd, hr2, w7, c1, c2, c3, c4, c5, c6]) | (refine a_skip ?_; try simp only [pst0, simprocAttr]) | (refine a_cond _ (by (try simp only [Ty.w, simprocAttr, g0, g3, hd, hr2, w7, c1, c2, c3, c4, c5, c6]); rfl) (fun hb => ?_) (fun hb => ?_) <;> (try simp only [hb0, decide_eq_true_eq, decide_eq_false_iff_not, simprocAttr] at hb) <;> (try (exfalso; omega))) | (refine hK _ _ ?_; clear hK; try simp only [pst0, simprocAttr]))
                  rw [hbad]
                · rcases byte_cls2 c2 with ⟨m1, c3, c5⟩ | ⟨m1, c3, c5, c6⟩ | ⟨m1, c3, c4⟩ | ⟨m1, c3, c4, c5, c6⟩ | ⟨m1, c3, c4, c5, c6⟩
                  · repeat' (first | refine a_seq fun K hK => ?_ | (refine a_block ?_) | (refine a_regionS ?_; simp only [Ty.w, simprocAttr, g0, g3, hd, hr2, w7, c1, c3, c5]) | (refine a_skip ?_; try simp only [pst0, simprocAttr]) | (refine a_cond _ (by (try simp only [Ty.w, simprocAttr, g0, g3, hd, hr2, w7, c1, c3, c5]); rfl) (fun hb => ?_) (fun hb => ?_) <;> (try simp only [hb0, decide_eq_true_eq, decide_eq_false_iff_not, simprocAttr] at hb) <;> (try (exfalso; omega))) | (refine hK _ _ ?_; clear hK; try simp only [pst0, simprocAttr]))
                    have := good m1
                    simpa using this
                  · have hbad := bad m1
                    repeat' (first | refine a_seq fun K hK => ?_ | ((first | refine a_regionS ?_ | refine a_ret ?_); simp only [Ty.w, simprocAttr, g0, g3, hd, hr2, w7, c1, c3, c5, c6]) | (refine a_skip ?_; try simp only [pst0, simprocAttr]) | (refine a_cond _ (by (try simp only [Ty.w, simprocAttr, g0, g3, hd, hr2, w7, c1, c3, c5, c6]); rfl) (fun hb => ?_) (fun hb => ?_) <;> (try simp only [hb0, decide_eq_true_eq, decide_eq_false_iff_not, simprocAttr] at hb) <;> (try (exfalso; omega))) | (refine hK _ _ ?_; clear hK; try simp only [pst0, simprocAttr]))
                    rw [hbad]
                  · repeat' (first | refine a_seq fun K hK => ?_ | (refine a_block ?_) | (refine a_regionS ?_; simp only [Ty.w, simprocAttr, g0, g3, hd, hr2, w7, c1, c3, c4]) | (refine a_skip ?_; try simp only [pst0, simprocAttr]) | (refine a_cond _ (by (try simp only [Ty.w, simprocAttr, g0, g3, hd, hr2, w7, c1, c3, c4]); rfl) (fun hb => ?_) (fun hb => ?_) <;> (try simp only [hb0, decide_eq_true_eq, decide_eq_false_iff_not, simprocAttr] at hb) <;> (try (exfalso; omega))) | (refine hK _ _ ?_; clear hK; try simp only [pst0, simprocAttr]))
                    have := good m1
                    simpa using this
                  · repeat' (first | refine a_seq fun K hK => ?_ | (refine a_block ?_) | (refine a_regionS ?_; simp only [Ty.w, simprocAttr, g0, g3, hd, hr2, w7, c1, c3, c4, c5, c6]) | (refine a_skip ?_; try simp only [pst0, simprocAttr]) | (refine a_cond _ (by (try simp only [Ty.w, simprocAttr, g0, g3, hd, hr2, w7, c1, c3, c4, c5, c6]); rfl) (fun hb => ?_) (fun hb => ?_) <;> (try simp only [hb0, decide_eq_true_eq, decide_eq_false_iff_not, simprocAttr] at hb) <;> (try (exfalso; omega))) | (refine hK _ _ ?_; clear hK; try simp only [pst0, simprocAttr]))
                    have := good m1
                    simpa using this
                  · have hbad := bad m1
                    repeat' (first | refine a_seq fun K hK => ?_ | ((first | refine a_regionS ?_ | refine a_ret ?_); simp only [Ty.w, simprocAttr, g0, g3, hd, hr2, w7, c1, c3, c4, c5, c6]) | (refine a_skip ?_; try simp only [pst0, simprocAttr]) | (refine a_cond _ (by (try simp only [Ty.w, simprocAttr, g0, g3, hd, hr2, w7, c1, c3, c4, c5, c6]); rfl) (fun hb => ?_) (fun hb => ?_) <;> (try simp only [hb0, decide_eq_true_eq, decide_eq_false_iff_not, simprocAttr] at hb) <;> (try (exfalso; omega))) | (refine hK _ _ ?_; clear hK; try simp only [pst0, simprocAttr]))
                    rw [hbad]
              · have hd : decide ((k : Int) < (s.size : Int)) = false := by simp; omega
                have hok : bytesOkB s.data.toList = true := by
                  refine bytesOk_true fun j d hj => ?_
                  by_cases hj0 : j = 0
                  · subst hj0; rw [hx] at hj; simp at hj; subst hj; simp [okAt, hlet]
                  · simp [okAt, hj0, hall j d (by have := (List.getElem?_eq_some_iff.1 hj).1; omega) hj]
                have hn : nameB s = true := by
                  have e1 : decide (0 < s.size) = true := by simp; omega
                  have e2 : decide (s.size ≤ 32) = true := by simp; omega
                  simp only [nameB, hok, b5, e1, e2]; rfl
                clear hall
                repeat' (first | refine a_seq fun K hK => ?_ | ((first | refine a_regionS ?_ | refine a_ret ?_); simp only [Ty.w, simprocAttr, g0, g3, hd]) | (refine a_exit ?_; try simp only [pst0, simprocAttr]) | (refine a_cond _ (by (try simp only [Ty.w, simprocAttr, g0, g3, hd]); rfl) (fun hb => ?_) (fun hb => ?_) <;> (try simp only [hb0, decide_eq_true_eq, decide_eq_false_iff_not, simprocAttr] at hb) <;> (try (exfalso; omega))) | ((first | refine hK _ _ ?_ | (clear hK; refine hK _ _ ?_)); clear hK; try simp only [pst0, simprocAttr]))
                rw [hn]
theorem rvariable_c {h : Heap} {s : ByteArray} (hs : s.size ≤ 9223372036854775807) : PCall Try.prog 18 [sPV s] h fun r h' => r = .sc (.bool (varB s)) ∧ h' = h := by
 cases b1 : decide ((s.size : Int) ≥ 2) with
 | false =>
  have : varB s = false := by simp at b1; simp [varB]; omega
  refine pcall_body (ow := fun _ => false) (wf := fun _ => false) Ty.mixed Try.func18 rfl Ty.hb_18 (by rw [Try.ntmps18]; simp) ?_
  rw [Try.ntmps18, Try.results18]
  repeat' (first | refine a_seq fun K hK => ?_ | ((first | refine a_regionS ?_ | refine a_ret ?_); simp only [Ty.w, simprocAttr, b1]) | (refine hK _ _ ?_; clear hK; try simp only [pst0, simprocAttr]))
  rw [this]
 | true =>
  cases b2 : decide ((s.size : Int) ≤ 32) with
  | false =>
   have : varB s = false := by simp at b2; simp [varB]; omega
   refine pcall_body (ow := fun _ => false) (wf := fun _ => false) Ty.mixed Try.func18 rfl Ty.hb_18 (by rw [Try.ntmps18]; simp) ?_
   rw [Try.ntmps18, Try.results18]
   repeat' (first | refine a_seq fun K hK => ?_ | ((first | refine a_regionS ?_ | refine a_ret ?_); simp only [Ty.w, simprocAttr, b1, b2]) | (refine hK _ _ ?_; clear hK; try simp only [pst0, simprocAttr]))
   rw [this]
  | true =>
   simp at b1 b2
   have hsl : s.data.toList.length = s.size := by rw [Array.length_toList]; try rfl
   obtain ⟨c, hx⟩ : ∃ c, s.data.toList[0]? = some c := ⟨_, List.getElem?_eq_getElem (by omega)⟩
   have hr : s[0]? = some c := by rw [ba_get]; exact hx
   have d1 : decide ((s.size : Int) ≥ 2) = true := by simp; omega
   have d2 : decide ((s.size : Int) ≤ 32) = true := by simp; omega
   have q1 : (1 : Int) ≤ (s.size : Int) := by omega
   have hv : varB s = (decide (c.toNat = 63) && nameB (s.extract 1 s.size)) := by
    have e1 : decide (2 ≤ s.size) = true := by simp; omega
    have e2 : decide (s.size ≤ 32) = true := by simp; omega
    simp only [varB, e1, e2, hx, Bool.true_and]
   cases b3 : ((c.toNat : Int) == 63) with
   | false =>
    have : ¬ c.toNat = 63 := by simp at b3; omega
    refine pcall_body (ow := fun _ => false) (wf := fun _ => false) Ty.mixed Try.func18 rfl Ty.hb_18 (by rw [Try.ntmps18]; simp) ?_
    rw [Try.ntmps18, Try.results18]
    repeat' (first | refine a_seq fun K hK => ?_ | ((first | refine a_regionS ?_ | refine a_ret ?_); simp only [Ty.w, simprocAttr, d1, d2, hr, b3]) | (refine hK _ _ ?_; clear hK; try simp only [pst0, simprocAttr]))
    rw [hv]; simp [this]
   | true =>
    have : c.toNat = 63 := by simp at b3; omega
    refine pcall_body (ow := fun _ => false) (wf := fun _ => false) Ty.mixed Try.func18 rfl Ty.hb_18 (by rw [Try.ntmps18]; simp) ?_
    rw [Try.ntmps18, Try.results18]
    have hsz : (s.extract 1 s.size).size ≤ 9223372036854775807 := by simp; omega
    repeat' (first | refine a_seq fun K hK => ?_ | (refine a_regionS ?_; simp only [Ty.w, simprocAttr, d1, d2, hr, b3, q1, Option.getD_some, Option.getD_none, Int.le_refl]) | (refine hK _ _ ?_; clear hK; try simp only [pst0, simprocAttr]))
    refine owp_useQ (rname_c (s := s.extract 1 s.size) hsz) (by (try simp only [Ty.w, simprocAttr, d1, d2, hr, b3, q1, Option.getD_some, Option.getD_none, Int.le_refl]); try rfl) ?_; simp only [Ty.w, simprocAttr, d1, d2, hr, b3, q1, Option.getD_some, Option.getD_none, Int.le_refl]
    repeat' (first | (refine a_ret ?_; simp only [Ty.w, simprocAttr, d1, d2, b3]) | (refine hK _ _ ?_; clear hK; try simp only [pst0, simprocAttr]))
    rw [hv, this]; try rfl
end Go.Proofs.Ytjlkapgpjamnkaa
namespace Go.AM
inductive Sx where
 | mk (kind value line col : Int) (text : ByteArray) (kids : List Sx)
mutual
def Sx.cells : Sx → List PV
 | .mk kind value line col text kids => [.sc (.int .i64 kind), .sc (.int .i64 value), .sc (.int .i64 line), .sc (.int .i64 col), sPV text, .imm 6 (Sx.rows kids)]
def Sx.rows : List Sx → List (List PV)
 | [] => []
 | k :: ks => k.cells :: Sx.rows ks
end
theorem Sx.rows_map : ∀ l : List Sx, Sx.rows l = l.map Sx.cells
 | [] => rfl
 | k :: ks => by simp [Sx.rows, Sx.rows_map ks]
theorem Sx.rows_len (l : List Sx) : (Sx.rows l).length = l.length := by simp [Sx.rows_map]
theorem Sx.rows_get {l : List Sx} {i : Nat} {k : Sx} (h : l[i]? = some k) : (Sx.rows l)[i]? = some k.cells := by simp [Sx.rows_map, h]
theorem Sx.ind {C : Sx → Prop} (hC : ∀ kind value line col text kids, (∀ k ∈ kids, C k) → C (.mk kind value line col text kids)) : ∀ e, C e
 | .mk kind value line col text kids => hC kind value line col text kids fun k hk => Sx.ind hC k
termination_by e => SizeOf.sizeOf e
decreasing_by
 have := List.sizeOf_lt_of_mem hk
 simp only [Sx.mk.sizeOf_spec]
 omega
mutual
def Sx.ok : Sx → Prop
 | .mk kind value line col text kids => (-9223372036854775808 ≤ kind ∧ kind ≤ 9223372036854775807) ∧ (-9223372036854775808 ≤ value ∧ value ≤ 9223372036854775807) ∧ text.size ≤ bigN ∧ kids.length ≤ bigN ∧ Sx.oks kids
def Sx.oks : List Sx → Prop
 | [] => True
 | k :: ks => k.ok ∧ Sx.oks ks
end
theorem Sx.oks_iff : {l : List Sx} → (Sx.oks l ↔ ∀ k ∈ l, k.ok)
 | [] => by simp [Sx.oks]
 | k :: ks => by simp [Sx.oks, Sx.oks_iff (l := ks)]
end Go.AM
namespace Go.Proofs.Ytjlkapgpjamnkaa
open Go.AM
def digB (c : UInt8) : Bool := decide (48 ≤ c.toNat) && decide (c.toNat ≤ 57)
def signs : List UInt8 := [45, 95, 63, 58, 60, 62, 61, 43, 42]
def wB (c : UInt8) : Bool := letB c || digB c || signs.contains c
def upB (c : UInt8) : Bool := decide (65 ≤ c.toNat) && decide (c.toNat ≤ 90)
def lowB (c : UInt8) : Option UInt8 := if upB c then some (c + 32) else if wB c then some c else none
def lowL : List UInt8 → Option (List UInt8)
 | [] => some []
 | c :: l => match lowB c with
  | some d => (lowL l).map (d :: ·)
  | none => none
def lowS (s : ByteArray) : ByteArray × Bool := if 0 < s.size ∧ s.size ≤ 32 then (match lowL s.data.toList with | some l => (⟨l.toArray⟩, true) | none => (⟨#[]⟩, false)) else (⟨#[]⟩, false)
def trimB (s : ByteArray) : ByteArray := match s.data.toList with
 | 45 :: l => ⟨l.toArray⟩
 | _ => s
def numB (s : ByteArray) : Bool := (trimB s).data.toList.all digB && decide (0 < (trimB s).size)
def wordB (s : ByteArray) : Bool := (lowS s).2 && bEq (lowS s).1 s && !(numB (lowS s).1)
mutual
def svalid : Sx → Nat → Nat → Bool × Nat
 | .mk kind value _ _ text kids, d, n =>
  if n + 1 > 4096 then (false, n + 1)
  else if kind = 1 then (wordB text && decide (value = 0) && kids.isEmpty, n + 1)
  else if kind = 2 then (bEq text ⟨#[]⟩ && kids.isEmpty && decide (-1099511627776 ≤ value) && decide (value ≤ 1099511627776), n + 1)
  else if kind = 3 then (if bEq text ⟨#[]⟩ = true ∧ value = 0 ∧ d ≠ 32 then svalids kids (d + 1) (n + 1) else (false, n + 1))
  else (false, n + 1)
def svalids : List Sx → Nat → Nat → Bool × Nat
 | [], _, n => (true, n)
 | k :: ks, d, n => match svalid k d n with
  | (true, n') => svalids ks d n'
  | (false, n') => (false, n')
end
end Go.Proofs.Ytjlkapgpjamnkaa
namespace Go.AM
def vEq : Value → Value → Bool
  | .int k a, .int k' b => decide (k = k') && decide (a = b)
  | .bool a, .bool b => a == b
  | .string a, .string b => decide (a.data.toList = b.data.toList)
  | .nilIface, .nilIface => true
  | .pointer none, .pointer none => true
  | .map none, .map none => true
  | .slice none n m, .slice none n' m' => decide (n = n') && decide (m = m')
  | .func (.func f) a b, .func (.func f') a' b' => decide (f = f') && decide (a.size = 0) && decide (b.size = 0) && decide (a'.size = 0) && decide (b'.size = 0)
  | .iface t v, .iface u x => decide (t = u) && vEq v x
  | _, _ => false
theorem vEq_eq (a b : Value) (h : vEq a b = true) : a = b := by
  fun_induction vEq a b
  case case3 a b =>
    obtain ⟨⟨a⟩⟩ := a
    obtain ⟨⟨b⟩⟩ := b
    simp at h; rw [h]
  case case8 =>
    simp at h
    obtain ⟨⟨⟨⟨rfl, rfl⟩, rfl⟩, rfl⟩, rfl⟩ := h
    rfl
  all_goals simp_all
mutual
def pvEq : PV → PV → Bool
  | .sc v, .sc u => vEq v u
  | .ptr a b c, .ptr a' b' c' => decide (a = a') && decide (b = b') && decide (c = c')
  | .own a b c, .own a' b' c' => decide (a = a') && decide (b = b') && decide (c = c')
  | .mp a, .mp b => decide (a = b)
  | .emp, .emp => true
  | .cptr l, .cptr l' => pvEqL l l'
  | .agg l, .agg l' => pvEqL l l'
  | .tup l, .tup l' => pvEqL l l'
  | .fn f a b, .fn f' a' b' => decide (f = f') && pvEqL a a' && pvEqL b b'
  | .ab k a b c d, .ab k' a' b' c' d' => decide (k = k') && decide (a = a') && decide (b = b') && decide (c = c') && decide (d = d')
  | .imm z r, .imm z' r' => decide (z = z') && pvEqR r r'
  | _, _ => false
def pvEqL : List PV → List PV → Bool
  | [], [] => true
  | a :: l, b :: l' => pvEq a b && pvEqL l l'
  | _, _ => false
def pvEqR : List (List PV) → List (List PV) → Bool
  | [], [] => true
  | a :: l, b :: l' => pvEqL a b && pvEqR l l'
  | _, _ => false
end
mutual
theorem pvEq_eq : ∀ (a b : PV), pvEq a b = true → a = b
  | .sc v, b, h => by cases b <;> simp [pvEq] at h; rw [vEq_eq _ _ h]
  | .ptr a b c, x, h => by cases x <;> simp [pvEq] at h; obtain ⟨⟨rfl, rfl⟩, rfl⟩ := h; rfl
  | .own a b c, x, h => by cases x <;> simp [pvEq] at h; obtain ⟨⟨rfl, rfl⟩, rfl⟩ := h; rfl
  | .mp a, x, h => by cases x <;> simp [pvEq] at h; rw [h]
  | .emp, x, h => by cases x <;> simp [pvEq] at h; rfl
  | .cptr l, x, h => by cases x <;> simp [pvEq] at h; rw [pvEqL_eq _ _ h]
  | .agg l, x, h => by cases x <;> simp [pvEq] at h; rw [pvEqL_eq _ _ h]
  | .tup l, x, h => by cases x <;> simp [pvEq] at h; rw [pvEqL_eq _ _ h]
  | .imm z r, x, h => by cases x <;> simp [pvEq] at h; rw [h.1, pvEqR_eq _ _ h.2]
  | .fn f a b, x, h => by cases x <;> simp [pvEq] at h; rw [h.1.1, pvEqL_eq _ _ h.1.2, pvEqL_eq _ _ h.2]
  | .ab k a b c d, x, h => by cases x <;> simp [pvEq] at h; obtain ⟨⟨⟨⟨rfl, rfl⟩, rfl⟩, rfl⟩, rfl⟩ := h; rfl
theorem pvEqL_eq : ∀ (a b : List PV), pvEqL a b = true → a = b
  | [], b, h => by cases b <;> simp [pvEqL] at h; rfl
  | x :: l, b, h => by cases b <;> simp [pvEqL] at h; rw [pvEq_eq _ _ h.1, pvEqL_eq _ _ h.2]
theorem pvEqR_eq : ∀ (a b : List (List PV)), pvEqR a b = true → a = b
  | [], b, h => by cases b <;> simp [pvEqR] at h; rfl
  | x :: l, b, h => by cases b <;> simp [pvEqR] at h; rw [pvEqL_eq _ _ h.1, pvEqR_eq _ _ h.2]
end
abbrev CallR := FuncId → List PV → Heap → Option (PV × Bool × Heap)
section
variable (P : Program) (wf : FuncId → Bool) (own : FuncId → Nat → Bool) (ext : FuncId → List PV → Option PV)
def xop (call : CallR) (ow : Nat → Bool) (o : Oper) (ρ : Operand → PV) (h : Heap) : Option (PV × Bool × Heap) :=
  match callee ρ o.op with
  | some (f, args) => call f args h
  | none => match eff P (o.dst.any ow) o.op ρ h with
    | some (v, h') => some (v, !(isW ow wf o), h')
    | none => none
def xagain (call : CallR) (ow : Nat → Bool) (o : Oper) (ρ : Operand → PV) (h : Heap) (v : PV) : Bool :=
  match xop P wf call ow o ρ h with
  | some (v', q, _) => q && pvEq v' v
  | none => false
def xl (call : CallR) (ow : Nat → Bool) (n : Nat) (ops : List Oper) : List Oper → Slots → Bool → Heap → Option (Slots × Bool × Heap)
  | [], s, q, h => some (s, q, h)
  | o :: rest, s, q, h => if o.dst.all (fun d => decide (d < n)) = true then
      match wantedB ops s o with
      | none => none
      | some false => xl call ow n ops rest (updO s o.dst (.sc undef)) q h
      | some true => match xop P wf call ow o (pev s) h with
        | some (v, q', h') => xl call ow n ops rest (updO s o.dst v) (q && q') h'
        | none => none
    else none
def xd (call : CallR) (ow : Nat → Bool) (n : Nat) (ops : List Oper) : Nat → List Oper → List (Nat × Oper × Slots × PV) → List (Nat × Heap) → Slots → Bool → Heap → Option (Slots × Bool × Heap)
  | _, [], _, _, s, q, h => some (s, q, h)
  | k, o :: rest, past, hist, s, q, h => if o.dst.all (fun d => decide (d < n)) = true then
      match wantedB ops s o with
      | none => none
      | some false => xd call ow n ops (k + 1) rest past hist (updO s o.dst (.sc undef)) q h
      | some true => match xop P wf call ow o (pev s) h with
        | none => none
        | some (v, q', h') =>
          if isW ow wf o = true then
            (if past.all (fun x => pre ops x.1 k || xagain P wf call ow x.2.1 (pev x.2.2.1) h' x.2.2.2) = true then xd call ow n ops (k + 1) rest past ((k, h) :: hist) (updO s o.dst v) (q && q') h' else none)
          else if q' = true then
            (if hist.all (fun x => pre ops x.1 k || xagain P wf call ow o (pev s) x.2 v) = true then xd call ow n ops (k + 1) rest ((k, o, s, v) :: past) hist (updO s o.dst v) q h else none)
          else none
    else none
def xc (call : CallR) (ow : Nat → Bool) (n : Nat) : Nat → Code → Slots → Bool → Heap → Option (Exit × Slots × Bool × Heap)
  | 0, _, _, _, _ => none
  | k + 1, c, s, q, h => match c with
    | .skip => some (.normal, s, q, h)
    | .region _ ops true => if dOk ow wf ops.toList = true then (xd P wf call ow n ops.toList 0 ops.toList [] [] s q h).map (Exit.normal, ·) else none
    | .region _ ops false => (xl P wf call ow n ops.toList ops.toList s q h).map (Exit.normal, ·)
    | .seq a b => match xc call ow n k a s q h with
      | some (.normal, s', q', h') => xc call ow n k b s' q' h'
      | r => r
    | .cond c x y => match pev s c with
      | .sc (.bool true) => xc call ow n k x s q h
      | .sc (.bool false) => xc call ow n k y s q h
      | _ => none
    | .block id c => match xc call ow n k c s q h with
      | some (.exit id', s', q', h') => some (if id' = id then .normal else .exit id', s', q', h')
      | r => r
    | .loop c => match xc call ow n k c s q h with
      | some (.normal, s', q', h') => xc call ow n k (.loop c) s' q' h'
      | r => r
    | .exit id => some (.exit id, s, q, h)
    | .ret => some (.ret, s, q, h)
    | _ => none
def xf (m : Nat) : Nat → CallR
  | 0, _, _, _ => none
  | k + 1, f, args, h => match ext f args with
   | some r => some (r, true, h)
   | none => match P.funcs[f]? with
    | none => none
    | some fn => if hasBody P f = true ∧ args.length ≤ fn.ntmps then match fn.body with
        | none => none
        | some c => match xc P wf (xf m k) (own f) fn.ntmps m c (slots0 args) true h with
          | some (.normal, s, q, h') => (resAll P s h' fn.results.toList).map fun vs => (resV vs, q, h')
          | some (.ret, s, q, h') => (resAll P s h' fn.results.toList).map fun vs => (resV vs, q, h')
          | _ => none
      else none
end
section
variable {P : Program} {wf : FuncId → Bool} {own : FuncId → Nat → Bool}
def ExtOk (P : Program) (ext : FuncId → List PV → Option PV) : Prop := ∀ f args r h, ext f args = some r → PCall P f args h (fun r' h' => r' = r ∧ h' = h)
def CallOk (P : Program) (call : CallR) : Prop := ∀ f args h v q h', call f args h = some (v, q, h') → PCall P f args h (fun r h'' => r = v ∧ h'' = h') ∧ (q = true → h' = h)
theorem eff_same {ow : Nat → Bool} {o : Oper} {ρ : Operand → PV} {h h' : Heap} {v : PV} (hw : isW ow wf o = false) (hc : callee ρ o.op = none) (he : eff P (o.dst.any ow) o.op ρ h = some (v, h')) : h' = h := by
  obtain ⟨dst, op, t, pos, after, guard⟩ := o
  simp only at hc he hw
  unfold eff at he
  split at he <;> simp only [isW] at hw <;> (try (simp at hw; done))
  all_goals (repeat' (split at he))
  all_goals first
    | (simp [Option.bind_eq_some_iff, Option.map_eq_some_iff] at he; done)
    | (simp [Option.bind_eq_some_iff, Option.map_eq_some_iff] at he; grind)
    | skip
theorem xop_ok {call : CallR} (hk : CallOk P call) {ow : Nat → Bool} {o : Oper} {ρ : Operand → PV} {h h' : Heap} {v : PV} {q : Bool} (hx : xop P wf call ow o ρ h = some (v, q, h')) : Does P ow o ρ h v h' ∧ (q = true → h' = h) := by
  unfold xop at hx
  unfold Does
  split at hx
  · rename_i f args hc
    rw [hc]
    exact hk _ _ _ _ _ _ hx
  · rename_i hc
    rw [hc]
    split at hx
    · rename_i v1 h1 he
      simp only [Option.some.injEq, Prod.mk.injEq] at hx
      obtain ⟨rfl, rfl, rfl⟩ := hx
      exact ⟨he, fun hq => eff_same (by simpa using hq) hc he⟩
    · simp at hx
theorem xagain_ok {call : CallR} (hk : CallOk P call) {ow : Nat → Bool} {o : Oper} {ρ : Operand → PV} {h : Heap} {v : PV} (hx : xagain P wf call ow o ρ h v = true) : Does P ow o ρ h v h := by
  unfold xagain at hx
  split at hx
  · rename_i v' q h' hp
    simp only [Bool.and_eq_true] at hx
    obtain ⟨rfl, hx⟩ := hx
    obtain ⟨h1, h2⟩ := xop_ok hk hp
    rw [h2 rfl, pvEq_eq _ _ hx] at h1
    exact h1
  · simp at hx
theorem Does.owp {ow : Nat → Bool} {o : Oper} {s : Slots} {h h' : Heap} {v : PV} {K : Slots → Heap → Prop} (hd : Does P ow o (pev s) h v h') (hK : K (updO s o.dst v) h') : owp P ow o K s h := by
  unfold Does at hd
  unfold AM.owp
  split at hd
  · rename_i f args hc
    exact hd.mono (fun r h'' hr => by rw [hr.1, hr.2]; exact hK)
  · rename_i hc
    rw [hd]
    exact hK
theorem xl_ok {call : CallR} (hk : CallOk P call) {ow : Nat → Bool} {n : Nat} {ops : List Oper} {K : Slots → Heap → Prop} : ∀ (l : List Oper) {s s' : Slots} {q q' : Bool} {h h' : Heap}, xl P wf call ow n ops l s q h = some (s', q', h') →
    (K s' h' → lwp P ow n ops l K s h) ∧ (q' = true → q = true ∧ h' = h)
  | [], s, s', q, q', h, h', hx => by
    simp only [xl, Option.some.injEq, Prod.mk.injEq] at hx
    obtain ⟨rfl, rfl, rfl⟩ := hx
    exact ⟨fun hK => hK, fun hq => ⟨hq, rfl⟩⟩
  | o :: rest, s, s', q, q', h, h', hx => by
    unfold xl at hx
    split at hx
    · rename_i hd
      unfold lwp
      split at hx
      · simp at hx
      · rename_i hw
        obtain ⟨h1, h2⟩ := xl_ok hk rest hx
        rw [hw]
        exact ⟨fun hK => ⟨hd, by simpa using h1 hK⟩, h2⟩
      · rename_i hw
        split at hx
        · rename_i v q1 h1 hp
          obtain ⟨d1, d2⟩ := xop_ok hk hp
          obtain ⟨g1, g2⟩ := xl_ok hk rest hx
          rw [hw]
          refine ⟨fun hK => ⟨hd, by simpa using d1.owp (g1 hK)⟩, fun hq => ?_⟩
          obtain ⟨e1, e2⟩ := g2 hq
          simp only [Bool.and_eq_true] at e1
          rw [e2, d2 e1.2]
          exact ⟨e1.1, rfl⟩
        · simp at hx
    · simp at hx
theorem xd_ok {call : CallR} (hk : CallOk P call) {ow : Nat → Bool} {n : Nat} {ops : List Oper} {K : Slots → Heap → Prop} : ∀ (l : List Oper) (k : Nat) {past : List (Nat × Oper × Slots × PV)} {hist : List (Nat × Heap)} {s s' : Slots} {q q' : Bool} {h h' : Heap}, xd P wf call ow n ops k l past hist s q h = some (s', q', h') →
    (K s' h' → drun P ow wf n ops k l (past.map fun x => (x.1, fun h2 => Does P ow x.2.1 (pev x.2.2.1) h2 x.2.2.2 h2)) hist K s h) ∧ (q' = true → q = true ∧ h' = h)
  | [], k, past, hist, s, s', q, q', h, h', hx => by
    simp only [xd, Option.some.injEq, Prod.mk.injEq] at hx
    obtain ⟨rfl, rfl, rfl⟩ := hx
    exact ⟨fun hK => hK, fun hq => ⟨hq, rfl⟩⟩
  | o :: rest, k, past, hist, s, s', q, q', h, h', hx => by
    unfold xd at hx
    split at hx
    · rename_i hd
      unfold drun
      split at hx
      · simp at hx
      · rename_i hw
        obtain ⟨h1, h2⟩ := xd_ok hk rest (k + 1) hx
        rw [hw]
        exact ⟨fun hK => ⟨hd, by simpa using h1 hK⟩, h2⟩
      · rename_i hw
        split at hx
        · simp at hx
        · rename_i v q1 h1 hp
          obtain ⟨d1, d2⟩ := xop_ok hk hp
          rw [hw]
          split at hx
          · rename_i hiw
            split at hx
            · rename_i hpast
              obtain ⟨g1, g2⟩ := xd_ok hk rest (k + 1) hx
              refine ⟨fun hK => ⟨hd, ?_⟩, fun hq => ?_⟩
              · simp only [hiw, if_true]
                refine ⟨v, h1, d1, ?_, g1 hK⟩
                intro x hx1
                obtain ⟨y, hy, rfl⟩ := List.mem_map.1 hx1
                have := List.all_eq_true.1 hpast y hy
                simp only [Bool.or_eq_true] at this
                exact this.imp id (fun t => xagain_ok hk t)
              · obtain ⟨e1, e2⟩ := g2 hq
                simp only [Bool.and_eq_true] at e1
                rw [e2, d2 e1.2]
                exact ⟨e1.1, rfl⟩
            · simp at hx
          · rename_i hiw
            split at hx
            · rename_i hq1
              split at hx
              · rename_i hhist
                obtain ⟨g1, g2⟩ := xd_ok hk rest (k + 1) hx
                refine ⟨fun hK => ⟨hd, ?_⟩, g2⟩
                simp only [hiw, if_true, Bool.false_eq_true, if_false]
                have e1 := d2 hq1
                subst e1
                refine ⟨v, d1, ?_, g1 hK⟩
                intro x hx1
                have := List.all_eq_true.1 hhist x hx1
                simp only [Bool.or_eq_true] at this
                exact this.imp id (fun t => xagain_ok hk t)
              · simp at hx
            · simp at hx
    · simp at hx
theorem xc_ok {call : CallR} (hk : CallOk P call) {ow : Nat → Bool} {n : Nat} : ∀ (m : Nat) (c : Code) {s s' : Slots} {q q' : Bool} {h h' : Heap} {e : Exit}, xc P wf call ow n m c s q h = some (e, s', q', h') →
    (∀ Q : Post, Q e s' h' → awp P ow wf n c Q s h) ∧ (q' = true → q = true ∧ h' = h)
  | 0, c, s, s', q, q', h, h', e, hx => by simp [xc] at hx
  | m + 1, c, s, s', q, q', h, h', e, hx => by
    unfold xc at hx
    split at hx
    · simp only [Option.some.injEq, Prod.mk.injEq] at hx
      obtain ⟨rfl, rfl, rfl, rfl⟩ := hx
      exact ⟨fun Q hQ => by simpa only [awp] using hQ, fun hq => ⟨hq, rfl⟩⟩
    · rename_i id ops
      split at hx
      · rename_i hdo
        simp only [Option.map_eq_some_iff, Prod.mk.injEq] at hx
        obtain ⟨⟨s1, q1, h1⟩, hx, rfl, rfl, rfl, rfl⟩ := hx
        have := fun (Q : Post) => xd_ok (K := Q .normal) hk _ _ hx
        exact ⟨fun Q hQ => by simp only [awp, if_true]; exact .inl ⟨hdo, (this Q).1 hQ⟩, (this (fun _ _ _ => True)).2⟩
      · simp at hx
    · rename_i id ops
      simp only [Option.map_eq_some_iff, Prod.mk.injEq] at hx
      obtain ⟨⟨s1, q1, h1⟩, hx, rfl, rfl, rfl, rfl⟩ := hx
      have := fun (Q : Post) => xl_ok (K := Q .normal) hk _ hx
      exact ⟨fun Q hQ => by simp only [awp, Bool.false_eq_true, if_false]; exact (this Q).1 hQ, (this (fun _ _ _ => True)).2⟩
    · rename_i a b
      split at hx
      · rename_i s1 q1 h1 ha
        obtain ⟨a1, a2⟩ := xc_ok hk m a ha
        obtain ⟨b1, b2⟩ := xc_ok hk m b hx
        refine ⟨fun Q hQ => by simp only [awp]; exact a1 _ (b1 Q hQ), fun hq => ?_⟩
        obtain ⟨e1, e2⟩ := b2 hq
        obtain ⟨e3, e4⟩ := a2 e1
        exact ⟨e3, e2.trans e4⟩
      · rename_i hne
        obtain ⟨a1, a2⟩ := xc_ok hk m a hx
        refine ⟨fun Q hQ => ?_, a2⟩
        simp only [awp]
        refine a1 _ ?_
        cases e <;> simp only [Post.seq] <;> first | exact hQ | exact (hne _ _ _ hx).elim
    · rename_i c x y
      split at hx
      · rename_i hc
        obtain ⟨a1, a2⟩ := xc_ok hk m x hx
        exact ⟨fun Q hQ => by simp only [awp, hc, if_true]; exact a1 Q hQ, a2⟩
      · rename_i hc
        obtain ⟨a1, a2⟩ := xc_ok hk m y hx
        exact ⟨fun Q hQ => by simp only [awp, hc, Bool.false_eq_true, if_false]; exact a1 Q hQ, a2⟩
      · simp at hx
    · rename_i id c
      split at hx
      · rename_i id' s1 q1 h1 ha
        obtain ⟨a1, a2⟩ := xc_ok hk m c ha
        simp only [Option.some.injEq, Prod.mk.injEq] at hx
        obtain ⟨rfl, rfl, rfl, rfl⟩ := hx
        refine ⟨fun Q hQ => ?_, a2⟩
        simp only [awp]
        refine a1 _ ?_
        simp only [Post.block]
        split <;> rename_i hid <;> simpa only [hid, if_true, if_false] using hQ
      · rename_i hne
        obtain ⟨a1, a2⟩ := xc_ok hk m c hx
        refine ⟨fun Q hQ => ?_, a2⟩
        simp only [awp]
        refine a1 _ ?_
        cases e <;> simp only [Post.block] <;> first | exact hQ | exact (hne _ _ _ _ hx).elim
    · rename_i c
      split at hx
      · rename_i s1 q1 h1 ha
        obtain ⟨a1, a2⟩ := xc_ok hk m c ha
        obtain ⟨b1, b2⟩ := xc_ok hk m (.loop c) hx
        refine ⟨fun Q hQ => ?_, fun hq => ?_⟩
        · have := b1 Q hQ
          simp only [awp] at this ⊢
          obtain ⟨j, hj⟩ := this
          exact ⟨j + 1, a1 _ hj⟩
        · obtain ⟨e1, e2⟩ := b2 hq
          obtain ⟨e3, e4⟩ := a2 e1
          exact ⟨e3, e2.trans e4⟩
      · rename_i hne
        obtain ⟨a1, a2⟩ := xc_ok hk m c hx
        refine ⟨fun Q hQ => ?_, a2⟩
        simp only [awp]
        refine ⟨1, a1 _ ?_⟩
        cases e <;> simp only [Post.seq] <;> first | exact hQ | exact (hne _ _ _ hx).elim
    · simp only [Option.some.injEq, Prod.mk.injEq] at hx
      obtain ⟨rfl, rfl, rfl, rfl⟩ := hx
      exact ⟨fun Q hQ => by simpa only [awp] using hQ, fun hq => ⟨hq, rfl⟩⟩
    · simp only [Option.some.injEq, Prod.mk.injEq] at hx
      obtain ⟨rfl, rfl, rfl, rfl⟩ := hx
      exact ⟨fun Q hQ => by simpa only [awp] using hQ, fun hq => ⟨hq, rfl⟩⟩
    · simp at hx
theorem xf_ok (hm : P.follows .mixedOrders = true) {ext : FuncId → List PV → Option PV} (hext : ExtOk P ext) {m : Nat} : ∀ k, CallOk P (xf P wf own ext m k)
  | 0, f, args, h, v, q, h', hx => by simp [xf] at hx
  | k + 1, f, args, h, v, q, h', hx => by
    unfold xf at hx
    split at hx
    · rename_i r hr
      simp only [Option.some.injEq, Prod.mk.injEq] at hx
      obtain ⟨rfl, rfl, rfl⟩ := hx
      exact ⟨hext _ _ _ _ hr, fun _ => rfl⟩
    split at hx
    · simp at hx
    · rename_i fn hf
      split at hx
      · rename_i hh
        split at hx
        · simp at hx
        · rename_i c hb
          split at hx
          · rename_i s q1 h1 hc
            simp only [Option.map_eq_some_iff, Prod.mk.injEq] at hx
            obtain ⟨vs, hr, rfl, rfl, rfl⟩ := hx
            obtain ⟨a1, a2⟩ := xc_ok (xf_ok hm hext k) m c hc
            refine ⟨pcall_body hm hf hb hh.1 hh.2 (a1 _ ?_), fun hq => (a2 hq).2⟩
            simp only [retPost, hr]
            exact ⟨trivial, trivial⟩
          · rename_i s q1 h1 hc
            simp only [Option.map_eq_some_iff, Prod.mk.injEq] at hx
            obtain ⟨vs, hr, rfl, rfl, rfl⟩ := hx
            obtain ⟨a1, a2⟩ := xc_ok (xf_ok hm hext k) m c hc
            refine ⟨pcall_body hm hf hb hh.1 hh.2 (a1 _ ?_), fun hq => (a2 hq).2⟩
            simp only [retPost, hr]
            exact ⟨trivial, trivial⟩
          · simp at hx
      · simp at hx
theorem pcall_indexByte {f : FuncId} {fn : Func} (hf : P.funcs[f]? = some fn) (hname : (fn.name == "runtime.NumGoroutine") = false) (hb : fn.body.isNone = true) (hn : Extern.findNext fn = none) (he : Extern.find fn = some Extern.BytealgIndexByte.indexByte) (s : ByteArray) (c : Int) (h : Heap) :
    PCall P f [.sc (.string s), .sc (.int .u8 c)] h (fun r h' => r = .sc (.int .i64 (firstIdx s c.toNat.toUInt8)) ∧ h' = h) := by
  intro β w vals sm hr
  match vals, hr.len, hr with
  | [x, y], _, hr =>
    simp only [RepL, Rep] at hr
    obtain ⟨rfl, rfl, _⟩ := hr
    exact .inr ⟨_, w, by rw [run_callFunc_extern hf hname hb hn he]; simp only [run_indexByte_string]; rfl, _, h, β, _, rfl, ⟨rfl, rfl⟩, sm, by simp only [RepH, Rep], Ext.refl⟩
def xgives (r : Option (PV × Bool × Heap)) (v : PV) : Bool := match r with
  | some (u, _, _) => pvEq u v
  | none => false
theorem pcall_run (hm : P.follows .mixedOrders = true) {ext : FuncId → List PV → Option PV} (hext : ExtOk P ext) {m k : Nat} {f : FuncId} {args : List PV} {h : Heap} {v : PV} (hx : xgives (xf P wf own ext m k f args h) v = true) : PCall P f args h (fun r _ => r = v) := by
  unfold xgives at hx
  split at hx
  · rename_i u q h' hr
    refine ((xf_ok hm hext k _ _ _ _ _ _ hr).1).mono (fun r h'' hr => ?_)
    rw [hr.1, pvEq_eq _ _ hx]
  · simp at hx
end
end Go.AM
namespace Go.Proofs.Ytjlkapgpjamnkaa
open Go.AM
set_option maxHeartbeats 2000000
set_option maxRecDepth 100000
def ext (f : FuncId) (args : List PV) : Option PV := if f = 166 then (match args with | [.sc (.string s), .sc (.int .u8 c)] => some (.sc (.int .i64 (firstIdx s c.toNat.toUInt8))) | _ => none) else none
theorem ixb_ok : (Try.f166.name == "runtime.NumGoroutine") = false ∧ Try.f166.body.isNone = true ∧ Extern.findNext Try.f166 = none ∧ Extern.find Try.f166 = some Extern.BytealgIndexByte.indexByte :=
 ⟨by kernel_rfl, by kernel_rfl, by kernel_rfl, by kernel_rfl⟩
theorem ext_ok : ExtOk Try.prog ext := by
 intro f args r h hr
 unfold ext at hr
 split at hr
 ·rename_i hf
  subst hf
  split at hr
  ·simp only [Option.some.injEq] at hr
   subst hr
   exact pcall_indexByte Try.func166 ixb_ok.1 ixb_ok.2.1 ixb_ok.2.2.1 ixb_ok.2.2.2 _ _ _
  ·simp at hr
 ·simp at hr
def ownS (f t : Nat) : Bool := (f == 26 && t == 5) || (f == 42 && t == 5) || (f == 83 && t == 3) || (f == 82 && t == 3) || (f == 109 && t == 10)
theorem awake_c : PCall Try.prog 14 [] Heap.nil fun r h' => r = .sc (.bool true) ∧ h' = Heap.nil := by
 have h1 : PCall Try.prog 14 [] Heap.nil fun r _ => r = .sc (.bool true) := pcall_run (wf := fun _ => true) (own := ownS) (m := 1000) (k := 40) Ty.mixed ext_ok (by kernel_rfl)
 refine PCall.drop (h1.mono ?_)
 rintro r h' rfl
 refine ⟨.sc (.bool true), Heap.nil, ⟨rfl, rfl⟩, ?_, Nat.le_refl _, fun id o ho => by simp [Heap.nil] at ho⟩
 simp only [FrzTo]
end Go.Proofs.Ytjlkapgpjamnkaa
namespace Go.Proofs.Ytjlkapgpjamnkaa
open Go.AM
set_option maxHeartbeats 2000000
set_option maxRecDepth 20000
theorem PCall.quiet2 {P : Program} {f : FuncId} {args : List PV} {h : Heap} {v u : Value} (hb : hasBody P f = true) (hc : PCall P f args h fun r h' => r = .tup [.sc v, .sc u] ∧ Grow h h') : PCall P f args h fun r h' => r = .tup [.sc v, .sc u] ∧ h' = h := by
 refine pcall_wf hb fun hw => PCall.drop (hc.mono ?_)
 rintro r h' ⟨rfl, g⟩
 refine ⟨.tup [.sc v, .sc u], h, ⟨rfl, rfl⟩, by simp only [FrzTo, FrzL]; exact ⟨_, rfl, rfl, rfl, trivial⟩, Nat.le_refl _, fun id o ho => ?_⟩
 have hid := hw id (by rw [ho]; try rfl)
 exact ⟨by rw [g.old id hid]; exact ho, hid, .inl ho⟩
theorem digit_c {h : Heap} {c : UInt8} : PCall Try.prog 153 [.sc (.int .u8 c.toNat)] h fun r h' => r = .sc (.bool (digB c)) ∧ h' = h := by
 cases b1 : decide ((c.toNat : Int) ≥ 48) with
 | false =>
  have : digB c = false := by simp at b1; simp [digB]; omega
  refine pcall_body (ow := fun _ => false) (wf := fun _ => false) Ty.mixed Try.func153 rfl Ty.hb_153 (by rw [Try.ntmps153]; simp) ?_
  rw [Try.ntmps153, Try.results153]
  repeat' (first | refine a_seq fun K hK => ?_ | ((first | refine a_regionS ?_ | refine a_ret ?_); simp only [Ty.w, simprocAttr, b1]) | (refine hK _ _ ?_; clear hK; try simp only [pst0, simprocAttr]))
  rw [this]
 | true =>
  have : digB c = decide ((c.toNat : Int) ≤ 57) := by
   simp at b1
   have e1 : decide (48 ≤ c.toNat) = true := by simp; omega
   simp only [digB, e1, Bool.true_and]
   exact decide_eq_decide.2 (by omega)
  refine pcall_body (ow := fun _ => false) (wf := fun _ => false) Ty.mixed Try.func153 rfl Ty.hb_153 (by rw [Try.ntmps153]; simp) ?_
  rw [Try.ntmps153, Try.results153]
  repeat' (first | refine a_seq fun K hK => ?_ | ((first | refine a_regionS ?_ | refine a_ret ?_); simp only [Ty.w, simprocAttr, b1]) | (refine hK _ _ ?_; clear hK; try simp only [pst0, simprocAttr]))
  rw [this]
theorem firstIdx_ge (s : ByteArray) (c : UInt8) : decide (firstIdx s c ≥ 0) = s.data.toList.contains c := by
 unfold firstIdx
 have hsl : s.data.toList.length = s.size := by rw [Array.length_toList]; try rfl
 have hget : ∀ i, i < s.size → s[i]! = s.data.toList[i]! := by
  intro i hi
  have h1 : s[i]? = s.data.toList[i]? := ba_get s i
  rw [getElem!_def, getElem!_def, h1]
 cases hf : (List.range s.size).find? fun i => s[i]! == c with
 | none =>
  rw [List.find?_eq_none] at hf
  have : s.data.toList.contains c = false := by
   rw [Bool.eq_false_iff]
   intro hc
   rw [List.contains_iff_mem] at hc
   obtain ⟨i, hi, he⟩ := List.getElem_of_mem hc
   have h2 := hf i (by simp; omega)
   rw [hget i (by omega), getElem!_pos s.data.toList i hi, he] at h2
   simp at h2
  rw [this]; try rfl
 | some i =>
  have h1 := List.find?_some hf
  have h2 := List.mem_of_find?_eq_some hf
  simp at h2
  have : s.data.toList.contains c = true := by
   rw [List.contains_iff_mem]
   rw [hget i h2] at h1
   rw [getElem!_pos s.data.toList i (by omega)] at h1
   have := beq_iff_eq.1 h1
   rw [← this]
   exact List.getElem_mem _
  rw [this]; simp
theorem indexByte_c {h : Heap} {s : ByteArray} {c : UInt8} : PCall Try.prog 154 [sPV s, .sc (.int .u8 c.toNat)] h fun r h' => r = .sc (.int .i64 (firstIdx s c)) ∧ h' = h := by
 have hx : PCall Try.prog 166 [sPV s, .sc (.int .u8 c.toNat)] h fun r h' => r = .sc (.int .i64 (firstIdx s c)) ∧ h' = h := by
  have := pcall_indexByte (P := Try.prog) Try.func166 ixb_ok.1 ixb_ok.2.1 ixb_ok.2.2.1 ixb_ok.2.2.2 s c.toNat h
  simpa using this
 have hy : PCall Try.prog 163 [sPV s, .sc (.int .u8 c.toNat)] h fun r h' => r = .sc (.int .i64 (firstIdx s c)) ∧ h' = h := by
  refine pcall_body (ow := fun _ => false) (wf := fun _ => false) Ty.mixed Try.func163 rfl Ty.hb_163 (by rw [Try.ntmps163]; simp) ?_
  rw [Try.ntmps163, Try.results163]
  repeat' (first | refine a_seq fun K hK => ?_ | (refine a_regionS ?_; simp only [Ty.w, simprocAttr]) | (refine hK _ _ ?_; clear hK; try simp only [pst0, simprocAttr]))
  refine owp_useQ (hx) (by (try simp only [Ty.w, simprocAttr, ]); try rfl) ?_; simp only [Ty.w, simprocAttr, ]
  repeat' (first | (refine a_ret ?_; simp only [Ty.w, simprocAttr]) | (refine hK _ _ ?_; clear hK; try simp only [pst0, simprocAttr]))
 refine pcall_body (ow := fun _ => false) (wf := fun _ => false) Ty.mixed Try.func154 rfl Ty.hb_154 (by rw [Try.ntmps154]; simp) ?_
 rw [Try.ntmps154, Try.results154]
 repeat' (first | refine a_seq fun K hK => ?_ | (refine a_regionS ?_; simp only [Ty.w, simprocAttr]) | (refine hK _ _ ?_; clear hK; try simp only [pst0, simprocAttr]))
 refine owp_useQ (hy) (by (try simp only [Ty.w, simprocAttr, ]); try rfl) ?_; simp only [Ty.w, simprocAttr, ]
 repeat' (first | (refine a_ret ?_; simp only [Ty.w, simprocAttr]) | (refine hK _ _ ?_; clear hK; try simp only [pst0, simprocAttr]))
theorem ba_ext {a b : ByteArray} (h : a.data.toList = b.data.toList) : a = b := by
 obtain ⟨⟨a⟩⟩ := a
 obtain ⟨⟨b⟩⟩ := b
 simp at h; rw [h]
theorem hasPrefix_c {h : Heap} {s : ByteArray} : PCall Try.prog 167 [sPV s, sPV ⟨#[45]⟩] h fun r h' => r = .sc (.bool (match s.data.toList with | 45 :: _ => true | _ => false)) ∧ h' = h := by
 have hsl : s.data.toList.length = s.size := by rw [Array.length_toList]; try rfl
 have h1 : (ByteArray.mk #[45]).size = 1 := rfl
 cases b1 : decide ((s.size : Int) ≥ 1) with
 | false =>
  have : (match s.data.toList with | 45 :: _ => true | _ => false) = false := by
   simp at b1
   have : s.data.toList = [] := List.eq_nil_of_length_eq_zero (by omega)
   rw [this]
  refine pcall_body (ow := fun _ => false) (wf := fun _ => false) Ty.mixed Try.func167 rfl Ty.hb_167 (by rw [Try.ntmps167]; simp) ?_
  rw [Try.ntmps167, Try.results167]
  repeat' (first | refine a_seq fun K hK => ?_ | ((first | refine a_regionS ?_ | refine a_ret ?_); simp only [Ty.w, simprocAttr, h1, Int.natCast_one, b1]) | (refine hK _ _ ?_; clear hK; try simp only [pst0, simprocAttr]))
  rw [this]
 | true =>
  have b1' := b1
  simp at b1'
  have q1 : (1 : Int) ≤ (s.size : Int) := by omega
  have : (match s.data.toList with | 45 :: _ => true | _ => false) = ((s.extract 0 1).data.toList == (#[45] : Array UInt8).toList) := by
   have he : (s.extract 0 1).data.toList = s.data.toList.take 1 := by simp
   rw [he]
   cases hl : s.data.toList with
   | nil => rw [hl] at hsl; simp at hsl; omega
   | cons c l =>
    simp only [List.take_succ_cons, List.take_zero]
    by_cases hc : c = 45
    ·subst hc; rfl
    ·have : ([c] == (#[45] : Array UInt8).toList) = false := by simp [hc]
     rw [this]
     split
     ·rename_i heq; simp at heq; exact absurd heq.1 hc
     ·rfl
  refine pcall_body (ow := fun _ => false) (wf := fun _ => false) Ty.mixed Try.func167 rfl Ty.hb_167 (by rw [Try.ntmps167]; simp) ?_
  rw [Try.ntmps167, Try.results167]
  repeat' (first | refine a_seq fun K hK => ?_ | ((first | refine a_regionS ?_ | refine a_ret ?_); simp only [Ty.w, simprocAttr, h1, Int.natCast_one, b1, q1, Option.getD_some, Option.getD_none, Int.le_refl, Int.toNat_one, Int.toNat_zero]) | (refine hK _ _ ?_; clear hK; try simp only [pst0, simprocAttr]))
  rw [this]
theorem trimPrefix_c {h : Heap} {s : ByteArray} : PCall Try.prog 155 [sPV s, sPV ⟨#[45]⟩] h fun r h' => r = sPV (trimB s) ∧ h' = h := by
 have hsl : s.data.toList.length = s.size := by rw [Array.length_toList]; try rfl
 have h1 : (ByteArray.mk #[45]).size = 1 := rfl
 have hy : PCall Try.prog 164 [sPV s, sPV ⟨#[45]⟩] h fun r h' => r = sPV (trimB s) ∧ h' = h := by
  cases b1 : (match s.data.toList with | 45 :: _ => true | _ => false) with
  | false =>
   have : trimB s = s := by
    unfold trimB
    split
    ·rename_i heq; rw [heq] at b1; simp at b1
    ·rfl
   refine pcall_body (ow := fun _ => false) (wf := fun _ => false) Ty.mixed Try.func164 rfl Ty.hb_164 (by rw [Try.ntmps164]; simp) ?_
   rw [Try.ntmps164, Try.results164]
   repeat' (first | refine a_seq fun K hK => ?_ | (refine a_regionS ?_; simp only [Ty.w, simprocAttr]) | (refine hK _ _ ?_; clear hK; try simp only [pst0, simprocAttr]))
   refine owp_useQ (hasPrefix_c (s := s)) (by (try simp only [Ty.w, simprocAttr, b1]); try rfl) ?_; simp only [Ty.w, simprocAttr, b1]
   repeat' (first | refine a_seq fun K hK => ?_ | ((first | refine a_regionS ?_ | refine a_ret ?_); simp only [Ty.w, simprocAttr, b1]) | (refine a_skip ?_; try simp only [pst0, simprocAttr]) | (refine a_cond _ (by (try simp only [Ty.w, simprocAttr, b1]); rfl) (fun hb => ?_) (fun hb => ?_) <;> (try simp only [hb0, decide_eq_true_eq, decide_eq_false_iff_not, simprocAttr] at hb) <;> (try (exfalso; omega))) | (refine hK _ _ ?_; clear hK; try simp only [pst0, simprocAttr]))
   rw [this]
  | true =>
   have hq : ∃ l, s.data.toList = 45 :: l := by
    split at b1
    ·rename_i l heq; exact ⟨l, heq⟩
    ·simp at b1
   obtain ⟨l, hl⟩ := hq
   have q1 : (1 : Int) ≤ (s.size : Int) := by rw [hl] at hsl; simp at hsl; omega
   have : trimB s = s.extract 1 s.size := by
    unfold trimB
    rw [hl]
    refine ba_ext ?_
    have hl2 := hsl
    rw [hl] at hl2
    simp at hl2
    simp only [ByteArray.data_extract, Array.toList_extract, List.extract_eq_take_drop, hl]
    rw [List.drop_succ_cons, List.drop_zero, List.take_of_length_le (by omega)]
   refine pcall_body (ow := fun _ => false) (wf := fun _ => false) Ty.mixed Try.func164 rfl Ty.hb_164 (by rw [Try.ntmps164]; simp) ?_
   rw [Try.ntmps164, Try.results164]
   repeat' (first | refine a_seq fun K hK => ?_ | (refine a_regionS ?_; simp only [Ty.w, simprocAttr]) | (refine hK _ _ ?_; clear hK; try simp only [pst0, simprocAttr]))
   refine owp_useQ (hasPrefix_c (s := s)) (by (try simp only [Ty.w, simprocAttr, b1]); try rfl) ?_; simp only [Ty.w, simprocAttr, b1]
   repeat' (first | refine a_seq fun K hK => ?_ | ((first | refine a_regionS ?_ | refine a_ret ?_); simp only [Ty.w, simprocAttr, b1, h1, Int.natCast_one, q1, Option.getD_some, Option.getD_none, Int.le_refl, Int.toNat_one]) | (refine hK _ _ ?_; clear hK; try simp only [pst0, simprocAttr]))
   rw [this]
 refine pcall_body (ow := fun _ => false) (wf := fun _ => false) Ty.mixed Try.func155 rfl Ty.hb_155 (by rw [Try.ntmps155]; simp) ?_
 rw [Try.ntmps155, Try.results155]
 repeat' (first | refine a_seq fun K hK => ?_ | (refine a_regionS ?_; simp only [Ty.w, simprocAttr]) | (refine hK _ _ ?_; clear hK; try simp only [pst0, simprocAttr]))
 refine owp_useQ (hy) (by (try simp only [Ty.w, simprocAttr, ]); try rfl) ?_; simp only [Ty.w, simprocAttr, ]
 repeat' (first | (refine a_ret ?_; simp only [Ty.w, simprocAttr]) | (refine hK _ _ ?_; clear hK; try simp only [pst0, simprocAttr]))
theorem numeric_c {h : Heap} {s : ByteArray} (hs : s.size ≤ bigN) : PCall Try.prog 137 [sPV s] h fun r h' => r = .sc (.bool (numB s)) ∧ h' = h := by
 have htl : (trimB s).data.toList.length = (trimB s).size := by rw [Array.length_toList]; try rfl
 have hts : (trimB s).size ≤ bigN := by
  have hsl : s.data.toList.length = s.size := by rw [Array.length_toList]; try rfl
  unfold trimB
  split
  ·rename_i l heq
   rw [heq] at hsl
   have : (ByteArray.mk l.toArray).size = l.length := by simp [ByteArray.size]
   simp at hsl
   omega
  ·exact hs
 unfold bigN at hts
 have hN : numB s = ((trimB s).data.toList.all digB && decide (0 < (trimB s).size)) := rfl
 have ht : PCall Try.prog 155 [sPV s, sPV ⟨#[45]⟩] h fun r h' => r = sPV (trimB s) ∧ h' = h := trimPrefix_c
 generalize trimB s = u at htl hts hN ht
 rw [hN]
 clear hN
 refine pcall_body (ow := fun _ => false) (wf := fun _ => false) Ty.mixed Try.func137 rfl Ty.hb_137 (by rw [Try.ntmps137]; simp) ?_
 rw [Try.ntmps137, Try.results137]
 repeat' (first | refine a_seq fun K hK => ?_ | (refine a_regionS ?_; simp only [Ty.w, simprocAttr]) | (refine hK _ _ ?_; clear hK; try simp only [pst0, simprocAttr]))
 refine owp_useQ (ht) (by (try simp only [Ty.w, simprocAttr, ]); try rfl) ?_; simp only [Ty.w, simprocAttr, ]
 repeat' (first | refine a_seq fun K hK => ?_ | (refine a_block ?_) | (refine a_regionS ?_; simp only [Ty.w, simprocAttr]) | (refine hK _ _ ?_; clear hK; try simp only [pst0, simprocAttr]))
 refine a_loop (fun m S h' => h' = h ∧ S 0 = sPV u ∧ S 7 = .sc (.int .i64 u.size) ∧ ∃ k : Nat, S 8 = .sc (.int .i64 k) ∧ k ≤ u.size ∧ m = u.size - k ∧ ∀ (i : Nat) (c : UInt8), i < k → u.data.toList[i]? = some c → digB c = true) u.size ?_ ?_
 ·simp only [Ty.w, simprocAttr]
  exact ⟨0, rfl, by omega, rfl, by omega⟩
 ·rintro m S h' ⟨rfl, g0, g7, k, g8, hk, rfl, hall⟩
  by_cases hlt : k < u.size
  ·have hd : decide ((k : Int) < (u.size : Int)) = true := by simp; omega
   have w7 : IntKind.i64.wrap ((k : Int) + 1) = k + 1 := by rw [wrap64 (by omega) (by omega)]
   obtain ⟨c, hx⟩ : ∃ c, u.data.toList[k]? = some c := ⟨_, List.getElem?_eq_getElem (by omega)⟩
   have hr : u[k]? = some c := by rw [ba_get]; exact hx
   cases hg : digB c with
   | false =>
    have : u.data.toList.all digB = false := by rw [List.all_eq_false]; exact ⟨c, List.mem_of_getElem? hx, by simp [hg]⟩
    repeat' (first | refine a_seq fun K hK => ?_ | (refine a_regionS ?_; simp only [Ty.w, simprocAttr, g0, g7, g8, hd, hr]) | (refine a_skip ?_; try simp only [pst0, simprocAttr]) | (refine a_cond _ (by (try simp only [Ty.w, simprocAttr, g0, g7, g8, hd, hr]); rfl) (fun hb => ?_) (fun hb => ?_) <;> (try simp only [hb0, decide_eq_true_eq, decide_eq_false_iff_not, simprocAttr] at hb) <;> (try (exfalso; omega))) | (refine hK _ _ ?_; clear hK; try simp only [pst0, simprocAttr]))
    refine owp_useQ (digit_c (c := c)) (by (try simp only [Ty.w, simprocAttr, g0, g7, g8, hd, hr, hg]); try rfl) ?_; simp only [Ty.w, simprocAttr, g0, g7, g8, hd, hr, hg]
    repeat' (first | refine a_seq fun K hK => ?_ | ((first | refine a_regionS ?_ | refine a_ret ?_); simp only [Ty.w, simprocAttr, hg, Bool.not_false]) | (refine hK _ _ ?_; clear hK; try simp only [pst0, simprocAttr]))
    rw [this]; try rfl
   | true =>
    repeat' (first | refine a_seq fun K hK => ?_ | (refine a_regionS ?_; simp only [Ty.w, simprocAttr, g0, g7, g8, hd, hr]) | (refine a_skip ?_; try simp only [pst0, simprocAttr]) | (refine a_cond _ (by (try simp only [Ty.w, simprocAttr, g0, g7, g8, hd, hr]); rfl) (fun hb => ?_) (fun hb => ?_) <;> (try simp only [hb0, decide_eq_true_eq, decide_eq_false_iff_not, simprocAttr] at hb) <;> (try (exfalso; omega))) | (refine hK _ _ ?_; clear hK; try simp only [pst0, simprocAttr]))
    refine owp_useQ (digit_c (c := c)) (by (try simp only [Ty.w, simprocAttr, g0, g7, g8, hd, hr, hg]); try rfl) ?_; simp only [Ty.w, simprocAttr, g0, g7, g8, hd, hr, hg]
    repeat' (first | (refine a_block ?_) | (refine a_regionS ?_; simp only [Ty.w, simprocAttr, g0, g7, g8, hg, w7, Bool.not_true]) | (refine a_skip ?_; try simp only [pst0, simprocAttr]) | (refine hK _ _ ?_; clear hK; try simp only [pst0, simprocAttr]))
    refine ⟨u.size - (k + 1), by omega, k + 1, by simp, by omega, rfl, fun i c2 hi hw => ?_⟩
    by_cases hik : i = k
    ·subst hik; rw [hx] at hw; simp at hw; rw [← hw]; exact hg
    ·exact hall i c2 (by omega) hw
  ·have hd : decide ((k : Int) < (u.size : Int)) = false := by simp; omega
   have hok : u.data.toList.all digB = true := by
    rw [List.all_eq_true]
    intro c hc
    obtain ⟨i, hi⟩ := List.getElem?_of_mem hc
    exact hall i c (by have := (List.getElem?_eq_some_iff.1 hi).1; omega) hi
   have e1 : decide (0 < u.size) = !(u.data.toList == (#[] : Array UInt8).toList) := by
    rw [← htl]
    cases u.data.toList <;> simp
   clear hall
   repeat' (first | refine a_seq fun K hK => ?_ | ((first | refine a_regionS ?_ | refine a_ret ?_); simp only [Ty.w, simprocAttr, g0, g7, g8, hd]) | (refine a_exit ?_; try simp only [pst0, simprocAttr]) | (refine a_cond _ (by (try simp only [Ty.w, simprocAttr, g0, g7, g8, hd]); rfl) (fun hb => ?_) (fun hb => ?_) <;> (try simp only [hb0, decide_eq_true_eq, decide_eq_false_iff_not, simprocAttr] at hb) <;> (try (exfalso; omega))) | ((first | refine hK _ _ ?_ | (clear hK; refine hK _ _ ?_)); clear hK; try simp only [pst0, simprocAttr]))
   rw [hok, e1]; try rfl
end Go.Proofs.Ytjlkapgpjamnkaa
namespace Go.Proofs.Ytjlkapgpjamnkaa
open Go.AM
set_option maxHeartbeats 2000000
set_option maxRecDepth 20000
theorem lowL_none {l : List UInt8} {k : Nat} {c : UInt8} (h : l[k]? = some c) (hc : lowB c = none) : lowL l = none := by
 induction l generalizing k with
 | nil => simp at h
 | cons d l ih =>
  simp only [lowL]
  cases k with
  | zero => simp at h; subst h; rw [hc]
  | succ k =>
   simp at h
   rw [ih h]
   cases lowB d <;> simp
theorem lowL_take {l p : List UInt8} {k : Nat} {c d : UInt8} (h : l[k]? = some c) (hc : lowB c = some d) (hp : lowL (l.take k) = some p) : lowL (l.take (k + 1)) = some (p ++ [d]) := by
 induction l generalizing k p with
 | nil => simp at h
 | cons e l ih =>
  cases k with
  | zero => simp at h; subst h; simp [lowL] at hp; subst hp; simp [lowL, hc]
  | succ k =>
   simp at h
   simp only [List.take_succ_cons, lowL] at hp ⊢
   cases he : lowB e with
   | none => simp [he] at hp
   | some e' =>
    rw [he] at hp
    cases hq : lowL (l.take k) with
    | none => simp [hq] at hp
    | some p' =>
     simp [hq] at hp
     subst hp
     rw [ih h hq]
     simp
theorem lowL_len {l p : List UInt8} (h : lowL l = some p) : p.length = l.length := by
 induction l generalizing p with
 | nil => simp [lowL] at h; subst h; rfl
 | cons e l ih =>
  simp only [lowL] at h
  split at h
  ·cases hq : lowL l with
   | none => simp [hq] at h
   | some p' => simp [hq] at h; subst h; simp [ih hq]
  ·simp at h
theorem bytesR_len (l : List UInt8) : (bytesR l).length = l.length := by simp [bytesR]
theorem bytesR_get {l : List UInt8} {k : Nat} {c : UInt8} (h : l[k]? = some c) : (bytesR l)[k]? = some [.sc (.int .u8 c.toNat)] := by simp [bytesR, h]
theorem bytesR_set (l : List UInt8) (k : Nat) (c : UInt8) : (bytesR l).set k [.sc (.int .u8 c.toNat)] = bytesR (l.set k c) := by simp [bytesR, List.map_set]
structure LowI (h : Heap) (l : List UInt8) (k : Nat) (h' : Heap) : Prop where
 grow : Grow h h'
 ex : ∃ p, lowL (l.take k) = some p ∧ h'.obj h.next = some (.arr 1 (bytesR (p ++ l.drop k)))
theorem LowI.keep {h h' : Heap} {l : List UInt8} {k : Nat} {c : UInt8} (i : LowI h l k h') (hc : l[k]? = some c) (hl : lowB c = some c) : LowI h l (k + 1) h' := by
 obtain ⟨p, hp, ho⟩ := i.ex
 refine ⟨i.grow, p ++ [c], lowL_take hc hl hp, ?_⟩
 rw [ho]
 obtain ⟨hk, rfl⟩ := List.getElem?_eq_some_iff.1 hc
 rw [List.drop_eq_getElem_cons hk]; simp
theorem LowI.put {h h' : Heap} {l : List UInt8} {k : Nat} {c d : UInt8} {rows : List (List PV)} (i : LowI h l k h') (hc : l[k]? = some c) (hl : lowB c = some d) (hr : h'.obj h.next = some (.arr 1 rows)) :
  LowI h l (k + 1) (h'.set h.next (.arr 1 (rows.set k [.sc (.int .u8 d.toNat)]))) := by
 obtain ⟨p, hp, ho⟩ := i.ex
 refine ⟨i.grow.set (Nat.le_refl _) _, p ++ [d], lowL_take hc hl hp, ?_⟩
 rw [ho] at hr
 simp at hr
 subst hr
 have hpl := lowL_len hp
 obtain ⟨hk, rfl⟩ := List.getElem?_eq_some_iff.1 hc
 simp only [Heap.set, if_true, bytesR_set]
 rw [List.length_take] at hpl
 rw [List.set_append_right _ _ (by omega), List.drop_eq_getElem_cons hk, show k - p.length = 0 by omega, List.set_cons_zero]; simp
theorem u8w (x : Int) (h0 : 0 ≤ x) (h1 : x < 256) : IntKind.u8.wrap x = x := by
 unfold IntKind.wrap
 simp [IntKind.signed, IntKind.bits]
 omega
theorem byte_cls5 (c : UInt8) :
  (upB c = false ∧ letB c = false ∧ decide ((c.toNat : Int) ≥ 65) = false ∧ decide ((c.toNat : Int) ≥ 97) = false) ∨
  (upB c = true ∧ decide ((c.toNat : Int) ≥ 65) = true ∧ decide ((c.toNat : Int) ≤ 90) = true) ∨
  (upB c = false ∧ letB c = false ∧ decide ((c.toNat : Int) ≥ 65) = true ∧ decide ((c.toNat : Int) ≤ 90) = false ∧ decide ((c.toNat : Int) ≥ 97) = false) ∨
  (upB c = false ∧ letB c = true ∧ decide ((c.toNat : Int) ≥ 65) = true ∧ decide ((c.toNat : Int) ≤ 90) = false ∧ decide ((c.toNat : Int) ≥ 97) = true ∧ decide ((c.toNat : Int) ≤ 122) = true) ∨
  (upB c = false ∧ letB c = false ∧ decide ((c.toNat : Int) ≥ 65) = true ∧ decide ((c.toNat : Int) ≤ 90) = false ∧ decide ((c.toNat : Int) ≥ 97) = true ∧ decide ((c.toNat : Int) ≤ 122) = false) := by
 simp only [upB, letB, Bool.and_eq_true, Bool.and_eq_false_iff, decide_eq_true_eq, decide_eq_false_iff_not]
 omega
theorem lower_c {h : Heap} {s : ByteArray} : PCall Try.prog 136 [sPV s] h fun r h' => r = .tup [sPV (lowS s).1, .sc (.bool (lowS s).2)] ∧ h' = h := by
 have hsl : s.data.toList.length = s.size := by rw [Array.length_toList]; try rfl
 refine PCall.quiet2 Ty.hb_136 ?_
 cases b1 : (s.data.toList == (#[] : Array UInt8).toList) with
 | true =>
  have : lowS s = (⟨#[]⟩, false) := by
   unfold lowS
   rw [if_neg]
   have : s.data.toList = [] := by simpa using b1
   rw [this] at hsl; simp at hsl; omega
  refine pcall_body (ow := fun _ => false) (wf := fun _ => false) Ty.mixed Try.func136 rfl Ty.hb_136 (by rw [Try.ntmps136]; simp) ?_
  rw [Try.ntmps136, Try.results136]
  repeat' (first | refine a_seq fun K hK => ?_ | ((first | refine a_regionS ?_ | refine a_ret ?_); simp only [Ty.w, simprocAttr, b1]) | (refine hK _ _ ?_; clear hK; try simp only [pst0, simprocAttr]))
  rw [this]
  exact ⟨rfl, Grow.refl _⟩
 | false =>
  have hpos : 0 < s.size := by
   rcases Nat.eq_zero_or_pos s.size with h0 | h0
   ·rw [h0] at hsl
    have := List.eq_nil_of_length_eq_zero hsl
    rw [this] at b1; simp at b1
   ·exact h0
  cases b2 : decide ((s.size : Int) > 32) with
  | true =>
   have : lowS s = (⟨#[]⟩, false) := by
    unfold lowS
    rw [if_neg]
    simp at b2; omega
   refine pcall_body (ow := fun _ => false) (wf := fun _ => false) Ty.mixed Try.func136 rfl Ty.hb_136 (by rw [Try.ntmps136]; simp) ?_
   rw [Try.ntmps136, Try.results136]
   repeat' (first | refine a_seq fun K hK => ?_ | ((first | refine a_regionS ?_ | refine a_ret ?_); simp only [Ty.w, simprocAttr, b1, b2]) | (refine hK _ _ ?_; clear hK; try simp only [pst0, simprocAttr]))
   rw [this]
   exact ⟨rfl, Grow.refl _⟩
  | false =>
   have h32 : s.size ≤ 32 := by simp at b2; omega
   have hsz : s.size ≤ 140737488355328 := by omega
   have hS : lowS s = (match lowL s.data.toList with | some l => (⟨l.toArray⟩, true) | none => (⟨#[]⟩, false)) := by unfold lowS; rw [if_pos ⟨hpos, h32⟩]; try rfl
   refine pcall_body (ow := fun t => t == 15) (wf := fun _ => false) Ty.mixed Try.func136 rfl Ty.hb_136 (by rw [Try.ntmps136]; simp) ?_
   rw [Try.ntmps136, Try.results136]
   repeat' (first | refine a_seq fun K hK => ?_ | (refine a_block ?_) | (refine a_regionS ?_; simp only [Ty.w, simprocAttr, b1, b2, hsz]) | (refine a_skip ?_; try simp only [pst0, simprocAttr]) | (refine a_cond _ (by (try simp only [Ty.w, simprocAttr, b1, b2, hsz]); rfl) (fun hb => ?_) (fun hb => ?_) <;> (try simp only [hb0, decide_eq_true_eq, decide_eq_false_iff_not, simprocAttr] at hb) <;> (try (exfalso; omega))) | (refine hK _ _ ?_; clear hK; try simp only [pst0, simprocAttr]))
   refine a_loop (fun m S h' => S 4 = .own h.next 0 s.data.toList.length ∧ S 16 = .own h.next 0 s.data.toList.length ∧ S 17 = .sc (.int .i64 s.data.toList.length) ∧ ∃ k : Nat, S 18 = .sc (.int .i64 k) ∧ k ≤ s.data.toList.length ∧ m = s.data.toList.length - k ∧ LowI h s.data.toList k h') s.data.toList.length ?_ ?_
   ·simp only [Ty.w, simprocAttr]
    refine ⟨0, rfl, by omega, rfl, (Grow.refl h).new _, [], rfl, ?_⟩
    simp [Heap.new]
   ·rintro m S h' ⟨g4, g16, g17, k, g18, hk, rfl, hI⟩
    by_cases hlt : k < s.data.toList.length
    ·have hd : decide ((k : Int) < (s.data.toList.length : Int)) = true := by simp; omega
     have w7 : IntKind.i64.wrap ((k : Int) + 1) = k + 1 := by rw [wrap64 (by omega) (by omega)]
     obtain ⟨c, hx⟩ : ∃ c, s.data.toList[k]? = some c := ⟨_, List.getElem?_eq_getElem hlt⟩
     obtain ⟨p, hp, ho⟩ := hI.ex
     have hpl := lowL_len hp
     rw [List.length_take] at hpl
     have hgr := hI.grow
     have hlen : (bytesR (p ++ s.data.toList.drop k)).length = s.data.toList.length := by rw [bytesR_len, List.length_append, List.length_drop]; omega
     have hr : (bytesR (p ++ s.data.toList.drop k))[k]? = some [.sc (.int .u8 c.toNat)] := by
      refine bytesR_get ?_
      rw [List.getElem?_append_right (by omega), List.getElem?_drop, show k + (k - p.length) = k by omega]; exact hx
     have bad : lowB c = none → PV.tup [.sc (.string ⟨#[]⟩), .sc (.bool false)] = .tup [sPV (lowS s).1, .sc (.bool (lowS s).2)] := fun e => by rw [hS, lowL_none hx e]
     generalize hrows : bytesR (p ++ s.data.toList.drop k) = rows at ho hlen hr
     have hho := ho
     rcases byte_cls5 c with ⟨hup, hlet, a1, a3⟩ | ⟨hup, a1, a2⟩ | ⟨hup, hlet, a1, a2, a3⟩ | ⟨hup, hlet, a1, a2, a3, a4⟩ | ⟨hup, hlet, a1, a2, a3, a4⟩
     ·cases hg : digB c with
      | true =>
       have hw : wB c = true := by simp [wB, hg]
       have W := And.intro g4 (And.intro g16 (And.intro g17 (And.intro g18 (And.intro hd (And.intro hho (And.intro hlen (And.intro hr (And.intro hlt (And.intro a1 (And.intro a3 hg))))))))))
       repeat' (first | refine a_seq fun K hK => ?_ | (refine a_regionS ?_; simp only [Ty.w, simprocAttr, W, Nat.zero_add]) | (refine a_skip ?_; try simp only [pst0, simprocAttr]) | (refine a_cond _ (by (try simp only [Ty.w, simprocAttr, W, Nat.zero_add]); rfl) (fun hb => ?_) (fun hb => ?_) <;> (try simp only [hb0, decide_eq_true_eq, decide_eq_false_iff_not, simprocAttr] at hb) <;> (try (exfalso; omega))) | (refine hK _ _ ?_; clear hK; try simp only [pst0, simprocAttr]))
       refine owp_useQ (digit_c (c := c)) (by (try simp only [Ty.w, simprocAttr, W, Nat.zero_add]); try rfl) ?_; simp only [Ty.w, simprocAttr, W, Nat.zero_add]
       repeat' (first | (refine a_block ?_) | (refine a_regionS ?_; simp only [Ty.w, simprocAttr, W, Nat.zero_add, w7]) | (refine a_skip ?_; try simp only [pst0, simprocAttr]) | (refine a_cond _ (by (try simp only [Ty.w, simprocAttr, W, Nat.zero_add, w7]); rfl) (fun hb => ?_) (fun hb => ?_) <;> (try simp only [hb0, decide_eq_true_eq, decide_eq_false_iff_not, simprocAttr] at hb) <;> (try (exfalso; omega))) | (refine hK _ _ ?_; clear hK; try simp only [pst0, simprocAttr]))
       exact ⟨s.data.toList.length - (k + 1), by omega, k + 1, by simp, by omega, rfl, hI.keep hx (by simp [lowB, hup, hw])⟩
      | false =>
       cases hs2 : signs.contains c with
       | true =>
        have hw : wB c = true := by simp only [wB, hs2, Bool.or_true]
        have hfi : decide (firstIdx ⟨#[45, 95, 63, 58, 60, 62, 61, 43, 42]⟩ c ≥ 0) = true := by rw [firstIdx_ge]; exact hs2
        have W := And.intro g4 (And.intro g16 (And.intro g17 (And.intro g18 (And.intro hd (And.intro hho (And.intro hlen (And.intro hr (And.intro hlt (And.intro a1 (And.intro a3 (And.intro hg hfi)))))))))))
        repeat' (first | refine a_seq fun K hK => ?_ | (refine a_regionS ?_; simp only [Ty.w, simprocAttr, W, Nat.zero_add]) | (refine a_skip ?_; try simp only [pst0, simprocAttr]) | (refine a_cond _ (by (try simp only [Ty.w, simprocAttr, W, Nat.zero_add]); rfl) (fun hb => ?_) (fun hb => ?_) <;> (try simp only [hb0, decide_eq_true_eq, decide_eq_false_iff_not, simprocAttr] at hb) <;> (try (exfalso; omega))) | (refine hK _ _ ?_; clear hK; try simp only [pst0, simprocAttr]))
        refine owp_useQ (digit_c (c := c)) (by (try simp only [Ty.w, simprocAttr, W, Nat.zero_add]); try rfl) ?_; simp only [Ty.w, simprocAttr, W, Nat.zero_add]
        repeat' (first | (refine a_regionS ?_; simp only [Ty.w, simprocAttr, W, Nat.zero_add]) | (refine a_cond _ (by (try simp only [Ty.w, simprocAttr, W, Nat.zero_add]); rfl) (fun hb => ?_) (fun hb => ?_) <;> (try simp only [hb0, decide_eq_true_eq, decide_eq_false_iff_not, simprocAttr] at hb) <;> (try (exfalso; omega))) | (refine hK _ _ ?_; clear hK; try simp only [pst0, simprocAttr]))
        refine owp_useQ (indexByte_c (s := ⟨#[45, 95, 63, 58, 60, 62, 61, 43, 42]⟩) (c := c)) (by (try simp only [Ty.w, simprocAttr, W, Nat.zero_add]); try rfl) ?_; simp only [Ty.w, simprocAttr, W, Nat.zero_add]
        repeat' (first | (refine a_block ?_) | (refine a_regionS ?_; simp only [Ty.w, simprocAttr, W, Nat.zero_add, w7]) | (refine a_skip ?_; try simp only [pst0, simprocAttr]) | (refine hK _ _ ?_; clear hK; try simp only [pst0, simprocAttr]))
        exact ⟨s.data.toList.length - (k + 1), by omega, k + 1, by simp, by omega, rfl, hI.keep hx (by simp [lowB, hup, hw])⟩
       | false =>
        have hw : wB c = false := by simp only [wB, hs2, hg, hlet, Bool.or_false]
        have hfi : decide (firstIdx ⟨#[45, 95, 63, 58, 60, 62, 61, 43, 42]⟩ c ≥ 0) = false := by rw [firstIdx_ge]; exact hs2
        have W := And.intro g4 (And.intro g16 (And.intro g17 (And.intro g18 (And.intro hd (And.intro hho (And.intro hlen (And.intro hr (And.intro hlt (And.intro a1 (And.intro a3 (And.intro hg hfi)))))))))))
        repeat' (first | refine a_seq fun K hK => ?_ | (refine a_regionS ?_; simp only [Ty.w, simprocAttr, W, Nat.zero_add]) | (refine a_skip ?_; try simp only [pst0, simprocAttr]) | (refine a_cond _ (by (try simp only [Ty.w, simprocAttr, W, Nat.zero_add]); rfl) (fun hb => ?_) (fun hb => ?_) <;> (try simp only [hb0, decide_eq_true_eq, decide_eq_false_iff_not, simprocAttr] at hb) <;> (try (exfalso; omega))) | (refine hK _ _ ?_; clear hK; try simp only [pst0, simprocAttr]))
        refine owp_useQ (digit_c (c := c)) (by (try simp only [Ty.w, simprocAttr, W, Nat.zero_add]); try rfl) ?_; simp only [Ty.w, simprocAttr, W, Nat.zero_add]
        repeat' (first | (refine a_regionS ?_; simp only [Ty.w, simprocAttr, W, Nat.zero_add]) | (refine a_cond _ (by (try simp only [Ty.w, simprocAttr, W, Nat.zero_add]); rfl) (fun hb => ?_) (fun hb => ?_) <;> (try simp only [hb0, decide_eq_true_eq, decide_eq_false_iff_not, simprocAttr] at hb) <;> (try (exfalso; omega))) | (refine hK _ _ ?_; clear hK; try simp only [pst0, simprocAttr]))
        refine owp_useQ (indexByte_c (s := ⟨#[45, 95, 63, 58, 60, 62, 61, 43, 42]⟩) (c := c)) (by (try simp only [Ty.w, simprocAttr, W, Nat.zero_add]); try rfl) ?_; simp only [Ty.w, simprocAttr, W, Nat.zero_add]
        repeat' (first | refine a_seq fun K hK => ?_ | ((first | refine a_regionS ?_ | refine a_ret ?_); simp only [Ty.w, simprocAttr, W, Nat.zero_add]) | (refine hK _ _ ?_; clear hK; try simp only [pst0, simprocAttr]))
        exact ⟨bad (by simp [lowB, hup, hw]), hgr⟩
     ·have hu : 65 ≤ c.toNat ∧ c.toNat ≤ 90 := by simpa [upB] using hup
      have hadd : (c + 32).toNat = c.toNat + 32 := by rw [UInt8.toNat_add]; simp; omega
      have w1 : IntKind.u8.wrap ((c.toNat : Int) + 97) = (c.toNat : Int) + 97 := u8w _ (by omega) (by omega)
      have w2 : IntKind.u8.wrap ((c.toNat : Int) + 97 - 65) = ((c + 32).toNat : Int) := by rw [u8w _ (by omega) (by omega), hadd]; omega
      repeat' (first | refine a_seq fun K hK => ?_ | (refine a_block ?_) | ((first | refine a_regionS ?_ | refine a_region (fun K hK => ?_)); simp only [Ty.w, simprocAttr, g4, g16, g17, g18, hd, hho, hlen, hr, hlt, a1, a2, w1, w2, w7, Nat.zero_add]) | (refine a_skip ?_; try simp only [pst0, simprocAttr]) | (refine a_cond _ (by (try simp only [Ty.w, simprocAttr, g4, g16, g17, g18, hd, hho, hlen, hr, hlt, a1, a2, w1, w2, w7, Nat.zero_add]); rfl) (fun hb => ?_) (fun hb => ?_) <;> (try simp only [hb0, decide_eq_true_eq, decide_eq_false_iff_not, simprocAttr] at hb) <;> (try (exfalso; omega))) | (refine hK _ _ ?_; clear hK; try simp only [pst0, simprocAttr]))
      exact ⟨s.data.toList.length - (k + 1), by omega, k + 1, by simp, by omega, rfl, hI.put hx (by simp [lowB, hup]) ho⟩
     ·cases hg : digB c with
      | true =>
       have hw : wB c = true := by simp [wB, hg]
       have W := And.intro g4 (And.intro g16 (And.intro g17 (And.intro g18 (And.intro hd (And.intro hho (And.intro hlen (And.intro hr (And.intro hlt (And.intro a1 (And.intro a2 (And.intro a3 hg)))))))))))
       repeat' (first | refine a_seq fun K hK => ?_ | (refine a_regionS ?_; simp only [Ty.w, simprocAttr, W, Nat.zero_add]) | (refine a_skip ?_; try simp only [pst0, simprocAttr]) | (refine a_cond _ (by (try simp only [Ty.w, simprocAttr, W, Nat.zero_add]); rfl) (fun hb => ?_) (fun hb => ?_) <;> (try simp only [hb0, decide_eq_true_eq, decide_eq_false_iff_not, simprocAttr] at hb) <;> (try (exfalso; omega))) | (refine hK _ _ ?_; clear hK; try simp only [pst0, simprocAttr]))
       refine owp_useQ (digit_c (c := c)) (by (try simp only [Ty.w, simprocAttr, W, Nat.zero_add]); try rfl) ?_; simp only [Ty.w, simprocAttr, W, Nat.zero_add]
       repeat' (first | (refine a_block ?_) | (refine a_regionS ?_; simp only [Ty.w, simprocAttr, W, Nat.zero_add, w7]) | (refine a_skip ?_; try simp only [pst0, simprocAttr]) | (refine a_cond _ (by (try simp only [Ty.w, simprocAttr, W, Nat.zero_add, w7]); rfl) (fun hb => ?_) (fun hb => ?_) <;> (try simp only [hb0, decide_eq_true_eq, decide_eq_false_iff_not, simprocAttr] at hb) <;> (try (exfalso; omega))) | (refine hK _ _ ?_; clear hK; try simp only [pst0, simprocAttr]))
       exact ⟨s.data.toList.length - (k + 1), by omega, k + 1, by simp, by omega, rfl, hI.keep hx (by simp [lowB, hup, hw])⟩
      | false =>
       cases hs2 : signs.contains c with
       | true =>
        have hw : wB c = true := by simp only [wB, hs2, Bool.or_true]
        have hfi : decide (firstIdx ⟨#[45, 95, 63, 58, 60, 62, 61, 43, 42]⟩ c ≥ 0) = true := by rw [firstIdx_ge]; exact hs2
        have W := And.intro g4 (And.intro g16 (And.intro g17 (And.intro g18 (And.intro hd (And.intro hho (And.intro hlen (And.intro hr (And.intro hlt (And.intro a1 (And.intro a2 (And.intro a3 (And.intro hg hfi))))))))))))
        repeat' (first | refine a_seq fun K hK => ?_ | (refine a_regionS ?_; simp only [Ty.w, simprocAttr, W, Nat.zero_add]) | (refine a_skip ?_; try simp only [pst0, simprocAttr]) | (refine a_cond _ (by (try simp only [Ty.w, simprocAttr, W, Nat.zero_add]); rfl) (fun hb => ?_) (fun hb => ?_) <;> (try simp only [hb0, decide_eq_true_eq, decide_eq_false_iff_not, simprocAttr] at hb) <;> (try (exfalso; omega))) | (refine hK _ _ ?_; clear hK; try simp only [pst0, simprocAttr]))
        refine owp_useQ (digit_c (c := c)) (by (try simp only [Ty.w, simprocAttr, W, Nat.zero_add]); try rfl) ?_; simp only [Ty.w, simprocAttr, W, Nat.zero_add]
        repeat' (first | (refine a_regionS ?_; simp only [Ty.w, simprocAttr, W, Nat.zero_add]) | (refine a_cond _ (by (try simp only [Ty.w, simprocAttr, W, Nat.zero_add]); rfl) (fun hb => ?_) (fun hb => ?_) <;> (try simp only [hb0, decide_eq_true_eq, decide_eq_false_iff_not, simprocAttr] at hb) <;> (try (exfalso; omega))) | (refine hK _ _ ?_; clear hK; try simp only [pst0, simprocAttr]))
        refine owp_useQ (indexByte_c (s := ⟨#[45, 95, 63, 58, 60, 62, 61, 43, 42]⟩) (c := c)) (by (try simp only [Ty.w, simprocAttr, W, Nat.zero_add]); try rfl) ?_; simp only [Ty.w, simprocAttr, W, Nat.zero_add]
        repeat' (first | (refine a_block ?_) | (refine a_regionS ?_; simp only [Ty.w, simprocAttr, W, Nat.zero_add, w7]) | (refine a_skip ?_; try simp only [pst0, simprocAttr]) | (refine hK _ _ ?_; clear hK; try simp only [pst0, simprocAttr]))
        exact ⟨s.data.toList.length - (k + 1), by omega, k + 1, by simp, by omega, rfl, hI.keep hx (by simp [lowB, hup, hw])⟩
       | false =>
        have hw : wB c = false := by simp only [wB, hs2, hg, hlet, Bool.or_false]
        have hfi : decide (firstIdx ⟨#[45, 95, 63, 58, 60, 62, 61, 43, 42]⟩ c ≥ 0) = false := by rw [firstIdx_ge]; exact hs2
        have W := And.intro g4 (And.intro g16 (And.intro g17 (And.intro g18 (And.intro hd (And.intro hho (And.intro hlen (And.intro hr (And.intro hlt (And.intro a1 (And.intro a2 (And.intro a3 (And.intro hg hfi))))))))))))
        repeat' (first | refine a_seq fun K hK => ?_ | (refine a_regionS ?_; simp only [Ty.w, simprocAttr, W, Nat.zero_add]) | (refine a_skip ?_; try simp only [pst0, simprocAttr]) | (refine a_cond _ (by (try simp only [Ty.w, simprocAttr, W, Nat.zero_add]); rfl) (fun hb => ?_) (fun hb => ?_) <;> (try simp only [hb0, decide_eq_true_eq, decide_eq_false_iff_not, simprocAttr] at hb) <;> (try (exfalso; omega))) | (refine hK _ _ ?_; clear hK; try simp only [pst0, simprocAttr]))
        refine owp_useQ (digit_c (c := c)) (by (try simp only [Ty.w, simprocAttr, W, Nat.zero_add]); try rfl) ?_; simp only [Ty.w, simprocAttr, W, Nat.zero_add]
        repeat' (first | (refine a_regionS ?_; simp only [Ty.w, simprocAttr, W, Nat.zero_add]) | (refine a_cond _ (by (try simp only [Ty.w, simprocAttr, W, Nat.zero_add]); rfl) (fun hb => ?_) (fun hb => ?_) <;> (try simp only [hb0, decide_eq_true_eq, decide_eq_false_iff_not, simprocAttr] at hb) <;> (try (exfalso; omega))) | (refine hK _ _ ?_; clear hK; try simp only [pst0, simprocAttr]))
        refine owp_useQ (indexByte_c (s := ⟨#[45, 95, 63, 58, 60, 62, 61, 43, 42]⟩) (c := c)) (by (try simp only [Ty.w, simprocAttr, W, Nat.zero_add]); try rfl) ?_; simp only [Ty.w, simprocAttr, W, Nat.zero_add]
        repeat' (first | refine a_seq fun K hK => ?_ | ((first | refine a_regionS ?_ | refine a_ret ?_); simp only [Ty.w, simprocAttr, W, Nat.zero_add]) | (refine hK _ _ ?_; clear hK; try simp only [pst0, simprocAttr]))
        exact ⟨bad (by simp [lowB, hup, hw]), hgr⟩
     ·repeat' (first | refine a_seq fun K hK => ?_ | (refine a_block ?_) | (refine a_regionS ?_; simp only [Ty.w, simprocAttr, g4, g16, g17, g18, hd, hho, hlen, hr, hlt, a1, a2, a3, a4, w7, Nat.zero_add]) | (refine a_skip ?_; try simp only [pst0, simprocAttr]) | (refine a_cond _ (by (try simp only [Ty.w, simprocAttr, g4, g16, g17, g18, hd, hho, hlen, hr, hlt, a1, a2, a3, a4, w7, Nat.zero_add]); rfl) (fun hb => ?_) (fun hb => ?_) <;> (try simp only [hb0, decide_eq_true_eq, decide_eq_false_iff_not, simprocAttr] at hb) <;> (try (exfalso; omega))) | (refine hK _ _ ?_; clear hK; try simp only [pst0, simprocAttr]))
      exact ⟨s.data.toList.length - (k + 1), by omega, k + 1, by simp, by omega, rfl, hI.keep hx (by simp [lowB, hup, wB, hlet])⟩
     ·cases hg : digB c with
      | true =>
       have hw : wB c = true := by simp [wB, hg]
       have W := And.intro g4 (And.intro g16 (And.intro g17 (And.intro g18 (And.intro hd (And.intro hho (And.intro hlen (And.intro hr (And.intro hlt (And.intro a1 (And.intro a2 (And.intro a3 (And.intro a4 hg))))))))))))
       repeat' (first | refine a_seq fun K hK => ?_ | (refine a_regionS ?_; simp only [Ty.w, simprocAttr, W, Nat.zero_add]) | (refine a_skip ?_; try simp only [pst0, simprocAttr]) | (refine a_cond _ (by (try simp only [Ty.w, simprocAttr, W, Nat.zero_add]); rfl) (fun hb => ?_) (fun hb => ?_) <;> (try simp only [hb0, decide_eq_true_eq, decide_eq_false_iff_not, simprocAttr] at hb) <;> (try (exfalso; omega))) | (refine hK _ _ ?_; clear hK; try simp only [pst0, simprocAttr]))
       refine owp_useQ (digit_c (c := c)) (by (try simp only [Ty.w, simprocAttr, W, Nat.zero_add]); try rfl) ?_; simp only [Ty.w, simprocAttr, W, Nat.zero_add]
       repeat' (first | (refine a_block ?_) | (refine a_regionS ?_; simp only [Ty.w, simprocAttr, W, Nat.zero_add, w7]) | (refine a_skip ?_; try simp only [pst0, simprocAttr]) | (refine a_cond _ (by (try simp only [Ty.w, simprocAttr, W, Nat.zero_add, w7]); rfl) (fun hb => ?_) (fun hb => ?_) <;> (try simp only [hb0, decide_eq_true_eq, decide_eq_false_iff_not, simprocAttr] at hb) <;> (try (exfalso; omega))) | (refine hK _ _ ?_; clear hK; try simp only [pst0, simprocAttr]))
       exact ⟨s.data.toList.length - (k + 1), by omega, k + 1, by simp, by omega, rfl, hI.keep hx (by simp [lowB, hup, hw])⟩
      | false =>
       cases hs2 : signs.contains c with
       | true =>
        have hw : wB c = true := by simp only [wB, hs2, Bool.or_true]
        have hfi : decide (firstIdx ⟨#[45, 95, 63, 58, 60, 62, 61, 43, 42]⟩ c ≥ 0) = true := by rw [firstIdx_ge]; exact hs2
        have W := And.intro g4 (And.intro g16 (And.intro g17 (And.intro g18 (And.intro hd (And.intro hho (And.intro hlen (And.intro hr (And.intro hlt (And.intro a1 (And.intro a2 (And.intro a3 (And.intro a4 (And.intro hg hfi)))))))))))))
        repeat' (first | refine a_seq fun K hK => ?_ | (refine a_regionS ?_; simp only [Ty.w, simprocAttr, W, Nat.zero_add]) | (refine a_skip ?_; try simp only [pst0, simprocAttr]) | (refine a_cond _ (by (try simp only [Ty.w, simprocAttr, W, Nat.zero_add]); rfl) (fun hb => ?_) (fun hb => ?_) <;> (try simp only [hb0, decide_eq_true_eq, decide_eq_false_iff_not, simprocAttr] at hb) <;> (try (exfalso; omega))) | (refine hK _ _ ?_; clear hK; try simp only [pst0, simprocAttr]))
        refine owp_useQ (digit_c (c := c)) (by (try simp only [Ty.w, simprocAttr, W, Nat.zero_add]); try rfl) ?_; simp only [Ty.w, simprocAttr, W, Nat.zero_add]
        repeat' (first | (refine a_regionS ?_; simp only [Ty.w, simprocAttr, W, Nat.zero_add]) | (refine a_cond _ (by (try simp only [Ty.w, simprocAttr, W, Nat.zero_add]); rfl) (fun hb => ?_) (fun hb => ?_) <;> (try simp only [hb0, decide_eq_true_eq, decide_eq_false_iff_not, simprocAttr] at hb) <;> (try (exfalso; omega))) | (refine hK _ _ ?_; clear hK; try simp only [pst0, simprocAttr]))
        refine owp_useQ (indexByte_c (s := ⟨#[45, 95, 63, 58, 60, 62, 61, 43, 42]⟩) (c := c)) (by (try simp only [Ty.w, simprocAttr, W, Nat.zero_add]); try rfl) ?_; simp only [Ty.w, simprocAttr, W, Nat.zero_add]
        repeat' (first | (refine a_block ?_) | (refine a_regionS ?_; simp only [Ty.w, simprocAttr, W, Nat.zero_add, w7]) | (refine a_skip ?_; try simp only [pst0, simprocAttr]) | (refine hK _ _ ?_; clear hK; try simp only [pst0, simprocAttr]))
        exact ⟨s.data.toList.length - (k + 1), by omega, k + 1, by simp, by omega, rfl, hI.keep hx (by simp [lowB, hup, hw])⟩
       | false =>
        have hw : wB c = false := by simp only [wB, hs2, hg, hlet, Bool.or_false]
        have hfi : decide (firstIdx ⟨#[45, 95, 63, 58, 60, 62, 61, 43, 42]⟩ c ≥ 0) = false := by rw [firstIdx_ge]; exact hs2
        have W := And.intro g4 (And.intro g16 (And.intro g17 (And.intro g18 (And.intro hd (And.intro hho (And.intro hlen (And.intro hr (And.intro hlt (And.intro a1 (And.intro a2 (And.intro a3 (And.intro a4 (And.intro hg hfi)))))))))))))
        repeat' (first | refine a_seq fun K hK => ?_ | (refine a_regionS ?_; simp only [Ty.w, simprocAttr, W, Nat.zero_add]) | (refine a_skip ?_; try simp only [pst0, simprocAttr]) | (refine a_cond _ (by (try simp only [Ty.w, simprocAttr, W, Nat.zero_add]); rfl) (fun hb => ?_) (fun hb => ?_) <;> (try simp only [hb0, decide_eq_true_eq, decide_eq_false_iff_not, simprocAttr] at hb) <;> (try (exfalso; omega))) | (refine hK _ _ ?_; clear hK; try simp only [pst0, simprocAttr]))
        refine owp_useQ (digit_c (c := c)) (by (try simp only [Ty.w, simprocAttr, W, Nat.zero_add]); try rfl) ?_; simp only [Ty.w, simprocAttr, W, Nat.zero_add]
        repeat' (first | (refine a_regionS ?_; simp only [Ty.w, simprocAttr, W, Nat.zero_add]) | (refine a_cond _ (by (try simp only [Ty.w, simprocAttr, W, Nat.zero_add]); rfl) (fun hb => ?_) (fun hb => ?_) <;> (try simp only [hb0, decide_eq_true_eq, decide_eq_false_iff_not, simprocAttr] at hb) <;> (try (exfalso; omega))) | (refine hK _ _ ?_; clear hK; try simp only [pst0, simprocAttr]))
        refine owp_useQ (indexByte_c (s := ⟨#[45, 95, 63, 58, 60, 62, 61, 43, 42]⟩) (c := c)) (by (try simp only [Ty.w, simprocAttr, W, Nat.zero_add]); try rfl) ?_; simp only [Ty.w, simprocAttr, W, Nat.zero_add]
        repeat' (first | refine a_seq fun K hK => ?_ | ((first | refine a_regionS ?_ | refine a_ret ?_); simp only [Ty.w, simprocAttr, W, Nat.zero_add]) | (refine hK _ _ ?_; clear hK; try simp only [pst0, simprocAttr]))
        exact ⟨bad (by simp [lowB, hup, hw]), hgr⟩
    ·have hd : decide ((k : Int) < (s.data.toList.length : Int)) = false := by simp; omega
     have hke : k = s.data.toList.length := by omega
     subst hke
     obtain ⟨p, hp, ho⟩ := hI.ex
     rw [List.take_length] at hp
     rw [List.drop_length, List.append_nil] at ho
     have hpl := lowL_len hp
     have hlen : (bytesR p).length = s.data.toList.length := by rw [bytesR_len]; exact hpl
     have htk : List.take s.data.toList.length (bytesR p) = bytesR p := by rw [List.take_of_length_le (by omega)]
     have hbr := byteRow_bytesR p
     repeat' (first | refine a_seq fun K hK => ?_ | ((first | refine a_regionS ?_ | refine a_ret ?_); simp only [Ty.w, simprocAttr, g4, g16, g17, g18, hd, ho, hlen, htk, hbr, Nat.zero_add]) | (refine a_exit ?_; try simp only [pst0, simprocAttr]) | (refine a_cond _ (by (try simp only [Ty.w, simprocAttr, g4, g16, g17, g18, hd, ho, hlen, htk, hbr, Nat.zero_add]); rfl) (fun hb => ?_) (fun hb => ?_) <;> (try simp only [hb0, decide_eq_true_eq, decide_eq_false_iff_not, simprocAttr] at hb) <;> (try (exfalso; omega))) | ((first | refine hK _ _ ?_ | (clear hK; refine hK _ _ ?_)); clear hK; try simp only [pst0, simprocAttr]) | (rw [if_pos]; rotate_left 1; omega; simp only [Ty.w, simprocAttr, g4, g16, g17, g18, hd, ho, hlen, htk, hbr, Nat.zero_add]))
     rw [hS, hp]
     exact ⟨rfl, hI.grow⟩
end Go.Proofs.Ytjlkapgpjamnkaa
namespace Go.Proofs.Ytjlkapgpjamnkaa
open Go.AM
set_option maxHeartbeats 2000000
set_option maxRecDepth 20000
theorem dig_cls (c : UInt8) : (digB c = true ∧ decide ((c.toNat : Int) < 48) = false ∧ decide ((c.toNat : Int) > 57) = false) ∨ (digB c = false ∧ decide ((c.toNat : Int) < 48) = true) ∨ (digB c = false ∧ decide ((c.toNat : Int) < 48) = false ∧ decide ((c.toNat : Int) > 57) = true) := by
 simp only [digB, Bool.and_eq_true, Bool.and_eq_false_iff, decide_eq_true_eq, decide_eq_false_iff_not]
 omega
theorem rdigits_c {h : Heap} {s : ByteArray} (hs : s.size ≤ bigN) : PCall Try.prog 162 [sPV s] h fun r h' => r = .sc (.bool (s.data.toList.all digB && decide (0 < s.size))) ∧ h' = h := by
 unfold bigN at hs
 have htl : s.data.toList.length = s.size := by rw [Array.length_toList]; try rfl
 refine pcall_body (ow := fun _ => false) (wf := fun _ => false) Ty.mixed Try.func162 rfl Ty.hb_162 (by rw [Try.ntmps162]; simp) ?_
 rw [Try.ntmps162, Try.results162]
 repeat' (first | refine a_seq fun K hK => ?_ | (refine a_block ?_) | (refine a_regionS ?_; simp only [Ty.w, simprocAttr]) | (refine hK _ _ ?_; clear hK; try simp only [pst0, simprocAttr]))
 refine a_loop (fun m S h' => h' = h ∧ S 0 = sPV s ∧ ∃ k : Nat, S 3 = .sc (.int .i64 k) ∧ k ≤ s.size ∧ m = s.size - k ∧ ∀ (i : Nat) (c : UInt8), i < k → s.data.toList[i]? = some c → digB c = true) s.size ?_ ?_
 ·simp only [Ty.w, simprocAttr]
  exact ⟨0, rfl, by omega, rfl, by omega⟩
 ·rintro m S h' ⟨rfl, g0, k, g3, hk, rfl, hall⟩
  by_cases hlt : k < s.size
  ·have hd : decide ((k : Int) < (s.size : Int)) = true := by simp; omega
   have w7 : IntKind.i64.wrap ((k : Int) + 1) = k + 1 := by rw [wrap64 (by omega) (by omega)]
   obtain ⟨c, hx⟩ : ∃ c, s.data.toList[k]? = some c := ⟨_, List.getElem?_eq_getElem (by omega)⟩
   have hr : s[k]? = some c := by rw [ba_get]; exact hx
   have bad : digB c = false → s.data.toList.all digB = false := fun hg => by rw [List.all_eq_false]; exact ⟨c, List.mem_of_getElem? hx, by simp [hg]⟩
   rcases dig_cls c with ⟨hg, c1, c2⟩ | ⟨hg, c1⟩ | ⟨hg, c1, c2⟩
   ·repeat' (first | refine a_seq fun K hK => ?_ | (refine a_block ?_) | (refine a_regionS ?_; simp only [Ty.w, simprocAttr, g0, g3, hd, hr, c1, c2, w7]) | (refine a_skip ?_; try simp only [pst0, simprocAttr]) | (refine a_cond _ (by (try simp only [Ty.w, simprocAttr, g0, g3, hd, hr, c1, c2, w7]); rfl) (fun hb => ?_) (fun hb => ?_) <;> (try simp only [hb0, decide_eq_true_eq, decide_eq_false_iff_not, simprocAttr] at hb) <;> (try (exfalso; omega))) | (refine hK _ _ ?_; clear hK; try simp only [pst0, simprocAttr]))
    refine ⟨s.size - (k + 1), by omega, k + 1, by simp, by omega, rfl, fun i c2 hi hw => ?_⟩
    by_cases hik : i = k
    ·subst hik; rw [hx] at hw; simp at hw; rw [← hw]; exact hg
    ·exact hall i c2 (by omega) hw
   ·repeat' (first | refine a_seq fun K hK => ?_ | ((first | refine a_regionS ?_ | refine a_ret ?_); simp only [Ty.w, simprocAttr, g0, g3, hd, hr, c1]) | (refine a_skip ?_; try simp only [pst0, simprocAttr]) | (refine a_cond _ (by (try simp only [Ty.w, simprocAttr, g0, g3, hd, hr, c1]); rfl) (fun hb => ?_) (fun hb => ?_) <;> (try simp only [hb0, decide_eq_true_eq, decide_eq_false_iff_not, simprocAttr] at hb) <;> (try (exfalso; omega))) | (refine hK _ _ ?_; clear hK; try simp only [pst0, simprocAttr]))
    rw [bad hg]; try rfl
   ·repeat' (first | refine a_seq fun K hK => ?_ | ((first | refine a_regionS ?_ | refine a_ret ?_); simp only [Ty.w, simprocAttr, g0, g3, hd, hr, c1, c2]) | (refine a_skip ?_; try simp only [pst0, simprocAttr]) | (refine a_cond _ (by (try simp only [Ty.w, simprocAttr, g0, g3, hd, hr, c1, c2]); rfl) (fun hb => ?_) (fun hb => ?_) <;> (try simp only [hb0, decide_eq_true_eq, decide_eq_false_iff_not, simprocAttr] at hb) <;> (try (exfalso; omega))) | (refine hK _ _ ?_; clear hK; try simp only [pst0, simprocAttr]))
    rw [bad hg]; try rfl
  ·have hd : decide ((k : Int) < (s.size : Int)) = false := by simp; omega
   have hok : s.data.toList.all digB = true := by
    rw [List.all_eq_true]
    intro c hc
    obtain ⟨i, hi⟩ := List.getElem?_of_mem hc
    exact hall i c (by have := (List.getElem?_eq_some_iff.1 hi).1; omega) hi
   have e1 : decide ((s.size : Int) > 0) = decide (0 < s.size) := decide_eq_decide.2 (by omega)
   clear hall
   repeat' (first | refine a_seq fun K hK => ?_ | ((first | refine a_regionS ?_ | refine a_ret ?_); simp only [Ty.w, simprocAttr, g0, g3, hd]) | (refine a_exit ?_; try simp only [pst0, simprocAttr]) | (refine a_cond _ (by (try simp only [Ty.w, simprocAttr, g0, g3, hd]); rfl) (fun hb => ?_) (fun hb => ?_) <;> (try simp only [hb0, decide_eq_true_eq, decide_eq_false_iff_not, simprocAttr] at hb) <;> (try (exfalso; omega))) | ((first | refine hK _ _ ?_ | (clear hK; refine hK _ _ ?_)); clear hK; try simp only [pst0, simprocAttr]))
   rw [hok, e1]; try rfl
theorem rnumeric_c {h : Heap} {s : ByteArray} (hs : s.size ≤ bigN) : PCall Try.prog 152 [sPV s] h fun r h' => r = .sc (.bool (numB s)) ∧ h' = h := by
 have htl : s.data.toList.length = s.size := by rw [Array.length_toList]; try rfl
 cases b1 : decide ((s.size : Int) > 0) with
 | false =>
  have ht : trimB s = s := by
   have : s.data.toList = [] := List.eq_nil_of_length_eq_zero (by have := of_decide_eq_false b1; omega)
   unfold trimB; rw [this]
  have hd := rdigits_c (h := h) hs
  refine pcall_body (ow := fun _ => false) (wf := fun _ => false) Ty.mixed Try.func152 rfl Ty.hb_152 (by rw [Try.ntmps152]; simp) ?_
  rw [Try.ntmps152, Try.results152]
  repeat' (first | refine a_seq fun K hK => ?_ | (refine a_regionS ?_; simp only [Ty.w, simprocAttr, b1]) | (refine a_skip ?_; try simp only [pst0, simprocAttr]) | (refine a_cond _ (by (try simp only [Ty.w, simprocAttr, b1]); rfl) (fun hb => ?_) (fun hb => ?_) <;> (try simp only [hb0, decide_eq_true_eq, decide_eq_false_iff_not, simprocAttr] at hb) <;> (try (exfalso; omega))) | (refine hK _ _ ?_; clear hK; try simp only [pst0, simprocAttr]))
  refine owp_useQ (hd) (by (try simp only [Ty.w, simprocAttr, b1]); try rfl) ?_; simp only [Ty.w, simprocAttr, b1]
  repeat' (first | (refine a_ret ?_; simp only [Ty.w, simprocAttr]) | (refine hK _ _ ?_; clear hK; try simp only [pst0, simprocAttr]))
  rw [show numB s = ((trimB s).data.toList.all digB && decide (0 < (trimB s).size)) from rfl, ht]
 | true =>
  have hpos : 0 < s.size := by simp at b1; omega
  obtain ⟨c, hx⟩ : ∃ c, s.data.toList[0]? = some c := ⟨_, List.getElem?_eq_getElem (by omega)⟩
  have hr : s[0]? = some c := by rw [ba_get]; exact hx
  cases b2 : ((c.toNat : Int) == 45) with
  | false =>
   have ht : trimB s = s := by
    unfold trimB
    split
    ·rename_i l heq
     rw [heq] at hx
     simp at hx
     subst hx
     simp at b2
    ·rfl
   have hd := rdigits_c (h := h) hs
   refine pcall_body (ow := fun _ => false) (wf := fun _ => false) Ty.mixed Try.func152 rfl Ty.hb_152 (by rw [Try.ntmps152]; simp) ?_
   rw [Try.ntmps152, Try.results152]
   repeat' (first | refine a_seq fun K hK => ?_ | (refine a_regionS ?_; simp only [Ty.w, simprocAttr, b1, hr, b2]) | (refine a_skip ?_; try simp only [pst0, simprocAttr]) | (refine a_cond _ (by (try simp only [Ty.w, simprocAttr, b1, hr, b2]); rfl) (fun hb => ?_) (fun hb => ?_) <;> (try simp only [hb0, decide_eq_true_eq, decide_eq_false_iff_not, simprocAttr] at hb) <;> (try (exfalso; omega))) | (refine hK _ _ ?_; clear hK; try simp only [pst0, simprocAttr]))
   refine owp_useQ (hd) (by (try simp only [Ty.w, simprocAttr, b1, b2]); try rfl) ?_; simp only [Ty.w, simprocAttr, b1, b2]
   repeat' (first | (refine a_ret ?_; simp only [Ty.w, simprocAttr]) | (refine hK _ _ ?_; clear hK; try simp only [pst0, simprocAttr]))
   rw [show numB s = ((trimB s).data.toList.all digB && decide (0 < (trimB s).size)) from rfl, ht]
  | true =>
   have hc : c = 45 := by
    have : c.toNat = 45 := by simp at b2; omega
    exact UInt8.toNat_inj.1 this
   have q1 : (1 : Int) ≤ (s.size : Int) := by omega
   have ht : trimB s = s.extract 1 s.size := by
    cases hl : s.data.toList with
    | nil => rw [hl] at hx; simp at hx
    | cons d l =>
     rw [hl] at hx
     simp at hx
     subst hx
     subst hc
     unfold trimB
     rw [hl]
     refine ba_ext ?_
     have hl2 := htl
     rw [hl] at hl2
     simp at hl2
     simp only [ByteArray.data_extract, Array.toList_extract, List.extract_eq_take_drop, hl]
     rw [List.drop_succ_cons, List.drop_zero, List.take_of_length_le (by omega)]
   have hsz : (s.extract 1 s.size).size ≤ bigN := by simp only [ByteArray.size_extract]; omega
   have hd := rdigits_c (h := h) hsz
   refine pcall_body (ow := fun _ => false) (wf := fun _ => false) Ty.mixed Try.func152 rfl Ty.hb_152 (by rw [Try.ntmps152]; simp) ?_
   rw [Try.ntmps152, Try.results152]
   repeat' (first | refine a_seq fun K hK => ?_ | (refine a_regionS ?_; simp only [Ty.w, simprocAttr, b1, hr, b2, q1, Option.getD_some, Option.getD_none, Int.le_refl, Int.toNat_one]) | (refine hK _ _ ?_; clear hK; try simp only [pst0, simprocAttr]))
   refine owp_useQ (hd) (by (try simp only [Ty.w, simprocAttr, b1, b2, q1, Option.getD_some, Option.getD_none, Int.le_refl, Int.toNat_one]); try rfl) ?_; simp only [Ty.w, simprocAttr, b1, b2, q1, Option.getD_some, Option.getD_none, Int.le_refl, Int.toNat_one]
   repeat' (first | (refine a_ret ?_; simp only [Ty.w, simprocAttr]) | (refine hK _ _ ?_; clear hK; try simp only [pst0, simprocAttr]))
   rw [show numB s = ((trimB s).data.toList.all digB && decide (0 < (trimB s).size)) from rfl, ht]
theorem let_cls (c : UInt8) : (wB c = true ∧ decide ((c.toNat : Int) ≥ 97) = true ∧ decide ((c.toNat : Int) ≤ 122) = true) ∨
  (letB c = false ∧ decide ((c.toNat : Int) ≥ 97) = true ∧ decide ((c.toNat : Int) ≤ 122) = false ∧ decide ((c.toNat : Int) ≥ 48) = true ∧ decide ((c.toNat : Int) ≤ 57) = false ∧ digB c = false) ∨
  (letB c = false ∧ decide ((c.toNat : Int) ≥ 97) = false ∧ decide ((c.toNat : Int) ≥ 48) = false ∧ digB c = false) ∨
  (wB c = true ∧ decide ((c.toNat : Int) ≥ 97) = false ∧ decide ((c.toNat : Int) ≥ 48) = true ∧ decide ((c.toNat : Int) ≤ 57) = true) ∨
  (letB c = false ∧ decide ((c.toNat : Int) ≥ 97) = false ∧ decide ((c.toNat : Int) ≥ 48) = true ∧ decide ((c.toNat : Int) ≤ 57) = false ∧ digB c = false) := by
 simp only [wB, letB, digB, Bool.and_eq_true, Bool.or_eq_true, Bool.and_eq_false_iff, decide_eq_true_eq, decide_eq_false_iff_not]
 omega
theorem signs_c (c : UInt8) : signs.contains c = (((c.toNat : Int) == 45) || ((c.toNat : Int) == 95) || ((c.toNat : Int) == 63) || ((c.toNat : Int) == 58) || ((c.toNat : Int) == 60) || ((c.toNat : Int) == 62) || ((c.toNat : Int) == 61) || ((c.toNat : Int) == 43) || ((c.toNat : Int) == 42)) := by
 have hh : ∀ d : UInt8, (c == d) = ((c.toNat : Int) == (d.toNat : Int)) := by
  intro d
  by_cases h : c = d
  ·subst h; simp
  ·have : ¬ c.toNat = d.toNat := fun e => h (UInt8.toNat_inj.1 e)
   have : ¬ (c.toNat : Int) = (d.toNat : Int) := by omega
   rw [beq_eq_false_iff_ne.2 h, beq_eq_false_iff_ne.2 this]
 have e : signs.contains c = (c == 45 || (c == 95 || (c == 63 || (c == 58 || (c == 60 || (c == 62 || (c == 61 || (c == 43 || (c == 42 || false))))))))) := rfl
 rw [e, hh, hh, hh, hh, hh, hh, hh, hh, hh]
 simp only [Bool.or_false, Bool.or_assoc]
 rfl
theorem letter_c {h : Heap} {c : UInt8} : PCall Try.prog 151 [.sc (.int .u8 c.toNat)] h fun r h' => r = .sc (.bool (wB c)) ∧ h' = h := by
 refine pcall_body (ow := fun _ => false) (wf := fun _ => false) Ty.mixed Try.func151 rfl Ty.hb_151 (by rw [Try.ntmps151]; simp) ?_
 rw [Try.ntmps151, Try.results151]
 rcases let_cls c with ⟨hw, c1, c2⟩ | ⟨hlet, c1, c2, c3, c4, hdig⟩ | ⟨hlet, c1, c3, hdig⟩ | ⟨hw, c1, c3, c4⟩ | ⟨hlet, c1, c3, c4, hdig⟩
 ·repeat' (first | refine a_seq fun K hK => ?_ | ((first | refine a_regionS ?_ | refine a_ret ?_); simp only [Ty.w, simprocAttr, c1, c2]) | (refine hK _ _ ?_; clear hK; try simp only [pst0, simprocAttr]))
  all_goals (rw [hw])
 ·cases s0 : ((c.toNat : Int) == 45) with
  | true =>
   have hw : wB c = true := by simp only [wB, hlet, hdig, signs_c, s0, Bool.or_true, Bool.true_or, Bool.false_or]
   repeat' (first | refine a_seq fun K hK => ?_ | ((first | refine a_regionS ?_ | refine a_ret ?_); simp only [Ty.w, simprocAttr, c1, c2, c3, c4, s0]) | (refine a_skip ?_; try simp only [pst0, simprocAttr]) | (refine a_cond _ (by (try simp only [Ty.w, simprocAttr, c1, c2, c3, c4, s0]); rfl) (fun hb => ?_) (fun hb => ?_) <;> (try simp only [hb0, decide_eq_true_eq, decide_eq_false_iff_not, simprocAttr] at hb) <;> (try (exfalso; omega))) | (refine hK _ _ ?_; clear hK; try simp only [pst0, simprocAttr]))
   all_goals (rw [hw])
  | false =>
   cases s1 : ((c.toNat : Int) == 95) with
   | true =>
    have hw : wB c = true := by simp only [wB, hlet, hdig, signs_c, s0, s1, Bool.or_true, Bool.true_or, Bool.false_or]
    repeat' (first | refine a_seq fun K hK => ?_ | ((first | refine a_regionS ?_ | refine a_ret ?_); simp only [Ty.w, simprocAttr, c1, c2, c3, c4, s0, s1]) | (refine a_skip ?_; try simp only [pst0, simprocAttr]) | (refine a_cond _ (by (try simp only [Ty.w, simprocAttr, c1, c2, c3, c4, s0, s1]); rfl) (fun hb => ?_) (fun hb => ?_) <;> (try simp only [hb0, decide_eq_true_eq, decide_eq_false_iff_not, simprocAttr] at hb) <;> (try (exfalso; omega))) | (refine hK _ _ ?_; clear hK; try simp only [pst0, simprocAttr]))
    all_goals (rw [hw])
   | false =>
    cases s2 : ((c.toNat : Int) == 63) with
    | true =>
     have hw : wB c = true := by simp only [wB, hlet, hdig, signs_c, s0, s1, s2, Bool.or_true, Bool.true_or, Bool.false_or]
     repeat' (first | refine a_seq fun K hK => ?_ | ((first | refine a_regionS ?_ | refine a_ret ?_); simp only [Ty.w, simprocAttr, c1, c2, c3, c4, s0, s1, s2]) | (refine a_skip ?_; try simp only [pst0, simprocAttr]) | (refine a_cond _ (by (try simp only [Ty.w, simprocAttr, c1, c2, c3, c4, s0, s1, s2]); rfl) (fun hb => ?_) (fun hb => ?_) <;> (try simp only [hb0, decide_eq_true_eq, decide_eq_false_iff_not, simprocAttr] at hb) <;> (try (exfalso; omega))) | (refine hK _ _ ?_; clear hK; try simp only [pst0, simprocAttr]))
     all_goals (rw [hw])
    | false =>
     cases s3 : ((c.toNat : Int) == 58) with
     | true =>
      have hw : wB c = true := by simp only [wB, hlet, hdig, signs_c, s0, s1, s2, s3, Bool.or_true, Bool.true_or, Bool.false_or]
      repeat' (first | refine a_seq fun K hK => ?_ | ((first | refine a_regionS ?_ | refine a_ret ?_); simp only [Ty.w, simprocAttr, c1, c2, c3, c4, s0, s1, s2, s3]) | (refine a_skip ?_; try simp only [pst0, simprocAttr]) | (refine a_cond _ (by (try simp only [Ty.w, simprocAttr, c1, c2, c3, c4, s0, s1, s2, s3]); rfl) (fun hb => ?_) (fun hb => ?_) <;> (try simp only [hb0, decide_eq_true_eq, decide_eq_false_iff_not, simprocAttr] at hb) <;> (try (exfalso; omega))) | (refine hK _ _ ?_; clear hK; try simp only [pst0, simprocAttr]))
      all_goals (rw [hw])
     | false =>
      cases s4 : ((c.toNat : Int) == 60) with
      | true =>
       have hw : wB c = true := by simp only [wB, hlet, hdig, signs_c, s0, s1, s2, s3, s4, Bool.or_true, Bool.true_or, Bool.false_or]
       repeat' (first | refine a_seq fun K hK => ?_ | ((first | refine a_regionS ?_ | refine a_ret ?_); simp only [Ty.w, simprocAttr, c1, c2, c3, c4, s0, s1, s2, s3, s4]) | (refine a_skip ?_; try simp only [pst0, simprocAttr]) | (refine a_cond _ (by (try simp only [Ty.w, simprocAttr, c1, c2, c3, c4, s0, s1, s2, s3, s4]); rfl) (fun hb => ?_) (fun hb => ?_) <;> (try simp only [hb0, decide_eq_true_eq, decide_eq_false_iff_not, simprocAttr] at hb) <;> (try (exfalso; omega))) | (refine hK _ _ ?_; clear hK; try simp only [pst0, simprocAttr]))
       all_goals (rw [hw])
      | false =>
       cases s5 : ((c.toNat : Int) == 62) with
       | true =>
        have hw : wB c = true := by simp only [wB, hlet, hdig, signs_c, s0, s1, s2, s3, s4, s5, Bool.or_true, Bool.true_or, Bool.false_or]
        repeat' (first | refine a_seq fun K hK => ?_ | ((first | refine a_regionS ?_ | refine a_ret ?_); simp only [Ty.w, simprocAttr, c1, c2, c3, c4, s0, s1, s2, s3, s4, s5]) | (refine a_skip ?_; try simp only [pst0, simprocAttr]) | (refine a_cond _ (by (try simp only [Ty.w, simprocAttr, c1, c2, c3, c4, s0, s1, s2, s3, s4, s5]); rfl) (fun hb => ?_) (fun hb => ?_) <;> (try simp only [hb0, decide_eq_true_eq, decide_eq_false_iff_not, simprocAttr] at hb) <;> (try (exfalso; omega))) | (refine hK _ _ ?_; clear hK; try simp only [pst0, simprocAttr]))
        all_goals (rw [hw])
       | false =>
        cases s6 : ((c.toNat : Int) == 61) with
        | true =>
         have hw : wB c = true := by simp only [wB, hlet, hdig, signs_c, s0, s1, s2, s3, s4, s5, s6, Bool.or_true, Bool.true_or, Bool.false_or]
         repeat' (first | refine a_seq fun K hK => ?_ | ((first | refine a_regionS ?_ | refine a_ret ?_); simp only [Ty.w, simprocAttr, c1, c2, c3, c4, s0, s1, s2, s3, s4, s5, s6]) | (refine a_skip ?_; try simp only [pst0, simprocAttr]) | (refine a_cond _ (by (try simp only [Ty.w, simprocAttr, c1, c2, c3, c4, s0, s1, s2, s3, s4, s5, s6]); rfl) (fun hb => ?_) (fun hb => ?_) <;> (try simp only [hb0, decide_eq_true_eq, decide_eq_false_iff_not, simprocAttr] at hb) <;> (try (exfalso; omega))) | (refine hK _ _ ?_; clear hK; try simp only [pst0, simprocAttr]))
         all_goals (rw [hw])
        | false =>
         cases s7 : ((c.toNat : Int) == 43) with
         | true =>
          have hw : wB c = true := by simp only [wB, hlet, hdig, signs_c, s0, s1, s2, s3, s4, s5, s6, s7, Bool.or_true, Bool.true_or, Bool.false_or]
          repeat' (first | refine a_seq fun K hK => ?_ | ((first | refine a_regionS ?_ | refine a_ret ?_); simp only [Ty.w, simprocAttr, c1, c2, c3, c4, s0, s1, s2, s3, s4, s5, s6, s7]) | (refine a_skip ?_; try simp only [pst0, simprocAttr]) | (refine a_cond _ (by (try simp only [Ty.w, simprocAttr, c1, c2, c3, c4, s0, s1, s2, s3, s4, s5, s6, s7]); rfl) (fun hb => ?_) (fun hb => ?_) <;> (try simp only [hb0, decide_eq_true_eq, decide_eq_false_iff_not, simprocAttr] at hb) <;> (try (exfalso; omega))) | (refine hK _ _ ?_; clear hK; try simp only [pst0, simprocAttr]))
          all_goals (rw [hw])
         | false =>
          cases s8 : ((c.toNat : Int) == 42) with
          | true =>
           have hw : wB c = true := by simp only [wB, hlet, hdig, signs_c, s0, s1, s2, s3, s4, s5, s6, s7, s8, Bool.or_true, Bool.true_or, Bool.false_or]
           repeat' (first | refine a_seq fun K hK => ?_ | ((first | refine a_regionS ?_ | refine a_ret ?_); simp only [Ty.w, simprocAttr, c1, c2, c3, c4, s0, s1, s2, s3, s4, s5, s6, s7, s8]) | (refine a_skip ?_; try simp only [pst0, simprocAttr]) | (refine a_cond _ (by (try simp only [Ty.w, simprocAttr, c1, c2, c3, c4, s0, s1, s2, s3, s4, s5, s6, s7, s8]); rfl) (fun hb => ?_) (fun hb => ?_) <;> (try simp only [hb0, decide_eq_true_eq, decide_eq_false_iff_not, simprocAttr] at hb) <;> (try (exfalso; omega))) | (refine hK _ _ ?_; clear hK; try simp only [pst0, simprocAttr]))
           all_goals (rw [hw])
          | false =>
           have hw : wB c = false := by simp only [wB, hlet, hdig, signs_c, s0, s1, s2, s3, s4, s5, s6, s7, s8, Bool.or_false]
           repeat' (first | refine a_seq fun K hK => ?_ | ((first | refine a_regionS ?_ | refine a_ret ?_); simp only [Ty.w, simprocAttr, c1, c2, c3, c4, s0, s1, s2, s3, s4, s5, s6, s7, s8]) | (refine a_skip ?_; try simp only [pst0, simprocAttr]) | (refine a_cond _ (by (try simp only [Ty.w, simprocAttr, c1, c2, c3, c4, s0, s1, s2, s3, s4, s5, s6, s7, s8]); rfl) (fun hb => ?_) (fun hb => ?_) <;> (try simp only [hb0, decide_eq_true_eq, decide_eq_false_iff_not, simprocAttr] at hb) <;> (try (exfalso; omega))) | (refine hK _ _ ?_; clear hK; try simp only [pst0, simprocAttr]))
           all_goals (rw [hw])
 ·cases s0 : ((c.toNat : Int) == 45) with
  | true =>
   have hw : wB c = true := by simp only [wB, hlet, hdig, signs_c, s0, Bool.or_true, Bool.true_or, Bool.false_or]
   repeat' (first | refine a_seq fun K hK => ?_ | ((first | refine a_regionS ?_ | refine a_ret ?_); simp only [Ty.w, simprocAttr, c1, c3, s0]) | (refine a_skip ?_; try simp only [pst0, simprocAttr]) | (refine a_cond _ (by (try simp only [Ty.w, simprocAttr, c1, c3, s0]); rfl) (fun hb => ?_) (fun hb => ?_) <;> (try simp only [hb0, decide_eq_true_eq, decide_eq_false_iff_not, simprocAttr] at hb) <;> (try (exfalso; omega))) | (refine hK _ _ ?_; clear hK; try simp only [pst0, simprocAttr]))
   all_goals (rw [hw])
  | false =>
   cases s1 : ((c.toNat : Int) == 95) with
   | true =>
    have hw : wB c = true := by simp only [wB, hlet, hdig, signs_c, s0, s1, Bool.or_true, Bool.true_or, Bool.false_or]
    repeat' (first | refine a_seq fun K hK => ?_ | ((first | refine a_regionS ?_ | refine a_ret ?_); simp only [Ty.w, simprocAttr, c1, c3, s0, s1]) | (refine a_skip ?_; try simp only [pst0, simprocAttr]) | (refine a_cond _ (by (try simp only [Ty.w, simprocAttr, c1, c3, s0, s1]); rfl) (fun hb => ?_) (fun hb => ?_) <;> (try simp only [hb0, decide_eq_true_eq, decide_eq_false_iff_not, simprocAttr] at hb) <;> (try (exfalso; omega))) | (refine hK _ _ ?_; clear hK; try simp only [pst0, simprocAttr]))
    all_goals (rw [hw])
   | false =>
    cases s2 : ((c.toNat : Int) == 63) with
    | true =>
     have hw : wB c = true := by simp only [wB, hlet, hdig, signs_c, s0, s1, s2, Bool.or_true, Bool.true_or, Bool.false_or]
     repeat' (first | refine a_seq fun K hK => ?_ | ((first | refine a_regionS ?_ | refine a_ret ?_); simp only [Ty.w, simprocAttr, c1, c3, s0, s1, s2]) | (refine a_skip ?_; try simp only [pst0, simprocAttr]) | (refine a_cond _ (by (try simp only [Ty.w, simprocAttr, c1, c3, s0, s1, s2]); rfl) (fun hb => ?_) (fun hb => ?_) <;> (try simp only [hb0, decide_eq_true_eq, decide_eq_false_iff_not, simprocAttr] at hb) <;> (try (exfalso; omega))) | (refine hK _ _ ?_; clear hK; try simp only [pst0, simprocAttr]))
     all_goals (rw [hw])
    | false =>
     cases s3 : ((c.toNat : Int) == 58) with
     | true =>
      have hw : wB c = true := by simp only [wB, hlet, hdig, signs_c, s0, s1, s2, s3, Bool.or_true, Bool.true_or, Bool.false_or]
      repeat' (first | refine a_seq fun K hK => ?_ | ((first | refine a_regionS ?_ | refine a_ret ?_); simp only [Ty.w, simprocAttr, c1, c3, s0, s1, s2, s3]) | (refine a_skip ?_; try simp only [pst0, simprocAttr]) | (refine a_cond _ (by (try simp only [Ty.w, simprocAttr, c1, c3, s0, s1, s2, s3]); rfl) (fun hb => ?_) (fun hb => ?_) <;> (try simp only [hb0, decide_eq_true_eq, decide_eq_false_iff_not, simprocAttr] at hb) <;> (try (exfalso; omega))) | (refine hK _ _ ?_; clear hK; try simp only [pst0, simprocAttr]))
      all_goals (rw [hw])
     | false =>
      cases s4 : ((c.toNat : Int) == 60) with
      | true =>
       have hw : wB c = true := by simp only [wB, hlet, hdig, signs_c, s0, s1, s2, s3, s4, Bool.or_true, Bool.true_or, Bool.false_or]
       repeat' (first | refine a_seq fun K hK => ?_ | ((first | refine a_regionS ?_ | refine a_ret ?_); simp only [Ty.w, simprocAttr, c1, c3, s0, s1, s2, s3, s4]) | (refine a_skip ?_; try simp only [pst0, simprocAttr]) | (refine a_cond _ (by (try simp only [Ty.w, simprocAttr, c1, c3, s0, s1, s2, s3, s4]); rfl) (fun hb => ?_) (fun hb => ?_) <;> (try simp only [hb0, decide_eq_true_eq, decide_eq_false_iff_not, simprocAttr] at hb) <;> (try (exfalso; omega))) | (refine hK _ _ ?_; clear hK; try simp only [pst0, simprocAttr]))
       all_goals (rw [hw])
      | false =>
       cases s5 : ((c.toNat : Int) == 62) with
       | true =>
        have hw : wB c = true := by simp only [wB, hlet, hdig, signs_c, s0, s1, s2, s3, s4, s5, Bool.or_true, Bool.true_or, Bool.false_or]
        repeat' (first | refine a_seq fun K hK => ?_ | ((first | refine a_regionS ?_ | refine a_ret ?_); simp only [Ty.w, simprocAttr, c1, c3, s0, s1, s2, s3, s4, s5]) | (refine a_skip ?_; try simp only [pst0, simprocAttr]) | (refine a_cond _ (by (try simp only [Ty.w, simprocAttr, c1, c3, s0, s1, s2, s3, s4, s5]); rfl) (fun hb => ?_) (fun hb => ?_) <;> (try simp only [hb0, decide_eq_true_eq, decide_eq_false_iff_not, simprocAttr] at hb) <;> (try (exfalso; omega))) | (refine hK _ _ ?_; clear hK; try simp only [pst0, simprocAttr]))
        all_goals (rw [hw])
       | false =>
        cases s6 : ((c.toNat : Int) == 61) with
        | true =>
         have hw : wB c = true := by simp only [wB, hlet, hdig, signs_c, s0, s1, s2, s3, s4, s5, s6, Bool.or_true, Bool.true_or, Bool.false_or]
         repeat' (first | refine a_seq fun K hK => ?_ | ((first | refine a_regionS ?_ | refine a_ret ?_); simp only [Ty.w, simprocAttr, c1, c3, s0, s1, s2, s3, s4, s5, s6]) | (refine a_skip ?_; try simp only [pst0, simprocAttr]) | (refine a_cond _ (by (try simp only [Ty.w, simprocAttr, c1, c3, s0, s1, s2, s3, s4, s5, s6]); rfl) (fun hb => ?_) (fun hb => ?_) <;> (try simp only [hb0, decide_eq_true_eq, decide_eq_false_iff_not, simprocAttr] at hb) <;> (try (exfalso; omega))) | (refine hK _ _ ?_; clear hK; try simp only [pst0, simprocAttr]))
         all_goals (rw [hw])
        | false =>
         cases s7 : ((c.toNat : Int) == 43) with
         | true =>
          have hw : wB c = true := by simp only [wB, hlet, hdig, signs_c, s0, s1, s2, s3, s4, s5, s6, s7, Bool.or_true, Bool.true_or, Bool.false_or]
          repeat' (first | refine a_seq fun K hK => ?_ | ((first | refine a_regionS ?_ | refine a_ret ?_); simp only [Ty.w, simprocAttr, c1, c3, s0, s1, s2, s3, s4, s5, s6, s7]) | (refine a_skip ?_; try simp only [pst0, simprocAttr]) | (refine a_cond _ (by (try simp only [Ty.w, simprocAttr, c1, c3, s0, s1, s2, s3, s4, s5, s6, s7]); rfl) (fun hb => ?_) (fun hb => ?_) <;> (try simp only [hb0, decide_eq_true_eq, decide_eq_false_iff_not, simprocAttr] at hb) <;> (try (exfalso; omega))) | (refine hK _ _ ?_; clear hK; try simp only [pst0, simprocAttr]))
          all_goals (rw [hw])
         | false =>
          cases s8 : ((c.toNat : Int) == 42) with
          | true =>
           have hw : wB c = true := by simp only [wB, hlet, hdig, signs_c, s0, s1, s2, s3, s4, s5, s6, s7, s8, Bool.or_true, Bool.true_or, Bool.false_or]
           repeat' (first | refine a_seq fun K hK => ?_ | ((first | refine a_regionS ?_ | refine a_ret ?_); simp only [Ty.w, simprocAttr, c1, c3, s0, s1, s2, s3, s4, s5, s6, s7, s8]) | (refine a_skip ?_; try simp only [pst0, simprocAttr]) | (refine a_cond _ (by (try simp only [Ty.w, simprocAttr, c1, c3, s0, s1, s2, s3, s4, s5, s6, s7, s8]); rfl) (fun hb => ?_) (fun hb => ?_) <;> (try simp only [hb0, decide_eq_true_eq, decide_eq_false_iff_not, simprocAttr] at hb) <;> (try (exfalso; omega))) | (refine hK _ _ ?_; clear hK; try simp only [pst0, simprocAttr]))
           all_goals (rw [hw])
          | false =>
           have hw : wB c = false := by simp only [wB, hlet, hdig, signs_c, s0, s1, s2, s3, s4, s5, s6, s7, s8, Bool.or_false]
           repeat' (first | refine a_seq fun K hK => ?_ | ((first | refine a_regionS ?_ | refine a_ret ?_); simp only [Ty.w, simprocAttr, c1, c3, s0, s1, s2, s3, s4, s5, s6, s7, s8]) | (refine a_skip ?_; try simp only [pst0, simprocAttr]) | (refine a_cond _ (by (try simp only [Ty.w, simprocAttr, c1, c3, s0, s1, s2, s3, s4, s5, s6, s7, s8]); rfl) (fun hb => ?_) (fun hb => ?_) <;> (try simp only [hb0, decide_eq_true_eq, decide_eq_false_iff_not, simprocAttr] at hb) <;> (try (exfalso; omega))) | (refine hK _ _ ?_; clear hK; try simp only [pst0, simprocAttr]))
           all_goals (rw [hw])
 ·repeat' (first | refine a_seq fun K hK => ?_ | ((first | refine a_regionS ?_ | refine a_ret ?_); simp only [Ty.w, simprocAttr, c1, c3, c4]) | (refine hK _ _ ?_; clear hK; try simp only [pst0, simprocAttr]))
  all_goals (rw [hw])
 ·cases s0 : ((c.toNat : Int) == 45) with
  | true =>
   have hw : wB c = true := by simp only [wB, hlet, hdig, signs_c, s0, Bool.or_true, Bool.true_or, Bool.false_or]
   repeat' (first | refine a_seq fun K hK => ?_ | ((first | refine a_regionS ?_ | refine a_ret ?_); simp only [Ty.w, simprocAttr, c1, c3, c4, s0]) | (refine a_skip ?_; try simp only [pst0, simprocAttr]) | (refine a_cond _ (by (try simp only [Ty.w, simprocAttr, c1, c3, c4, s0]); rfl) (fun hb => ?_) (fun hb => ?_) <;> (try simp only [hb0, decide_eq_true_eq, decide_eq_false_iff_not, simprocAttr] at hb) <;> (try (exfalso; omega))) | (refine hK _ _ ?_; clear hK; try simp only [pst0, simprocAttr]))
   all_goals (rw [hw])
  | false =>
   cases s1 : ((c.toNat : Int) == 95) with
   | true =>
    have hw : wB c = true := by simp only [wB, hlet, hdig, signs_c, s0, s1, Bool.or_true, Bool.true_or, Bool.false_or]
    repeat' (first | refine a_seq fun K hK => ?_ | ((first | refine a_regionS ?_ | refine a_ret ?_); simp only [Ty.w, simprocAttr, c1, c3, c4, s0, s1]) | (refine a_skip ?_; try simp only [pst0, simprocAttr]) | (refine a_cond _ (by (try simp only [Ty.w, simprocAttr, c1, c3, c4, s0, s1]); rfl) (fun hb => ?_) (fun hb => ?_) <;> (try simp only [hb0, decide_eq_true_eq, decide_eq_false_iff_not, simprocAttr] at hb) <;> (try (exfalso; omega))) | (refine hK _ _ ?_; clear hK; try simp only [pst0, simprocAttr]))
    all_goals (rw [hw])
   | false =>
    cases s2 : ((c.toNat : Int) == 63) with
    | true =>
     have hw : wB c = true := by simp only [wB, hlet, hdig, signs_c, s0, s1, s2, Bool.or_true, Bool.true_or, Bool.false_or]
     repeat' (first | refine a_seq fun K hK => ?_ | ((first | refine a_regionS ?_ | refine a_ret ?_); simp only [Ty.w, simprocAttr, c1, c3, c4, s0, s1, s2]) | (refine a_skip ?_; try simp only [pst0, simprocAttr]) | (refine a_cond _ (by (try simp only [Ty.w, simprocAttr, c1, c3, c4, s0, s1, s2]); rfl) (fun hb => ?_) (fun hb => ?_) <;> (try simp only [hb0, decide_eq_true_eq, decide_eq_false_iff_not, simprocAttr] at hb) <;> (try (exfalso; omega))) | (refine hK _ _ ?_; clear hK; try simp only [pst0, simprocAttr]))
     all_goals (rw [hw])
    | false =>
     cases s3 : ((c.toNat : Int) == 58) with
     | true =>
      have hw : wB c = true := by simp only [wB, hlet, hdig, signs_c, s0, s1, s2, s3, Bool.or_true, Bool.true_or, Bool.false_or]
      repeat' (first | refine a_seq fun K hK => ?_ | ((first | refine a_regionS ?_ | refine a_ret ?_); simp only [Ty.w, simprocAttr, c1, c3, c4, s0, s1, s2, s3]) | (refine a_skip ?_; try simp only [pst0, simprocAttr]) | (refine a_cond _ (by (try simp only [Ty.w, simprocAttr, c1, c3, c4, s0, s1, s2, s3]); rfl) (fun hb => ?_) (fun hb => ?_) <;> (try simp only [hb0, decide_eq_true_eq, decide_eq_false_iff_not, simprocAttr] at hb) <;> (try (exfalso; omega))) | (refine hK _ _ ?_; clear hK; try simp only [pst0, simprocAttr]))
      all_goals (rw [hw])
     | false =>
      cases s4 : ((c.toNat : Int) == 60) with
      | true =>
       have hw : wB c = true := by simp only [wB, hlet, hdig, signs_c, s0, s1, s2, s3, s4, Bool.or_true, Bool.true_or, Bool.false_or]
       repeat' (first | refine a_seq fun K hK => ?_ | ((first | refine a_regionS ?_ | refine a_ret ?_); simp only [Ty.w, simprocAttr, c1, c3, c4, s0, s1, s2, s3, s4]) | (refine a_skip ?_; try simp only [pst0, simprocAttr]) | (refine a_cond _ (by (try simp only [Ty.w, simprocAttr, c1, c3, c4, s0, s1, s2, s3, s4]); rfl) (fun hb => ?_) (fun hb => ?_) <;> (try simp only [hb0, decide_eq_true_eq, decide_eq_false_iff_not, simprocAttr] at hb) <;> (try (exfalso; omega))) | (refine hK _ _ ?_; clear hK; try simp only [pst0, simprocAttr]))
       all_goals (rw [hw])
      | false =>
       cases s5 : ((c.toNat : Int) == 62) with
       | true =>
        have hw : wB c = true := by simp only [wB, hlet, hdig, signs_c, s0, s1, s2, s3, s4, s5, Bool.or_true, Bool.true_or, Bool.false_or]
        repeat' (first | refine a_seq fun K hK => ?_ | ((first | refine a_regionS ?_ | refine a_ret ?_); simp only [Ty.w, simprocAttr, c1, c3, c4, s0, s1, s2, s3, s4, s5]) | (refine a_skip ?_; try simp only [pst0, simprocAttr]) | (refine a_cond _ (by (try simp only [Ty.w, simprocAttr, c1, c3, c4, s0, s1, s2, s3, s4, s5]); rfl) (fun hb => ?_) (fun hb => ?_) <;> (try simp only [hb0, decide_eq_true_eq, decide_eq_false_iff_not, simprocAttr] at hb) <;> (try (exfalso; omega))) | (refine hK _ _ ?_; clear hK; try simp only [pst0, simprocAttr]))
        all_goals (rw [hw])
       | false =>
        cases s6 : ((c.toNat : Int) == 61) with
        | true =>
         have hw : wB c = true := by simp only [wB, hlet, hdig, signs_c, s0, s1, s2, s3, s4, s5, s6, Bool.or_true, Bool.true_or, Bool.false_or]
         repeat' (first | refine a_seq fun K hK => ?_ | ((first | refine a_regionS ?_ | refine a_ret ?_); simp only [Ty.w, simprocAttr, c1, c3, c4, s0, s1, s2, s3, s4, s5, s6]) | (refine a_skip ?_; try simp only [pst0, simprocAttr]) | (refine a_cond _ (by (try simp only [Ty.w, simprocAttr, c1, c3, c4, s0, s1, s2, s3, s4, s5, s6]); rfl) (fun hb => ?_) (fun hb => ?_) <;> (try simp only [hb0, decide_eq_true_eq, decide_eq_false_iff_not, simprocAttr] at hb) <;> (try (exfalso; omega))) | (refine hK _ _ ?_; clear hK; try simp only [pst0, simprocAttr]))
         all_goals (rw [hw])
        | false =>
         cases s7 : ((c.toNat : Int) == 43) with
         | true =>
          have hw : wB c = true := by simp only [wB, hlet, hdig, signs_c, s0, s1, s2, s3, s4, s5, s6, s7, Bool.or_true, Bool.true_or, Bool.false_or]
          repeat' (first | refine a_seq fun K hK => ?_ | ((first | refine a_regionS ?_ | refine a_ret ?_); simp only [Ty.w, simprocAttr, c1, c3, c4, s0, s1, s2, s3, s4, s5, s6, s7]) | (refine a_skip ?_; try simp only [pst0, simprocAttr]) | (refine a_cond _ (by (try simp only [Ty.w, simprocAttr, c1, c3, c4, s0, s1, s2, s3, s4, s5, s6, s7]); rfl) (fun hb => ?_) (fun hb => ?_) <;> (try simp only [hb0, decide_eq_true_eq, decide_eq_false_iff_not, simprocAttr] at hb) <;> (try (exfalso; omega))) | (refine hK _ _ ?_; clear hK; try simp only [pst0, simprocAttr]))
          all_goals (rw [hw])
         | false =>
          cases s8 : ((c.toNat : Int) == 42) with
          | true =>
           have hw : wB c = true := by simp only [wB, hlet, hdig, signs_c, s0, s1, s2, s3, s4, s5, s6, s7, s8, Bool.or_true, Bool.true_or, Bool.false_or]
           repeat' (first | refine a_seq fun K hK => ?_ | ((first | refine a_regionS ?_ | refine a_ret ?_); simp only [Ty.w, simprocAttr, c1, c3, c4, s0, s1, s2, s3, s4, s5, s6, s7, s8]) | (refine a_skip ?_; try simp only [pst0, simprocAttr]) | (refine a_cond _ (by (try simp only [Ty.w, simprocAttr, c1, c3, c4, s0, s1, s2, s3, s4, s5, s6, s7, s8]); rfl) (fun hb => ?_) (fun hb => ?_) <;> (try simp only [hb0, decide_eq_true_eq, decide_eq_false_iff_not, simprocAttr] at hb) <;> (try (exfalso; omega))) | (refine hK _ _ ?_; clear hK; try simp only [pst0, simprocAttr]))
           all_goals (rw [hw])
          | false =>
           have hw : wB c = false := by simp only [wB, hlet, hdig, signs_c, s0, s1, s2, s3, s4, s5, s6, s7, s8, Bool.or_false]
           repeat' (first | refine a_seq fun K hK => ?_ | ((first | refine a_regionS ?_ | refine a_ret ?_); simp only [Ty.w, simprocAttr, c1, c3, c4, s0, s1, s2, s3, s4, s5, s6, s7, s8]) | (refine a_skip ?_; try simp only [pst0, simprocAttr]) | (refine a_cond _ (by (try simp only [Ty.w, simprocAttr, c1, c3, c4, s0, s1, s2, s3, s4, s5, s6, s7, s8]); rfl) (fun hb => ?_) (fun hb => ?_) <;> (try simp only [hb0, decide_eq_true_eq, decide_eq_false_iff_not, simprocAttr] at hb) <;> (try (exfalso; omega))) | (refine hK _ _ ?_; clear hK; try simp only [pst0, simprocAttr]))
           all_goals (rw [hw])
def wordR (s : ByteArray) : Bool := s.data.toList.all wB && decide (1 ≤ s.size) && decide (s.size ≤ 32) && !(numB s)
theorem rword_c {h : Heap} {s : ByteArray} (hs : s.size ≤ bigN) : PCall Try.prog 134 [sPV s] h fun r h' => r = .sc (.bool (wordR s)) ∧ h' = h := by
 have hs' := hs
 unfold bigN at hs'
 have htl : s.data.toList.length = s.size := by rw [Array.length_toList]; try rfl
 refine pcall_body (ow := fun _ => false) (wf := fun _ => false) Ty.mixed Try.func134 rfl Ty.hb_134 (by rw [Try.ntmps134]; simp) ?_
 rw [Try.ntmps134, Try.results134]
 repeat' (first | refine a_seq fun K hK => ?_ | (refine a_block ?_) | (refine a_regionS ?_; simp only [Ty.w, simprocAttr]) | (refine hK _ _ ?_; clear hK; try simp only [pst0, simprocAttr]))
 refine a_loop (fun m S h' => h' = h ∧ S 0 = sPV s ∧ ∃ k : Nat, S 3 = .sc (.int .i64 k) ∧ k ≤ s.size ∧ m = s.size - k ∧ ∀ (i : Nat) (c : UInt8), i < k → s.data.toList[i]? = some c → wB c = true) s.size ?_ ?_
 ·simp only [Ty.w, simprocAttr]
  exact ⟨0, rfl, by omega, rfl, by omega⟩
 ·rintro m S h' ⟨rfl, g0, k, g3, hk, rfl, hall⟩
  by_cases hlt : k < s.size
  ·have hd : decide ((k : Int) < (s.size : Int)) = true := by simp; omega
   have w7 : IntKind.i64.wrap ((k : Int) + 1) = k + 1 := by rw [wrap64 (by omega) (by omega)]
   obtain ⟨c, hx⟩ : ∃ c, s.data.toList[k]? = some c := ⟨_, List.getElem?_eq_getElem (by omega)⟩
   have hr : s[k]? = some c := by rw [ba_get]; exact hx
   cases hg : wB c with
   | false =>
    have bad : s.data.toList.all wB = false := by rw [List.all_eq_false]; exact ⟨c, List.mem_of_getElem? hx, by simp [hg]⟩
    have hw : wordR s = false := by simp only [wordR, bad, Bool.false_and]
    repeat' (first | refine a_seq fun K hK => ?_ | (refine a_regionS ?_; simp only [Ty.w, simprocAttr, g0, g3, hd, hr]) | (refine a_skip ?_; try simp only [pst0, simprocAttr]) | (refine a_cond _ (by (try simp only [Ty.w, simprocAttr, g0, g3, hd, hr]); rfl) (fun hb => ?_) (fun hb => ?_) <;> (try simp only [hb0, decide_eq_true_eq, decide_eq_false_iff_not, simprocAttr] at hb) <;> (try (exfalso; omega))) | (refine hK _ _ ?_; clear hK; try simp only [pst0, simprocAttr]))
    refine owp_useQ (letter_c (c := c)) (by (try simp only [Ty.w, simprocAttr, g0, g3, hd, hr, hg, Bool.not_false]); try rfl) ?_; simp only [Ty.w, simprocAttr, g0, g3, hd, hr, hg, Bool.not_false]
    repeat' (first | refine a_seq fun K hK => ?_ | ((first | refine a_regionS ?_ | refine a_ret ?_); simp only [Ty.w, simprocAttr, g0, g3, Bool.not_false]) | (refine hK _ _ ?_; clear hK; try simp only [pst0, simprocAttr]))
    all_goals (rw [hw])
   | true =>
    repeat' (first | refine a_seq fun K hK => ?_ | (refine a_regionS ?_; simp only [Ty.w, simprocAttr, g0, g3, hd, hr]) | (refine a_skip ?_; try simp only [pst0, simprocAttr]) | (refine a_cond _ (by (try simp only [Ty.w, simprocAttr, g0, g3, hd, hr]); rfl) (fun hb => ?_) (fun hb => ?_) <;> (try simp only [hb0, decide_eq_true_eq, decide_eq_false_iff_not, simprocAttr] at hb) <;> (try (exfalso; omega))) | (refine hK _ _ ?_; clear hK; try simp only [pst0, simprocAttr]))
    refine owp_useQ (letter_c (c := c)) (by (try simp only [Ty.w, simprocAttr, g0, g3, hd, hr, hg, Bool.not_true]); try rfl) ?_; simp only [Ty.w, simprocAttr, g0, g3, hd, hr, hg, Bool.not_true]
    repeat' (first | (refine a_block ?_) | (refine a_regionS ?_; simp only [Ty.w, simprocAttr, g0, g3, w7, Bool.not_true]) | (refine a_skip ?_; try simp only [pst0, simprocAttr]) | (refine hK _ _ ?_; clear hK; try simp only [pst0, simprocAttr]))
    refine ⟨s.size - (k + 1), by omega, k + 1, by simp, by omega, rfl, fun i c2 hi hw => ?_⟩
    by_cases hik : i = k
    ·subst hik; rw [hx] at hw; simp at hw; rw [← hw]; exact hg
    ·exact hall i c2 (by omega) hw
  ·have hd : decide ((k : Int) < (s.size : Int)) = false := by simp; omega
   have hok : s.data.toList.all wB = true := by
    rw [List.all_eq_true]
    intro c hc
    obtain ⟨i, hi⟩ := List.getElem?_of_mem hc
    exact hall i c (by have := (List.getElem?_eq_some_iff.1 hi).1; omega) hi
   have e1 : decide ((s.size : Int) ≥ 1) = decide (1 ≤ s.size) := decide_eq_decide.2 (by omega)
   have e2 : decide ((s.size : Int) ≤ 32) = decide (s.size ≤ 32) := decide_eq_decide.2 (by omega)
   have hW : wordR s = (decide ((s.size : Int) ≥ 1) && decide ((s.size : Int) ≤ 32) && !(numB s)) := by simp only [wordR, hok, e1, e2, Bool.true_and]
   clear hall e1 e2
   have hn := fun h : Heap => rnumeric_c (h := h) hs
   cases q1 : decide ((s.size : Int) ≥ 1) with
   | false =>
    repeat' (first | refine a_seq fun K hK => ?_ | ((first | refine a_regionS ?_ | refine a_ret ?_); simp only [Ty.w, simprocAttr, g0, g3, hd, q1]) | (refine a_exit ?_; try simp only [pst0, simprocAttr]) | (refine a_cond _ (by (try simp only [Ty.w, simprocAttr, g0, g3, hd, q1]); rfl) (fun hb => ?_) (fun hb => ?_) <;> (try simp only [hb0, decide_eq_true_eq, decide_eq_false_iff_not, simprocAttr] at hb) <;> (try (exfalso; omega))) | ((first | refine hK _ _ ?_ | (clear hK; refine hK _ _ ?_)); clear hK; try simp only [pst0, simprocAttr]))
    all_goals (rw [hW, q1]; try rfl)
   | true =>
    cases q2 : decide ((s.size : Int) ≤ 32) with
    | false =>
     repeat' (first | refine a_seq fun K hK => ?_ | ((first | refine a_regionS ?_ | refine a_ret ?_); simp only [Ty.w, simprocAttr, g0, g3, hd, q1, q2]) | (refine a_exit ?_; try simp only [pst0, simprocAttr]) | (refine a_cond _ (by (try simp only [Ty.w, simprocAttr, g0, g3, hd, q1, q2]); rfl) (fun hb => ?_) (fun hb => ?_) <;> (try simp only [hb0, decide_eq_true_eq, decide_eq_false_iff_not, simprocAttr] at hb) <;> (try (exfalso; omega))) | ((first | refine hK _ _ ?_ | (clear hK; refine hK _ _ ?_)); clear hK; try simp only [pst0, simprocAttr]))
     all_goals (rw [hW, q1, q2]; try rfl)
    | true =>
     repeat' (first | refine a_seq fun K hK => ?_ | (refine a_regionS ?_; simp only [Ty.w, simprocAttr, g0, g3, hd, q1, q2]) | (refine a_exit ?_; try simp only [pst0, simprocAttr]) | (refine a_cond _ (by (try simp only [Ty.w, simprocAttr, g0, g3, hd, q1, q2]); rfl) (fun hb => ?_) (fun hb => ?_) <;> (try simp only [hb0, decide_eq_true_eq, decide_eq_false_iff_not, simprocAttr] at hb) <;> (try (exfalso; omega))) | ((first | refine hK _ _ ?_ | (clear hK; refine hK _ _ ?_)); clear hK; try simp only [pst0, simprocAttr]))
     refine owp_useQ (hn _) (by (try simp only [Ty.w, simprocAttr, q1, q2]); try rfl) ?_; simp only [Ty.w, simprocAttr, q1, q2]
     repeat' (first | (refine a_ret ?_; simp only [Ty.w, simprocAttr, q1, q2]) | (refine hK _ _ ?_; clear hK; try simp only [pst0, simprocAttr]))
     all_goals (rw [hW, q1, q2]; try rfl)
end Go.Proofs.Ytjlkapgpjamnkaa
namespace Go.Proofs.Ytjlkapgpjamnkaa
open Go.AM
set_option maxHeartbeats 2000000
set_option maxRecDepth 20000
theorem drop_of_get {α : Type} {l : List α} {k : Nat} {a : α} (h : l[k]? = some a) : l.drop k = a :: l.drop (k + 1) := by
 obtain ⟨hl, rfl⟩ := List.getElem?_eq_some_iff.1 h
 exact List.drop_eq_getElem_cons hl
theorem bsEq_len : ∀ {l m : List ByteArray}, ¬ l.length = m.length → bsEq l m = false
 | [], [], h => by simp at h
 | [], _ :: _, _ => rfl
 | _ :: _, [], _ => rfl
 | a :: l, b :: m, h => by simp only [bsEq, bsEq_len (l := l) (m := m) (by simpa using h), Bool.and_false]
theorem pmsEq_len : ∀ {l m : List Pm}, ¬ l.length = m.length → pmsEq l m = false
 | [], [], h => by simp at h
 | [], _ :: _, _ => rfl
 | _ :: _, [], _ => rfl
 | a :: l, b :: m, h => by simp only [pmsEq, pmsEq_len (l := l) (m := m) (by simpa using h), Bool.and_false]
theorem rtexts_c {h : Heap} {l m : List ByteArray} (hl : l.length ≤ bigN) (hm : m.length ≤ bigN) : PCall Try.prog 59 [.imm 1 (strRows l), .imm 1 (strRows m)] h fun r h' => r = .sc (.bool (bsEq l m)) ∧ h' = h := by
 unfold bigN at hl hm
 have hll := strRows_len l
 have hlm := strRows_len m
 refine pcall_body (ow := fun _ => false) (wf := fun _ => false) Ty.mixed Try.func59 rfl Ty.hb_59 (by rw [Try.ntmps59]; simp) ?_
 rw [Try.ntmps59, Try.results59]
 cases hne : ((l.length : Int) != m.length) with
 | true =>
  have : bsEq l m = false := bsEq_len (by simp at hne; omega)
  repeat' (first | refine a_seq fun K hK => ?_ | ((first | refine a_regionS ?_ | refine a_ret ?_); simp only [Ty.w, simprocAttr, hll, hlm, hne]) | (refine hK _ _ ?_; clear hK; try simp only [pst0, simprocAttr]))
  rw [this]
 | false =>
  have hlen : l.length = m.length := by simp at hne; omega
  repeat' (first | refine a_seq fun K hK => ?_ | (refine a_block ?_) | (refine a_regionS ?_; simp only [Ty.w, simprocAttr, hll, hlm, hne]) | (refine a_skip ?_; try simp only [pst0, simprocAttr]) | (refine a_cond _ (by (try simp only [Ty.w, simprocAttr, hll, hlm, hne]); rfl) (fun hb => ?_) (fun hb => ?_) <;> (try simp only [hb0, decide_eq_true_eq, decide_eq_false_iff_not, simprocAttr] at hb) <;> (try (exfalso; omega))) | (refine hK _ _ ?_; clear hK; try simp only [pst0, simprocAttr]))
  refine a_loop (fun c S h' => h' = h ∧ S 0 = .imm 1 (strRows l) ∧ S 1 = .imm 1 (strRows m) ∧ ∃ k : Nat, S 5 = .sc (.int .i64 k) ∧ k ≤ l.length ∧ c = l.length - k ∧ bsEq l m = bsEq (l.drop k) (m.drop k)) l.length ?_ ?_
  ·simp only [Ty.w, simprocAttr]
   exact ⟨0, rfl, by omega, rfl, by simp⟩
  ·rintro c S h' ⟨rfl, g0, g1, k, gk, hkl, rfl, hinv⟩
   by_cases hlt : k < l.length
   ·have hd : decide ((k : Int) < (l.length : Int)) = true := by simp; omega
    have w7 : IntKind.i64.wrap ((k : Int) + 1) = k + 1 := by rw [wrap64 (by omega) (by omega)]
    obtain ⟨a, hx⟩ : ∃ a, l[k]? = some a := ⟨_, List.getElem?_eq_getElem hlt⟩
    obtain ⟨b, hy⟩ : ∃ b, m[k]? = some b := ⟨_, List.getElem?_eq_getElem (by omega)⟩
    rw [drop_of_get hx, drop_of_get hy] at hinv
    simp only [bsEq] at hinv
    have hr := strRows_get hx
    have hr2 := strRows_get hy
    cases he : (a.data.toList == b.data.toList) with
    | false =>
     simp only [bEq, he, Bool.false_and] at hinv
     repeat' (first | refine a_seq fun K hK => ?_ | ((first | refine a_regionS ?_ | refine a_drawS (by decide +kernel) ?_ | refine a_ret ?_); simp only [Ty.w, simprocAttr, g0, g1, gk, hll, hlm, hd, hr, hr2, he, w7, Bool.not_false]) | (refine a_skip ?_; try simp only [pst0, simprocAttr]) | (refine a_cond _ (by (try simp only [Ty.w, simprocAttr, g0, g1, gk, hll, hlm, hd, hr, hr2, he, w7, Bool.not_false]); rfl) (fun hb => ?_) (fun hb => ?_) <;> (try simp only [hb0, decide_eq_true_eq, decide_eq_false_iff_not, simprocAttr] at hb) <;> (try (exfalso; omega))) | (refine hK _ _ ?_; clear hK; try simp only [pst0, simprocAttr]))
     rw [hinv]
    | true =>
     simp only [bEq, he, Bool.true_and] at hinv
     repeat' (first | refine a_seq fun K hK => ?_ | (refine a_block ?_) | ((first | refine a_regionS ?_ | refine a_drawS (by decide +kernel) ?_); simp only [Ty.w, simprocAttr, g0, g1, gk, hll, hlm, hd, hr, hr2, he, w7, Bool.not_true]) | (refine a_skip ?_; try simp only [pst0, simprocAttr]) | (refine a_cond _ (by (try simp only [Ty.w, simprocAttr, g0, g1, gk, hll, hlm, hd, hr, hr2, he, w7, Bool.not_true]); rfl) (fun hb => ?_) (fun hb => ?_) <;> (try simp only [hb0, decide_eq_true_eq, decide_eq_false_iff_not, simprocAttr] at hb) <;> (try (exfalso; omega))) | (refine hK _ _ ?_; clear hK; try simp only [pst0, simprocAttr]))
     exact ⟨l.length - (k + 1), by omega, k + 1, by simp, by omega, rfl, hinv⟩
   ·have hd : decide ((k : Int) < (l.length : Int)) = false := by simp; omega
    rw [List.drop_eq_nil_of_le (by omega), List.drop_eq_nil_of_le (by omega)] at hinv
    simp only [bsEq] at hinv
    repeat' (first | refine a_seq fun K hK => ?_ | ((first | refine a_regionS ?_ | refine a_ret ?_); simp only [Ty.w, simprocAttr, g0, g1, gk, hll, hd]) | (refine a_exit ?_; try simp only [pst0, simprocAttr]) | (refine a_cond _ (by (try simp only [Ty.w, simprocAttr, g0, g1, gk, hll, hd]); rfl) (fun hb => ?_) (fun hb => ?_) <;> (try simp only [hb0, decide_eq_true_eq, decide_eq_false_iff_not, simprocAttr] at hb) <;> (try (exfalso; omega))) | ((first | refine hK _ _ ?_ | (clear hK; refine hK _ _ ?_)); clear hK; try simp only [pst0, simprocAttr]))
    rw [hinv]
theorem rparams_c {h : Heap} {l m : List Pm} (hl : l.length ≤ bigN) (hm : m.length ≤ bigN) : PCall Try.prog 60 [.imm 2 (pmRows l), .imm 2 (pmRows m)] h fun r h' => r = .sc (.bool (pmsEq l m)) ∧ h' = h := by
 unfold bigN at hl hm
 have hll := pmRows_len l
 have hlm := pmRows_len m
 refine pcall_body (ow := fun _ => false) (wf := fun _ => false) Ty.mixed Try.func60 rfl Ty.hb_60 (by rw [Try.ntmps60]; simp) ?_
 rw [Try.ntmps60, Try.results60]
 cases hne : ((l.length : Int) != m.length) with
 | true =>
  have : pmsEq l m = false := pmsEq_len (by simp at hne; omega)
  repeat' (first | refine a_seq fun K hK => ?_ | ((first | refine a_regionS ?_ | refine a_ret ?_); simp only [Ty.w, simprocAttr, hll, hlm, hne]) | (refine hK _ _ ?_; clear hK; try simp only [pst0, simprocAttr]))
  rw [this]
 | false =>
  have hlen : l.length = m.length := by simp at hne; omega
  repeat' (first | refine a_seq fun K hK => ?_ | (refine a_block ?_) | (refine a_regionS ?_; simp only [Ty.w, simprocAttr, hll, hlm, hne]) | (refine a_skip ?_; try simp only [pst0, simprocAttr]) | (refine a_cond _ (by (try simp only [Ty.w, simprocAttr, hll, hlm, hne]); rfl) (fun hb => ?_) (fun hb => ?_) <;> (try simp only [hb0, decide_eq_true_eq, decide_eq_false_iff_not, simprocAttr] at hb) <;> (try (exfalso; omega))) | (refine hK _ _ ?_; clear hK; try simp only [pst0, simprocAttr]))
  refine a_loop (fun c S h' => h' = h ∧ S 0 = .imm 2 (pmRows l) ∧ S 1 = .imm 2 (pmRows m) ∧ ∃ k : Nat, S 5 = .sc (.int .i64 k) ∧ k ≤ l.length ∧ c = l.length - k ∧ pmsEq l m = pmsEq (l.drop k) (m.drop k)) l.length ?_ ?_
  ·simp only [Ty.w, simprocAttr]
   exact ⟨0, rfl, by omega, rfl, by simp⟩
  ·rintro c S h' ⟨rfl, g0, g1, k, gk, hkl, rfl, hinv⟩
   by_cases hlt : k < l.length
   ·have hd : decide ((k : Int) < (l.length : Int)) = true := by simp; omega
    have w7 : IntKind.i64.wrap ((k : Int) + 1) = k + 1 := by rw [wrap64 (by omega) (by omega)]
    obtain ⟨a, hx⟩ : ∃ a, l[k]? = some a := ⟨_, List.getElem?_eq_getElem hlt⟩
    obtain ⟨b, hy⟩ : ∃ b, m[k]? = some b := ⟨_, List.getElem?_eq_getElem (by omega)⟩
    rw [drop_of_get hx, drop_of_get hy] at hinv
    simp only [pmsEq] at hinv
    have hr := pmRows_get hx
    have hr2 := pmRows_get hy
    cases he : pmEq a b with
    | false =>
     have he' : (a.name.data.toList == b.name.data.toList && a.type.data.toList == b.type.data.toList) = false := he
     rw [he, Bool.false_and] at hinv
     repeat' (first | refine a_seq fun K hK => ?_ | ((first | refine a_regionS ?_ | refine a_drawS (by decide +kernel) ?_ | refine a_ret ?_); simp only [Ty.w, simprocAttr, g0, g1, gk, hll, hlm, hd, hr, hr2, he', w7, Bool.not_false, Option.map_some]) | (refine a_skip ?_; try simp only [pst0, simprocAttr]) | (refine a_cond _ (by (try simp only [Ty.w, simprocAttr, g0, g1, gk, hll, hlm, hd, hr, hr2, he', w7, Bool.not_false, Option.map_some]); rfl) (fun hb => ?_) (fun hb => ?_) <;> (try simp only [hb0, decide_eq_true_eq, decide_eq_false_iff_not, simprocAttr] at hb) <;> (try (exfalso; omega))) | (refine hK _ _ ?_; clear hK; try simp only [pst0, simprocAttr]))
     rw [hinv]
    | true =>
     have he' : (a.name.data.toList == b.name.data.toList && a.type.data.toList == b.type.data.toList) = true := he
     rw [he, Bool.true_and] at hinv
     repeat' (first | refine a_seq fun K hK => ?_ | (refine a_block ?_) | ((first | refine a_regionS ?_ | refine a_drawS (by decide +kernel) ?_); simp only [Ty.w, simprocAttr, g0, g1, gk, hll, hlm, hd, hr, hr2, he', w7, Bool.not_true, Option.map_some]) | (refine a_skip ?_; try simp only [pst0, simprocAttr]) | (refine a_cond _ (by (try simp only [Ty.w, simprocAttr, g0, g1, gk, hll, hlm, hd, hr, hr2, he', w7, Bool.not_true, Option.map_some]); rfl) (fun hb => ?_) (fun hb => ?_) <;> (try simp only [hb0, decide_eq_true_eq, decide_eq_false_iff_not, simprocAttr] at hb) <;> (try (exfalso; omega))) | (refine hK _ _ ?_; clear hK; try simp only [pst0, simprocAttr]))
     exact ⟨l.length - (k + 1), by omega, k + 1, by simp, by omega, rfl, hinv⟩
   ·have hd : decide ((k : Int) < (l.length : Int)) = false := by simp; omega
    rw [List.drop_eq_nil_of_le (by omega), List.drop_eq_nil_of_le (by omega)] at hinv
    simp only [pmsEq] at hinv
    repeat' (first | refine a_seq fun K hK => ?_ | ((first | refine a_regionS ?_ | refine a_ret ?_); simp only [Ty.w, simprocAttr, g0, g1, gk, hll, hd]) | (refine a_exit ?_; try simp only [pst0, simprocAttr]) | (refine a_cond _ (by (try simp only [Ty.w, simprocAttr, g0, g1, gk, hll, hd]); rfl) (fun hb => ?_) (fun hb => ?_) <;> (try simp only [hb0, decide_eq_true_eq, decide_eq_false_iff_not, simprocAttr] at hb) <;> (try (exfalso; omega))) | ((first | refine hK _ _ ?_ | (clear hK; refine hK _ _ ?_)); clear hK; try simp only [pst0, simprocAttr]))
    rw [hinv]
end Go.Proofs.Ytjlkapgpjamnkaa
namespace Go.AM
mutual
def Sx.count : Sx → Int
 | .mk _ _ _ _ _ kids => Sx.counts 1 kids
def Sx.counts (n : Int) : List Sx → Int
 | [] => n
 | k :: ks => Sx.counts (IntKind.i64.wrap (n + k.count)) ks
end
theorem Sx.counts_append : ∀ (l m : List Sx) (n : Int), Sx.counts n (l ++ m) = Sx.counts (Sx.counts n l) m
 | [], m, n => by simp [Sx.counts]
 | k :: l, m, n => by simp only [List.cons_append, Sx.counts]; exact Sx.counts_append l m _
theorem Sx.counts_take {l : List Sx} {i : Nat} {k : Sx} (n : Int) (h : l[i]? = some k) : Sx.counts n (l.take (i + 1)) = IntKind.i64.wrap (Sx.counts n (l.take i) + k.count) := by
 rw [List.take_add_one, h, Sx.counts_append]; try rfl
mutual
def Sx.depth : Sx → Nat
 | .mk kind _ _ _ _ kids => if kind = 3 then Sx.depths 0 kids + 1 else Sx.depths 0 kids
def Sx.depths (n : Nat) : List Sx → Nat
 | [] => n
 | k :: ks => Sx.depths (max n k.depth) ks
end
theorem Sx.depths_append : ∀ (l m : List Sx) (n : Nat), Sx.depths n (l ++ m) = Sx.depths (Sx.depths n l) m
 | [], m, n => by simp [Sx.depths]
 | k :: l, m, n => by simp only [List.cons_append, Sx.depths]; exact Sx.depths_append l m _
theorem Sx.depths_take {l : List Sx} {i : Nat} {k : Sx} (n : Nat) (h : l[i]? = some k) : Sx.depths n (l.take (i + 1)) = max (Sx.depths n (l.take i)) k.depth := by
 rw [List.take_add_one, h, Sx.depths_append]; try rfl
theorem Sx.depths_le : ∀ (l : List Sx) (n : Nat), n ≤ Sx.depths n l
 | [], n => Nat.le_refl _
 | k :: l, n => by simp only [Sx.depths]; exact Nat.le_trans (Nat.le_max_left _ _) (Sx.depths_le l _)
theorem Sx.depths_mem : ∀ {l : List Sx} {k : Sx} (n : Nat), k ∈ l → k.depth ≤ Sx.depths n l
 | k' :: l, k, n, h => by
  simp only [Sx.depths]
  rcases List.mem_cons.1 h with rfl | h
  ·exact Nat.le_trans (Nat.le_max_right _ _) (Sx.depths_le l _)
  ·exact Sx.depths_mem _ h
end Go.AM
namespace Go.Proofs.Ytjlkapgpjamnkaa
open Go.AM
set_option maxHeartbeats 2000000
set_option maxRecDepth 20000
mutual
def shapedS : Sx → Bool
 | .mk kind value _ _ text kids =>
  if kind = 1 then (value == 0) && kids.isEmpty && wordR text
  else if kind = 2 then (text.data.toList == (#[] : Array UInt8).toList) && kids.isEmpty && decide (value ≥ -1099511627776) && decide (value ≤ 1099511627776)
  else if kind = 3 then shapedSs kids && ((text.data.toList == (#[] : Array UInt8).toList) && (value == 0))
  else false
def shapedSs : List Sx → Bool
 | [] => true
 | k :: ks => shapedS k && shapedSs ks
end
theorem emp_lenS (l : List Sx) : ((l.length : Int) == 0) = l.isEmpty := by cases l <;> simp; omega
theorem rcount_c : ∀ (e : Sx), e.ok → ∀ h : Heap, PCall Try.prog 32 [.agg e.cells] h fun r h' => r = .sc (.int .i64 e.count) ∧ h' = h := by
 refine Sx.ind ?_
 intro kind value line col text kids ih hok h
 simp only [Sx.ok] at hok
 obtain ⟨_, _, _, hk, hks⟩ := hok
 rw [Sx.oks_iff] at hks
 have hlen := Sx.rows_len kids
 simp only [Sx.cells, Sx.count]
 refine pcall_body (ow := fun _ => false) (wf := fun _ => false) Ty.mixed Try.func32 rfl Ty.hb_32 (by rw [Try.ntmps32]; simp) ?_
 rw [Try.ntmps32, Try.results32]
 repeat' (first | refine a_seq fun K hK => ?_ | (refine a_block ?_) | (refine a_regionS ?_; simp only [Ty.w, simprocAttr, hlen]) | (refine hK _ _ ?_; clear hK; try simp only [pst0, simprocAttr]))
 refine a_loop (fun m S h' => h' = h ∧ S 1 = .cptr (Sx.mk kind value line col text kids).cells ∧ ∃ k : Nat, S 4 = .sc (.int .i64 k) ∧ k ≤ kids.length ∧ m = kids.length - k ∧ S 3 = .sc (.int .i64 (Sx.counts 1 (kids.take k)))) kids.length ?_ ?_
 ·simp only [Ty.w, simprocAttr]
  exact ⟨rfl, 0, rfl, by omega, rfl, by simp [Sx.counts]⟩
 ·rintro m S h' ⟨rfl, g1, k, g4, hkl, rfl, g3⟩
  simp only [Sx.cells] at g1
  by_cases hlt : k < kids.length
  ·have hd : decide ((k : Int) < (kids.length : Int)) = true := by simp; omega
   have w7 : IntKind.i64.wrap ((k : Int) + 1) = k + 1 := by unfold bigN at hk; rw [wrap64 (by omega) (by omega)]
   obtain ⟨e, hx⟩ : ∃ e, kids[k]? = some e := ⟨_, List.getElem?_eq_getElem hlt⟩
   have hmem := List.mem_of_getElem? hx
   have hc := ih e hmem (hks e hmem)
   have hsz := Sx.counts_take 1 hx
   have hr := Sx.rows_get hx
   obtain ⟨ki, va, li, co, te, ks⟩ := e
   simp only [Sx.cells] at hr hc
   repeat' (first | refine a_seq fun K hK => ?_ | (refine a_block ?_) | ((first | refine a_regionS ?_ | refine a_region (fun K hK => ?_)); simp only [Ty.w, simprocAttr, g1, g3, g4, hlen, hd, hr, w7]) | (refine a_skip ?_; try simp only [pst0, simprocAttr]) | (refine a_cond _ (by (try simp only [Ty.w, simprocAttr, g1, g3, g4, hlen, hd, hr, w7]); rfl) (fun hb => ?_) (fun hb => ?_) <;> (try simp only [hb0, decide_eq_true_eq, decide_eq_false_iff_not, simprocAttr] at hb) <;> (try (exfalso; omega))) | (refine hK _ _ ?_; clear hK; try simp only [pst0, simprocAttr]))
   refine owp_useQ (hc _) (by (try simp only [Ty.w, simprocAttr, g1, g3, g4, hlen, hd, hr]); try rfl) ?_; simp only [Ty.w, simprocAttr, g1, g3, g4, hlen, hd, hr]
   repeat' (first | (refine a_regionS ?_; simp only [Ty.w, simprocAttr, g1, g3, g4, w7]) | (refine hK _ _ ?_; clear hK; try simp only [pst0, simprocAttr]))
   exact ⟨kids.length - (k + 1), by omega, rfl, k + 1, by simp, by omega, rfl, by rw [hsz]⟩
  ·have hd : decide ((k : Int) < (kids.length : Int)) = false := by simp; omega
   have hke : k = kids.length := by omega
   subst hke
   rw [List.take_length] at g3
   repeat' (first | refine a_seq fun K hK => ?_ | ((first | refine a_regionS ?_ | refine a_ret ?_); simp only [Ty.w, simprocAttr, g1, g3, g4, hlen, hd]) | (refine a_exit ?_; try simp only [pst0, simprocAttr]) | (refine a_cond _ (by (try simp only [Ty.w, simprocAttr, g1, g3, g4, hlen, hd]); rfl) (fun hb => ?_) (fun hb => ?_) <;> (try simp only [hb0, decide_eq_true_eq, decide_eq_false_iff_not, simprocAttr] at hb) <;> (try (exfalso; omega))) | ((first | refine hK _ _ ?_ | (clear hK; refine hK _ _ ?_)); clear hK; try simp only [pst0, simprocAttr]))
theorem rdepth_c : ∀ (e : Sx), e.ok → e.depth ≤ bigN → ∀ h : Heap, PCall Try.prog 98 [.agg e.cells] h fun r h' => r = .sc (.int .i64 e.depth) ∧ h' = h := by
 refine Sx.ind ?_
 intro kind value line col text kids ih hok hdp h
 simp only [Sx.ok] at hok
 obtain ⟨_, _, _, hk, hks⟩ := hok
 rw [Sx.oks_iff] at hks
 have hlen := Sx.rows_len kids
 simp only [Sx.depth] at hdp
 have hdb : Sx.depths 0 kids ≤ bigN := by split at hdp <;> omega
 simp only [Sx.cells, Sx.depth]
 refine pcall_body (ow := fun _ => false) (wf := fun _ => false) Ty.mixed Try.func98 rfl Ty.hb_98 (by rw [Try.ntmps98]; simp) ?_
 rw [Try.ntmps98, Try.results98]
 repeat' (first | refine a_seq fun K hK => ?_ | (refine a_block ?_) | (refine a_regionS ?_; simp only [Ty.w, simprocAttr, hlen]) | (refine hK _ _ ?_; clear hK; try simp only [pst0, simprocAttr]))
 refine a_loop (fun m S h' => h' = h ∧ S 1 = .cptr (Sx.mk kind value line col text kids).cells ∧ ∃ k : Nat, S 4 = .sc (.int .i64 k) ∧ k ≤ kids.length ∧ m = kids.length - k ∧ S 3 = .sc (.int .i64 (Sx.depths 0 (kids.take k) : Nat))) kids.length ?_ ?_
 ·simp only [Ty.w, simprocAttr]
  exact ⟨rfl, 0, rfl, by omega, rfl, by simp [Sx.depths]⟩
 ·rintro m S h' ⟨rfl, g1, k, g4, hkl, rfl, g3⟩
  simp only [Sx.cells] at g1
  by_cases hlt : k < kids.length
  ·have hd : decide ((k : Int) < (kids.length : Int)) = true := by simp; omega
   have w7 : IntKind.i64.wrap ((k : Int) + 1) = k + 1 := by unfold bigN at hk; rw [wrap64 (by omega) (by omega)]
   obtain ⟨e, hx⟩ : ∃ e, kids[k]? = some e := ⟨_, List.getElem?_eq_getElem hlt⟩
   have hmem := List.mem_of_getElem? hx
   have hc := ih e hmem (hks e hmem) (Nat.le_trans (Sx.depths_mem 0 hmem) hdb)
   have hsz := Sx.depths_take 0 hx
   have hr := Sx.rows_get hx
   generalize Sx.depths 0 (kids.take k) = D at g3 hsz
   generalize e.depth = E at hc hsz
   obtain ⟨ki, va, li, co, te, ks⟩ := e
   simp only [Sx.cells] at hr hc
   cases q : decide ((E : Int) > (D : Int)) with
   | true =>
    have hm : max D E = E := by have := of_decide_eq_true q; omega
    repeat' (first | refine a_seq fun K hK => ?_ | (refine a_regionS ?_; simp only [Ty.w, simprocAttr, g1, g3, g4, hlen, hd, hr, w7]) | (refine a_skip ?_; try simp only [pst0, simprocAttr]) | (refine a_cond _ (by (try simp only [Ty.w, simprocAttr, g1, g3, g4, hlen, hd, hr, w7]); rfl) (fun hb => ?_) (fun hb => ?_) <;> (try simp only [hb0, decide_eq_true_eq, decide_eq_false_iff_not, simprocAttr] at hb) <;> (try (exfalso; omega))) | (refine hK _ _ ?_; clear hK; try simp only [pst0, simprocAttr]))
    refine owp_useQ (hc _) (by (try simp only [Ty.w, simprocAttr, g1, g3, g4, hlen, hd, hr, q]); try rfl) ?_; simp only [Ty.w, simprocAttr, g1, g3, g4, hlen, hd, hr, q]
    repeat' (first | refine a_seq fun K hK => ?_ | (refine a_block ?_) | ((first | refine a_regionS ?_ | refine a_region (fun K hK => ?_)); simp only [Ty.w, simprocAttr, g1, g3, g4, w7, q]) | (refine hK _ _ ?_; clear hK; try simp only [pst0, simprocAttr]))
    exact ⟨kids.length - (k + 1), by omega, rfl, k + 1, by simp, by omega, rfl, by rw [hsz, hm]⟩
   | false =>
    have hm : max D E = D := by have := of_decide_eq_false q; omega
    repeat' (first | refine a_seq fun K hK => ?_ | (refine a_regionS ?_; simp only [Ty.w, simprocAttr, g1, g3, g4, hlen, hd, hr, w7]) | (refine a_skip ?_; try simp only [pst0, simprocAttr]) | (refine a_cond _ (by (try simp only [Ty.w, simprocAttr, g1, g3, g4, hlen, hd, hr, w7]); rfl) (fun hb => ?_) (fun hb => ?_) <;> (try simp only [hb0, decide_eq_true_eq, decide_eq_false_iff_not, simprocAttr] at hb) <;> (try (exfalso; omega))) | (refine hK _ _ ?_; clear hK; try simp only [pst0, simprocAttr]))
    refine owp_useQ (hc _) (by (try simp only [Ty.w, simprocAttr, g1, g3, g4, hlen, hd, hr, q]); try rfl) ?_; simp only [Ty.w, simprocAttr, g1, g3, g4, hlen, hd, hr, q]
    repeat' (first | refine a_seq fun K hK => ?_ | (refine a_block ?_) | (refine a_regionS ?_; simp only [Ty.w, simprocAttr, g1, g3, g4, w7, q]) | (refine a_skip ?_; try simp only [pst0, simprocAttr]) | (refine hK _ _ ?_; clear hK; try simp only [pst0, simprocAttr]))
    exact ⟨kids.length - (k + 1), by omega, rfl, k + 1, by simp, by omega, rfl, by rw [hsz, hm]⟩
  ·have hd : decide ((k : Int) < (kids.length : Int)) = false := by simp; omega
   have hke : k = kids.length := by omega
   subst hke
   rw [List.take_length] at g3
   generalize hD : Sx.depths 0 kids = D at g3 hdb
   have wd : IntKind.i64.wrap ((D : Int) + 1) = (D : Int) + 1 := by unfold bigN at hdb; rw [wrap64 (by omega) (by omega)]
   cases q : (kind == 3) with
   | true =>
    have hk3 : kind = 3 := by simpa using q
    repeat' (first | refine a_seq fun K hK => ?_ | ((first | refine a_regionS ?_ | refine a_ret ?_); simp only [Ty.w, simprocAttr, g1, g3, g4, hlen, hd, q, wd]) | (refine a_exit ?_; try simp only [pst0, simprocAttr]) | (refine a_cond _ (by (try simp only [Ty.w, simprocAttr, g1, g3, g4, hlen, hd, q, wd]); rfl) (fun hb => ?_) (fun hb => ?_) <;> (try simp only [hb0, decide_eq_true_eq, decide_eq_false_iff_not, simprocAttr] at hb) <;> (try (exfalso; omega))) | ((first | refine hK _ _ ?_ | (clear hK; refine hK _ _ ?_)); clear hK; try simp only [pst0, simprocAttr]))
    rw [if_pos hk3, hD]; simp
   | false =>
    have hk3 : ¬ kind = 3 := by simpa using q
    repeat' (first | refine a_seq fun K hK => ?_ | ((first | refine a_regionS ?_ | refine a_ret ?_); simp only [Ty.w, simprocAttr, g1, g3, g4, hlen, hd, q, wd]) | ((first | refine a_skip ?_ | refine a_exit ?_); try simp only [pst0, simprocAttr]) | (refine a_cond _ (by (try simp only [Ty.w, simprocAttr, g1, g3, g4, hlen, hd, q, wd]); rfl) (fun hb => ?_) (fun hb => ?_) <;> (try simp only [hb0, decide_eq_true_eq, decide_eq_false_iff_not, simprocAttr] at hb) <;> (try (exfalso; omega))) | ((first | refine hK _ _ ?_ | (clear hK; refine hK _ _ ?_)); clear hK; try simp only [pst0, simprocAttr]))
    rw [if_neg hk3, hD]
theorem rshaped_c : ∀ (e : Sx), e.ok → ∀ h : Heap, PCall Try.prog 97 [.agg e.cells] h fun r h' => r = .sc (.bool (shapedS e)) ∧ h' = h := by
 refine Sx.ind ?_
 intro kind value line col text kids ih hok h
 simp only [Sx.ok] at hok
 obtain ⟨_, _, ht, hk, hks⟩ := hok
 rw [Sx.oks_iff] at hks
 have hlen := Sx.rows_len kids
 have e1 := emp_lenS kids
 have hw := fun h : Heap => rword_c (h := h) ht
 generalize hF : shapedS (.mk kind value line col text kids) = F
 unfold shapedS at hF
 rw [← e1] at hF
 clear e1
 simp only [Sx.cells]
 cases k1 : (kind == 1) with
 | true =>
  rw [if_pos (by simpa using k1)] at hF
  cases q1 : (value == 0) with
  | false =>
   rw [q1] at hF
   simp only [Bool.false_and] at hF
   subst hF
   refine pcall_body (ow := fun _ => false) (wf := fun _ => false) Ty.mixed Try.func97 rfl Ty.hb_97 (by rw [Try.ntmps97]; simp) ?_
   rw [Try.ntmps97, Try.results97]
   repeat' (first | refine a_seq fun K hK => ?_ | ((first | refine a_regionS ?_ | refine a_ret ?_); simp only [Ty.w, simprocAttr, k1, q1, hlen]) | (refine hK _ _ ?_; clear hK; try simp only [pst0, simprocAttr]))
  | true =>
   rw [q1] at hF
   cases q2 : ((kids.length : Int) == 0) with
   | false =>
    rw [q2] at hF
    simp only [Bool.false_and, Bool.and_false] at hF
    subst hF
    refine pcall_body (ow := fun _ => false) (wf := fun _ => false) Ty.mixed Try.func97 rfl Ty.hb_97 (by rw [Try.ntmps97]; simp) ?_
    rw [Try.ntmps97, Try.results97]
    repeat' (first | refine a_seq fun K hK => ?_ | ((first | refine a_regionS ?_ | refine a_ret ?_); simp only [Ty.w, simprocAttr, k1, q1, q2, hlen]) | (refine hK _ _ ?_; clear hK; try simp only [pst0, simprocAttr]))
   | true =>
    rw [q2] at hF
    simp only [Bool.true_and] at hF
    subst hF
    refine pcall_body (ow := fun _ => false) (wf := fun _ => false) Ty.mixed Try.func97 rfl Ty.hb_97 (by rw [Try.ntmps97]; simp) ?_
    rw [Try.ntmps97, Try.results97]
    repeat' (first | refine a_seq fun K hK => ?_ | (refine a_regionS ?_; simp only [Ty.w, simprocAttr, k1, q1, q2, hlen]) | (refine hK _ _ ?_; clear hK; try simp only [pst0, simprocAttr]))
    refine owp_useQ (hw _) (by (try simp only [Ty.w, simprocAttr, k1, q1, q2, hlen]); try rfl) ?_; simp only [Ty.w, simprocAttr, k1, q1, q2, hlen]
    repeat' (first | (refine a_ret ?_; simp only [Ty.w, simprocAttr, k1, q1, q2, hlen]) | (refine hK _ _ ?_; clear hK; try simp only [pst0, simprocAttr]))
 | false =>
  rw [if_neg (by simpa using k1)] at hF
  cases k2 : (kind == 2) with
  | true =>
   rw [if_pos (by simpa using k2)] at hF
   cases q1 : (text.data.toList == (#[] : Array UInt8).toList) with
   | false =>
    rw [q1] at hF
    simp only [Bool.false_and] at hF
    subst hF
    refine pcall_body (ow := fun _ => false) (wf := fun _ => false) Ty.mixed Try.func97 rfl Ty.hb_97 (by rw [Try.ntmps97]; simp) ?_
    rw [Try.ntmps97, Try.results97]
    repeat' (first | refine a_seq fun K hK => ?_ | ((first | refine a_regionS ?_ | refine a_ret ?_); simp only [Ty.w, simprocAttr, k1, k2, q1, hlen]) | (refine hK _ _ ?_; clear hK; try simp only [pst0, simprocAttr]))
   | true =>
    rw [q1] at hF
    cases q2 : ((kids.length : Int) == 0) with
    | false =>
     rw [q2] at hF
     simp only [Bool.false_and, Bool.and_false] at hF
     subst hF
     refine pcall_body (ow := fun _ => false) (wf := fun _ => false) Ty.mixed Try.func97 rfl Ty.hb_97 (by rw [Try.ntmps97]; simp) ?_
     rw [Try.ntmps97, Try.results97]
     repeat' (first | refine a_seq fun K hK => ?_ | ((first | refine a_regionS ?_ | refine a_ret ?_); simp only [Ty.w, simprocAttr, k1, k2, q1, q2, hlen]) | (refine hK _ _ ?_; clear hK; try simp only [pst0, simprocAttr]))
    | true =>
     rw [q2] at hF
     cases q3 : decide (value ≥ -1099511627776) with
     | false =>
      rw [q3] at hF
      simp only [Bool.false_and, Bool.and_false] at hF
      subst hF
      refine pcall_body (ow := fun _ => false) (wf := fun _ => false) Ty.mixed Try.func97 rfl Ty.hb_97 (by rw [Try.ntmps97]; simp) ?_
      rw [Try.ntmps97, Try.results97]
      repeat' (first | refine a_seq fun K hK => ?_ | ((first | refine a_regionS ?_ | refine a_ret ?_); simp only [Ty.w, simprocAttr, k1, k2, q1, q2, q3, hlen]) | (refine hK _ _ ?_; clear hK; try simp only [pst0, simprocAttr]))
     | true =>
      rw [q3] at hF
      simp only [Bool.true_and] at hF
      subst hF
      refine pcall_body (ow := fun _ => false) (wf := fun _ => false) Ty.mixed Try.func97 rfl Ty.hb_97 (by rw [Try.ntmps97]; simp) ?_
      rw [Try.ntmps97, Try.results97]
      repeat' (first | refine a_seq fun K hK => ?_ | ((first | refine a_regionS ?_ | refine a_ret ?_); simp only [Ty.w, simprocAttr, k1, k2, q1, q2, q3, hlen]) | (refine hK _ _ ?_; clear hK; try simp only [pst0, simprocAttr]))
  | false =>
   rw [if_neg (by simpa using k2)] at hF
   cases k3 : (kind == 3) with
   | false =>
    rw [if_neg (by simpa using k3)] at hF
    subst hF
    refine pcall_body (ow := fun _ => false) (wf := fun _ => false) Ty.mixed Try.func97 rfl Ty.hb_97 (by rw [Try.ntmps97]; simp) ?_
    rw [Try.ntmps97, Try.results97]
    repeat' (first | refine a_seq fun K hK => ?_ | (refine a_block ?_) | ((first | refine a_regionS ?_ | refine a_ret ?_); simp only [Ty.w, simprocAttr, k1, k2, k3]) | (refine a_skip ?_; try simp only [pst0, simprocAttr]) | (refine hK _ _ ?_; clear hK; try simp only [pst0, simprocAttr]))
   | true =>
    rw [if_pos (by simpa using k3)] at hF
    refine pcall_body (ow := fun _ => false) (wf := fun _ => false) Ty.mixed Try.func97 rfl Ty.hb_97 (by rw [Try.ntmps97]; simp) ?_
    rw [Try.ntmps97, Try.results97]
    repeat' (first | refine a_seq fun K hK => ?_ | (refine a_block ?_) | (refine a_regionS ?_; simp only [Ty.w, simprocAttr, k1, k2, k3, hlen]) | (refine hK _ _ ?_; clear hK; try simp only [pst0, simprocAttr]))
    refine a_loop (fun m S h' => h' = h ∧ S 1 = .cptr (Sx.mk kind value line col text kids).cells ∧ ∃ k : Nat, S 3 = .sc (.int .i64 k) ∧ k ≤ kids.length ∧ m = kids.length - k ∧ shapedSs kids = shapedSs (kids.drop k)) kids.length ?_ ?_
    ·simp only [Ty.w, simprocAttr]
     exact ⟨rfl, 0, rfl, by omega, rfl, by simp⟩
    ·rintro m S h' ⟨rfl, g1, k, g3, hkl, rfl, hinv⟩
     simp only [Sx.cells] at g1
     by_cases hlt : k < kids.length
     ·have hd : decide ((k : Int) < (kids.length : Int)) = true := by simp; omega
      have w7 : IntKind.i64.wrap ((k : Int) + 1) = k + 1 := by unfold bigN at hk; rw [wrap64 (by omega) (by omega)]
      obtain ⟨e, hx⟩ : ∃ e, kids[k]? = some e := ⟨_, List.getElem?_eq_getElem hlt⟩
      have hmem := List.mem_of_getElem? hx
      have hc := ih e hmem (hks e hmem)
      rw [drop_of_get hx] at hinv
      simp only [shapedSs] at hinv
      have hr := Sx.rows_get hx
      generalize shapedS e = b at hc hinv
      obtain ⟨ki, va, li, co, te, ks⟩ := e
      simp only [Sx.cells] at hr hc
      cases b with
      | false =>
       rw [hinv] at hF
       simp only [Bool.false_and] at hF
       subst hF
       repeat' (first | refine a_seq fun K hK => ?_ | (refine a_regionS ?_; simp only [Ty.w, simprocAttr, g1, g3, hlen, hd, hr, w7]) | (refine a_skip ?_; try simp only [pst0, simprocAttr]) | (refine a_cond _ (by (try simp only [Ty.w, simprocAttr, g1, g3, hlen, hd, hr, w7]); rfl) (fun hb => ?_) (fun hb => ?_) <;> (try simp only [hb0, decide_eq_true_eq, decide_eq_false_iff_not, simprocAttr] at hb) <;> (try (exfalso; omega))) | (refine hK _ _ ?_; clear hK; try simp only [pst0, simprocAttr]))
       refine owp_useQ (hc _) (by (try simp only [Ty.w, simprocAttr, g1, g3, hlen, hd, hr, Bool.not_false]); try rfl) ?_; simp only [Ty.w, simprocAttr, g1, g3, hlen, hd, hr, Bool.not_false]
       repeat' (first | refine a_seq fun K hK => ?_ | ((first | refine a_regionS ?_ | refine a_ret ?_); simp only [Ty.w, simprocAttr, g1, g3, w7, Bool.not_false]) | (refine hK _ _ ?_; clear hK; try simp only [pst0, simprocAttr]))
      | true =>
       rw [Bool.true_and] at hinv
       repeat' (first | refine a_seq fun K hK => ?_ | (refine a_regionS ?_; simp only [Ty.w, simprocAttr, g1, g3, hlen, hd, hr, w7]) | (refine a_skip ?_; try simp only [pst0, simprocAttr]) | (refine a_cond _ (by (try simp only [Ty.w, simprocAttr, g1, g3, hlen, hd, hr, w7]); rfl) (fun hb => ?_) (fun hb => ?_) <;> (try simp only [hb0, decide_eq_true_eq, decide_eq_false_iff_not, simprocAttr] at hb) <;> (try (exfalso; omega))) | (refine hK _ _ ?_; clear hK; try simp only [pst0, simprocAttr]))
       refine owp_useQ (hc _) (by (try simp only [Ty.w, simprocAttr, g1, g3, hlen, hd, hr, Bool.not_true]); try rfl) ?_; simp only [Ty.w, simprocAttr, g1, g3, hlen, hd, hr, Bool.not_true]
       repeat' (first | (refine a_block ?_) | (refine a_regionS ?_; simp only [Ty.w, simprocAttr, g1, g3, w7, Bool.not_true]) | (refine a_skip ?_; try simp only [pst0, simprocAttr]) | (refine hK _ _ ?_; clear hK; try simp only [pst0, simprocAttr]))
       exact ⟨kids.length - (k + 1), by omega, rfl, k + 1, by simp, by omega, rfl, hinv⟩
     ·have hd : decide ((k : Int) < (kids.length : Int)) = false := by simp; omega
      rw [List.drop_eq_nil_of_le (by omega)] at hinv
      rw [hinv] at hF
      simp only [shapedSs, Bool.true_and] at hF
      cases q1 : (text.data.toList == (#[] : Array UInt8).toList) with
      | false =>
       rw [q1] at hF
       simp only [Bool.false_and] at hF
       subst hF
       repeat' (first | refine a_seq fun K hK => ?_ | ((first | refine a_regionS ?_ | refine a_ret ?_); simp only [Ty.w, simprocAttr, g1, g3, hlen, hd, q1]) | (refine a_exit ?_; try simp only [pst0, simprocAttr]) | (refine a_cond _ (by (try simp only [Ty.w, simprocAttr, g1, g3, hlen, hd, q1]); rfl) (fun hb => ?_) (fun hb => ?_) <;> (try simp only [hb0, decide_eq_true_eq, decide_eq_false_iff_not, simprocAttr] at hb) <;> (try (exfalso; omega))) | ((first | refine hK _ _ ?_ | (clear hK; refine hK _ _ ?_)); clear hK; try simp only [pst0, simprocAttr]))
      | true =>
       rw [q1] at hF
       simp only [Bool.true_and] at hF
       subst hF
       repeat' (first | refine a_seq fun K hK => ?_ | ((first | refine a_regionS ?_ | refine a_ret ?_); simp only [Ty.w, simprocAttr, g1, g3, hlen, hd, q1]) | (refine a_exit ?_; try simp only [pst0, simprocAttr]) | (refine a_cond _ (by (try simp only [Ty.w, simprocAttr, g1, g3, hlen, hd, q1]); rfl) (fun hb => ?_) (fun hb => ?_) <;> (try simp only [hb0, decide_eq_true_eq, decide_eq_false_iff_not, simprocAttr] at hb) <;> (try (exfalso; omega))) | ((first | refine hK _ _ ?_ | (clear hK; refine hK _ _ ?_)); clear hK; try simp only [pst0, simprocAttr]))
theorem rvalid_c {x : Sx} (hok : x.ok) (hd : x.depth ≤ bigN) (h : Heap) : PCall Try.prog 58 [.agg x.cells] h fun r h' => r = .sc (.bool (shapedS x && decide ((x.depth : Int) ≤ 32) && decide (x.count ≤ 4096))) ∧ h' = h := by
 have c1 := rshaped_c x hok
 have c2 := rdepth_c x hok hd
 have c3 := rcount_c x hok
 generalize shapedS x = b at c1 ⊢
 generalize x.depth = D at c2 ⊢
 generalize x.count = N at c3 ⊢
 obtain ⟨ki, va, li, co, te, ks⟩ := x
 simp only [Sx.cells] at c1 c2 c3 ⊢
 cases b with
 | false =>
  refine pcall_body (ow := fun _ => false) (wf := fun _ => false) Ty.mixed Try.func58 rfl Ty.hb_58 (by rw [Try.ntmps58]; simp) ?_
  rw [Try.ntmps58, Try.results58]
  repeat' (first | refine a_seq fun K hK => ?_ | (refine a_regionS ?_; simp only [Ty.w, simprocAttr]) | (refine hK _ _ ?_; clear hK; try simp only [pst0, simprocAttr]))
  refine owp_useQ (c1 _) (by (try simp only [Ty.w, simprocAttr, ]); try rfl) ?_; simp only [Ty.w, simprocAttr, ]
  repeat' (first | (refine a_ret ?_; simp only [Ty.w, simprocAttr]) | (refine hK _ _ ?_; clear hK; try simp only [pst0, simprocAttr]))
  all_goals rfl
 | true =>
  cases q : decide ((D : Int) ≤ 32) with
  | false =>
   refine pcall_body (ow := fun _ => false) (wf := fun _ => false) Ty.mixed Try.func58 rfl Ty.hb_58 (by rw [Try.ntmps58]; simp) ?_
   rw [Try.ntmps58, Try.results58]
   repeat' (first | refine a_seq fun K hK => ?_ | (refine a_regionS ?_; simp only [Ty.w, simprocAttr]) | (refine hK _ _ ?_; clear hK; try simp only [pst0, simprocAttr]))
   refine owp_useQ (c1 _) (by (try simp only [Ty.w, simprocAttr, ]); try rfl) ?_; simp only [Ty.w, simprocAttr, ]
   skip
   refine owp_useQ (c2 _) (by (try simp only [Ty.w, simprocAttr, q]); try rfl) ?_; simp only [Ty.w, simprocAttr, q]
   repeat' (first | (refine a_ret ?_; simp only [Ty.w, simprocAttr, q]) | (refine hK _ _ ?_; clear hK; try simp only [pst0, simprocAttr]))
   all_goals rfl
  | true =>
   refine pcall_body (ow := fun _ => false) (wf := fun _ => false) Ty.mixed Try.func58 rfl Ty.hb_58 (by rw [Try.ntmps58]; simp) ?_
   rw [Try.ntmps58, Try.results58]
   repeat' (first | refine a_seq fun K hK => ?_ | (refine a_regionS ?_; simp only [Ty.w, simprocAttr]) | (refine hK _ _ ?_; clear hK; try simp only [pst0, simprocAttr]))
   refine owp_useQ (c1 _) (by (try simp only [Ty.w, simprocAttr, ]); try rfl) ?_; simp only [Ty.w, simprocAttr, ]
   skip
   refine owp_useQ (c2 _) (by (try simp only [Ty.w, simprocAttr, q]); try rfl) ?_; simp only [Ty.w, simprocAttr, q]
   skip
   refine owp_useQ (c3 _) (by (try simp only [Ty.w, simprocAttr, q]); try rfl) ?_; simp only [Ty.w, simprocAttr, q]
   repeat' (first | (refine a_ret ?_; simp only [Ty.w, simprocAttr, q]) | (refine hK _ _ ?_; clear hK; try simp only [pst0, simprocAttr]))
   all_goals (simp only [Bool.true_and])
end Go.Proofs.Ytjlkapgpjamnkaa
namespace Go.AM
def Tl (h : Heap) (id0 z : Nat) (p : PV) (rows : List (List PV)) : Prop :=
  (rows = [] ∧ (p = .sc (.slice none 0 0) ∨ p = .emp)) ∨ ∃ id, id0 ≤ id ∧ id < h.next ∧ p = .own id 0 rows.length ∧ h.obj id = some (.arr z rows)
variable {h : Heap} {id0 z : Nat} {p : PV} {rows : List (List PV)}
theorem Tl.nil : Tl h id0 z (.sc (.slice none 0 0)) [] := .inl ⟨rfl, .inl rfl⟩
theorem Tl.sl (t : Tl h id0 z p rows) : Sl h z p rows := by
  rcases t with ⟨rfl, rfl | rfl⟩ | ⟨id, _, _, rfl, ho⟩
  · exact Sl.nil
  · exact Sl.emp
  · exact Sl.own0 ho
theorem Tl.tail (t : Tl h id0 z p rows) : ∃ H, isTail h p = some (H, rows) ∧ zOk h z p = true ∧ H.next = h.next ∧ (∀ j, j < id0 → H.obj j = h.obj j) ∧ (∀ h0, Keep h0 h → h0.next ≤ id0 → Keep h0 H) := by
  rcases t with ⟨rfl, rfl | rfl⟩ | ⟨id, h1, h2, rfl, ho⟩
  · exact ⟨h, rfl, rfl, rfl, fun _ _ => rfl, fun _ hk _ => hk⟩
  · exact ⟨h, rfl, rfl, rfl, fun _ _ => rfl, fun _ hk _ => hk⟩
  · refine ⟨h.kill id, by simp [isTail, ho], by simp [zOk, ho], rfl, fun j hj => ?_, fun h0 hk hn => keep_kill (by omega) hk⟩
    rw [kill_obj, if_neg (by omega)]
theorem Tl.grow {H : Heap} {len : Nat} (hn : id0 ≤ H.next) (hl : len = rows.length) : Tl (H.new (.arr z rows)) id0 z (.own H.next 0 len) rows :=
  .inr ⟨H.next, hn, Nat.lt_succ_self _, by rw [hl], by rw [new_obj, if_pos rfl]⟩
theorem Tl.up {h' : Heap} (t : Tl h id0 z p rows) (hn : h.next ≤ h'.next) (ho : ∀ j, id0 ≤ j → j < h.next → h'.obj j = h.obj j) : Tl h' id0 z p rows := by
  rcases t with ht | ⟨id, h1, h2, rfl, h3⟩
  · exact .inl ht
  · exact .inr ⟨id, h1, by omega, rfl, by rw [ho id h1 h2]; exact h3⟩
theorem FrzL_sc {n : Nat} : (l : List PV) → (∀ p ∈ l, ∃ v, p = .sc v) → FrzL n h l l
  | [], _ => by simp only [FrzL]
  | p :: l, hp => by
    obtain ⟨v, hv⟩ := hp p (by simp)
    simp only [FrzL]
    exact ⟨by rw [hv]; simp only [FrzTo], FrzL_sc l (fun q hq => hp q (by simp [hq]))⟩
theorem FrzR_sc {n : Nat} : (l : List (List PV)) → (∀ r ∈ l, ∀ p ∈ r, ∃ v, p = .sc v) → FrzR n h l l
  | [], _ => by simp only [FrzR]
  | r :: l, hp => by
    simp only [FrzR]
    exact ⟨FrzL_sc r (hp r (by simp)), FrzR_sc l (fun q hq => hp q (by simp [hq]))⟩
theorem Tl.frz (t : Tl h id0 z p rows) (hs : ∀ r ∈ rows, ∀ p ∈ r, ∃ v, p = .sc v) : FrzTo id0 h (.imm z rows) p := by
  simp only [FrzTo]
  rcases t with ⟨h1, h2⟩ | ⟨id, h1, h2, rfl, ho⟩
  · exact .inr (.inl ⟨h1, h2.symm⟩)
  · refine .inr (.inr ⟨id, 0, _, _, rfl, h1, ho, by omega, ?_⟩)
    rw [List.drop_zero, List.take_of_length_le (by omega)]
    exact FrzR_sc _ hs
theorem owp_useH {P : Program} {ow : Nat → Bool} {n : Nat} {s : Slots} {f : FuncId} {dst : Option Tmp} {args : List Operand} {ts : Array TypeId} {ty : TypeId} {pos : String} {af : Array Edge} {gd : Option (Nat × Bool)} {ags : List PV} {v : PV} {h1 : Heap} {K : Slots → Heap → Prop} {ops rest : List Oper}
    (hc : PCall P f ags h fun r h' => r = v ∧ h' = h1) (ha : args.map (pev s) = ags) (hk : lwn P ow n ops rest K (updO s dst v) h1) :
    owp P ow { dst := dst, op := .call { callee := .value (.func f), args := args.toArray, argTypes := ts }, type := ty, pos := pos, after := af, guard := gd } (lwp P ow n ops rest K) s h :=
  owp_useL hc ha fun r h' hr => by rw [hr.1, hr.2]; exact hk
end Go.AM
namespace Go.Proofs.Ytjlkapgpjamnkaa
open Go.AM
set_option maxHeartbeats 2000000
set_option maxRecDepth 20000
structure GrowX (h : Heap) (id : Nat) (o : AObj) (h' : Heap) : Prop where
 le : h.next ≤ h'.next
 old : ∀ i, i < h.next → i ≠ id → h'.obj i = h.obj i
 at_ : h'.obj id = some o
theorem GrowX.new {h h' : Heap} {id : Nat} {o o2 : AObj} (g : GrowX h id o h') (hid : id < h.next) : GrowX h id o (h'.new o2) :=
 ⟨Nat.le_trans g.le (by simp [Heap.new]), fun i hi hne => by simp only [Heap.new]; rw [if_neg (by have := g.le; omega)]; exact g.old i hi hne, by simp only [Heap.new]; rw [if_neg (by have := g.le; omega)]; exact g.at_⟩
theorem GrowX.set {h h' : Heap} {id j : Nat} {o o2 : AObj} (g : GrowX h id o h') (hid : id < h.next) (hj : h.next ≤ j) : GrowX h id o (h'.set j o2) :=
 ⟨g.le, fun i hi hne => by simp only [Heap.set]; rw [if_neg (by omega)]; exact g.old i hi hne, by simp only [Heap.set]; rw [if_neg (by omega)]; exact g.at_⟩
theorem GrowX.put {h h' : Heap} {id : Nat} {o o2 : AObj} (g : GrowX h id o h') : GrowX h id o2 (h'.set id o2) :=
 ⟨g.le, fun i hi hne => by simp only [Heap.set]; rw [if_neg hne]; exact g.old i hi hne, by simp [Heap.set]⟩
theorem GrowX.refl {h : Heap} {id : Nat} {o : AObj} (ho : h.obj id = some o) : GrowX h id o h := ⟨Nat.le_refl _, fun _ _ _ => rfl, ho⟩
theorem PCall.quietX {P : Program} {f : FuncId} {args : List PV} {h : Heap} {v : Value} {id : Nat} {o o0 : AObj} (hb : hasBody P f = true) (hid : h.obj id = some o0) (hfl : inNO h.next o) (hc : PCall P f args h fun r h' => r = .sc v ∧ GrowX h id o h') :
  PCall P f args h fun r h' => r = .sc v ∧ h' = h.set id o := by
 refine pcall_wf hb fun hw => PCall.drop (hc.mono ?_)
 rintro r h' ⟨rfl, g⟩
 refine ⟨.sc v, h.set id o, ⟨rfl, rfl⟩, by simp only [FrzTo], Nat.le_refl _, fun i oo ho => ?_⟩
 have hlt := hw id (by rw [hid]; try rfl)
 simp only [Heap.set] at ho
 split at ho
 ·rename_i hi
  subst hi
  simp at ho
  subst ho
  exact ⟨g.at_, hlt, .inr hfl⟩
 ·rename_i hi
  have h1 := hw i (by rw [ho]; try rfl)
  exact ⟨by rw [g.old i h1 hi]; exact ho, h1, .inl ho⟩
theorem lowS_size (s : ByteArray) : (lowS s).1.size ≤ 32 := by
 unfold lowS
 split
 ·rename_i hc
  split
  ·rename_i l hl
   have h1 := lowL_len hl
   have hsl : s.data.toList.length = s.size := by rw [Array.length_toList]; try rfl
   have : (ByteArray.mk l.toArray).size = l.length := by simp [ByteArray.size]
   simp only [this]; omega
  ·simp [ByteArray.size]
 ·simp [ByteArray.size]
mutual
theorem svalid_le : ∀ (x : Sx) (d n : Nat), (svalid x d n).1 = true → (svalid x d n).2 ≤ 4096
 | .mk kind value line col text kids, d, n => by
  unfold svalid
  split
  ·simp
  ·rename_i hn
   split
   ·intro _; simp only; omega
   ·split
    ·intro _; simp only; omega
    ·split
     ·split
      ·exact svalids_le kids (d + 1) (n + 1) (by omega)
      ·simp
     ·simp
theorem svalids_le : ∀ (l : List Sx) (d n : Nat), n ≤ 4096 → (svalids l d n).1 = true → (svalids l d n).2 ≤ 4096
 | [], d, n, hn => by simp [svalids, hn]
 | k :: ks, d, n, hn => by
  unfold svalids
  have h1 := svalid_le k d n
  split
  ·rename_i n' he
   rw [he] at h1
   exact svalids_le ks d n' (h1 rfl)
  ·simp
end
theorem natc (n : Nat) : ((n + 1 : Nat) : Int) = (n : Int) + 1 := by simp
def cntO (n : Nat) : AObj := .arr 1 [[.sc (.int .i64 n)]]
theorem valid_c : ∀ (x : Sx), x.ok → ∀ (d n : Nat), d ≤ 32 → n ≤ 4096 → ∀ (id : Nat) (h : Heap), h.obj id = some (cntO n) →
  PCall Try.prog 108 [.agg x.cells, .sc (.int .i64 d), .ptr id 0 0] h fun r h' => r = .sc (.bool (svalid x d n).1) ∧ h' = h.set id (cntO (svalid x d n).2) := by
 refine Sx.ind ?_
 intro kind value line col text kids ih hok d n hd hn id h ho
 simp only [Sx.ok] at hok
 obtain ⟨_, _, ht, hk, hks⟩ := hok
 rw [Sx.oks_iff] at hks
 have hlen := Sx.rows_len kids
 have wn : IntKind.i64.wrap ((n : Int) + 1) = (n : Int) + 1 := by rw [wrap64 (by omega) (by omega)]
 refine pcall_wf Ty.hb_108 fun hwf => ?_
 have hid : id < h.next := hwf id (by rw [ho]; try rfl)
 refine PCall.quietX Ty.hb_108 ho (by simp [cntO, inNO, inNR, inNL, inN]) ?_
 have ho' := ho
 simp only [cntO] at ho'
 have G1 : GrowX h id (cntO (n + 1)) (h.set id (.arr 1 [[.sc (.int .i64 ((n : Int) + 1))]])) := by
  have := (GrowX.refl ho).put (o2 := cntO (n + 1))
  simp only [cntO, natc] at this ⊢
  exact this
 unfold svalid
 simp only [Sx.cells]
 cases b0 : decide ((n : Int) + 1 > 4096) with
 | true =>
  rw [if_pos (by simp at b0; omega)]
  refine pcall_body (ow := fun _ => false) (wf := fun _ => false) Ty.mixed Try.func108 rfl Ty.hb_108 (by rw [Try.ntmps108]; simp) ?_
  rw [Try.ntmps108, Try.results108]
  repeat' (first | refine a_seq fun K hK => ?_ | ((first | refine a_regionS ?_ | refine a_ret ?_); simp only [Ty.w, simprocAttr, ho', wn, b0]) | (refine hK _ _ ?_; clear hK; try simp only [pst0, simprocAttr]))
  first | exact G1 | exact ⟨rfl, G1⟩
 | false =>
  rw [if_neg (by simp at b0; omega)]
  cases k1 : (kind == 1) with
  | true =>
   have hk1 : kind = 1 := by simpa using k1
   rw [if_pos hk1]
   have e1 : (kids.isEmpty) = ((kids.length : Int) == 0) := by cases kids <;> simp; omega
   have hlow := fun h : Heap => lower_c (h := h) (s := text)
   have hsz := lowS_size text
   have hW : wordB text = ((lowS text).2 && ((lowS text).1.data.toList == text.data.toList) && !(numB (lowS text).1)) := rfl
   generalize hL : lowS text = L at hlow hsz hW
   obtain ⟨w, ok⟩ := L
   simp only at hlow hsz hW
   have hwb : w.size ≤ bigN := by unfold bigN; omega
   rw [hW]
   cases ok with
   | false =>
    refine pcall_body (ow := fun _ => false) (wf := fun _ => false) Ty.mixed Try.func108 rfl Ty.hb_108 (by rw [Try.ntmps108]; simp) ?_
    rw [Try.ntmps108, Try.results108]
    repeat' (first | refine a_seq fun K hK => ?_ | (refine a_regionS ?_; simp only [Ty.w, simprocAttr, ho', wn, b0, k1]) | (refine a_skip ?_; try simp only [pst0, simprocAttr]) | (refine a_cond _ (by (try simp only [Ty.w, simprocAttr, ho', wn, b0, k1]); rfl) (fun hb => ?_) (fun hb => ?_) <;> (try simp only [hb0, decide_eq_true_eq, decide_eq_false_iff_not, simprocAttr] at hb) <;> (try (exfalso; omega))) | (refine hK _ _ ?_; clear hK; try simp only [pst0, simprocAttr]))
    refine owp_useQ (hlow _) (by (try simp only [Ty.w, simprocAttr, ho', wn, b0, k1]); try rfl) ?_; simp only [Ty.w, simprocAttr, ho', wn, b0, k1]
    repeat' (first | refine a_seq fun K hK => ?_ | ((first | refine a_regionS ?_ | refine a_ret ?_); simp only [Ty.w, simprocAttr, ho', wn, b0, k1]) | (refine hK _ _ ?_; clear hK; try simp only [pst0, simprocAttr]))
    first | exact G1 | exact ⟨rfl, G1⟩
   | true =>
    cases c1 : (w.data.toList == text.data.toList) with
    | false =>
     refine pcall_body (ow := fun _ => false) (wf := fun _ => false) Ty.mixed Try.func108 rfl Ty.hb_108 (by rw [Try.ntmps108]; simp) ?_
     rw [Try.ntmps108, Try.results108]
     repeat' (first | refine a_seq fun K hK => ?_ | (refine a_regionS ?_; simp only [Ty.w, simprocAttr, ho', wn, b0, k1]) | (refine a_skip ?_; try simp only [pst0, simprocAttr]) | (refine a_cond _ (by (try simp only [Ty.w, simprocAttr, ho', wn, b0, k1]); rfl) (fun hb => ?_) (fun hb => ?_) <;> (try simp only [hb0, decide_eq_true_eq, decide_eq_false_iff_not, simprocAttr] at hb) <;> (try (exfalso; omega))) | (refine hK _ _ ?_; clear hK; try simp only [pst0, simprocAttr]))
     refine owp_useQ (hlow _) (by (try simp only [Ty.w, simprocAttr, ho', wn, b0, k1]); try rfl) ?_; simp only [Ty.w, simprocAttr, ho', wn, b0, k1]
     repeat' (first | refine a_seq fun K hK => ?_ | ((first | refine a_regionS ?_ | refine a_ret ?_); simp only [Ty.w, simprocAttr, ho', wn, b0, k1, c1]) | (refine hK _ _ ?_; clear hK; try simp only [pst0, simprocAttr]))
     first | exact G1 | exact ⟨rfl, G1⟩
    | true =>
     cases c2 : numB w with
     | true =>
      refine pcall_body (ow := fun _ => false) (wf := fun _ => false) Ty.mixed Try.func108 rfl Ty.hb_108 (by rw [Try.ntmps108]; simp) ?_
      rw [Try.ntmps108, Try.results108]
      have W := And.intro ho' (And.intro wn (And.intro b0 (And.intro k1 (And.intro c1 c2))))
      repeat' (first | refine a_seq fun K hK => ?_ | (refine a_regionS ?_; simp only [Ty.w, simprocAttr, W]) | (refine a_skip ?_; try simp only [pst0, simprocAttr]) | (refine a_cond _ (by (try simp only [Ty.w, simprocAttr, W]); rfl) (fun hb => ?_) (fun hb => ?_) <;> (try simp only [hb0, decide_eq_true_eq, decide_eq_false_iff_not, simprocAttr] at hb) <;> (try (exfalso; omega))) | (refine hK _ _ ?_; clear hK; try simp only [pst0, simprocAttr]))
      refine owp_useQ (hlow _) (by (try simp only [Ty.w, simprocAttr, W]); try rfl) ?_; simp only [Ty.w, simprocAttr, W]
      repeat' (first | refine a_seq fun K hK => ?_ | (refine a_regionS ?_; simp only [Ty.w, simprocAttr, W]) | (refine hK _ _ ?_; clear hK; try simp only [pst0, simprocAttr]))
      refine owp_useQ (numeric_c (s := w) hwb) (by (try simp only [Ty.w, simprocAttr, W, Bool.not_true]); try rfl) ?_; simp only [Ty.w, simprocAttr, W, Bool.not_true]
      repeat' (first | (refine a_ret ?_; simp only [Ty.w, simprocAttr, W, Bool.not_true]) | (refine hK _ _ ?_; clear hK; try simp only [pst0, simprocAttr]))
      first | exact G1 | exact ⟨rfl, G1⟩
     | false =>
      cases c3 : (value == 0) with
      | false =>
       have c3' : decide (value = 0) = false := by simpa using c3
       refine pcall_body (ow := fun _ => false) (wf := fun _ => false) Ty.mixed Try.func108 rfl Ty.hb_108 (by rw [Try.ntmps108]; simp) ?_
       rw [Try.ntmps108, Try.results108]
       have W := And.intro ho' (And.intro wn (And.intro b0 (And.intro k1 (And.intro c1 (And.intro c2 c3)))))
       repeat' (first | refine a_seq fun K hK => ?_ | (refine a_regionS ?_; simp only [Ty.w, simprocAttr, W]) | (refine a_skip ?_; try simp only [pst0, simprocAttr]) | (refine a_cond _ (by (try simp only [Ty.w, simprocAttr, W]); rfl) (fun hb => ?_) (fun hb => ?_) <;> (try simp only [hb0, decide_eq_true_eq, decide_eq_false_iff_not, simprocAttr] at hb) <;> (try (exfalso; omega))) | (refine hK _ _ ?_; clear hK; try simp only [pst0, simprocAttr]))
       refine owp_useQ (hlow _) (by (try simp only [Ty.w, simprocAttr, W]); try rfl) ?_; simp only [Ty.w, simprocAttr, W]
       repeat' (first | refine a_seq fun K hK => ?_ | (refine a_regionS ?_; simp only [Ty.w, simprocAttr, W]) | (refine hK _ _ ?_; clear hK; try simp only [pst0, simprocAttr]))
       refine owp_useQ (numeric_c (s := w) hwb) (by (try simp only [Ty.w, simprocAttr, W, hlen, Bool.not_false]); try rfl) ?_; simp only [Ty.w, simprocAttr, W, hlen, Bool.not_false]
       repeat' (first | (refine a_ret ?_; simp only [Ty.w, simprocAttr, W, Bool.not_false]) | (refine hK _ _ ?_; clear hK; try simp only [pst0, simprocAttr]))
       first | exact G1 | exact ⟨by simp only [c3', Bool.and_false, Bool.false_and], G1⟩
      | true =>
       have c3' : decide (value = 0) = true := by simpa using c3
       refine pcall_body (ow := fun _ => false) (wf := fun _ => false) Ty.mixed Try.func108 rfl Ty.hb_108 (by rw [Try.ntmps108]; simp) ?_
       rw [Try.ntmps108, Try.results108]
       have W := And.intro ho' (And.intro wn (And.intro b0 (And.intro k1 (And.intro c1 (And.intro c2 (And.intro c3 hlen))))))
       repeat' (first | refine a_seq fun K hK => ?_ | (refine a_regionS ?_; simp only [Ty.w, simprocAttr, W]) | (refine a_skip ?_; try simp only [pst0, simprocAttr]) | (refine a_cond _ (by (try simp only [Ty.w, simprocAttr, W]); rfl) (fun hb => ?_) (fun hb => ?_) <;> (try simp only [hb0, decide_eq_true_eq, decide_eq_false_iff_not, simprocAttr] at hb) <;> (try (exfalso; omega))) | (refine hK _ _ ?_; clear hK; try simp only [pst0, simprocAttr]))
       refine owp_useQ (hlow _) (by (try simp only [Ty.w, simprocAttr, W]); try rfl) ?_; simp only [Ty.w, simprocAttr, W]
       repeat' (first | refine a_seq fun K hK => ?_ | (refine a_regionS ?_; simp only [Ty.w, simprocAttr, W]) | (refine hK _ _ ?_; clear hK; try simp only [pst0, simprocAttr]))
       refine owp_useQ (numeric_c (s := w) hwb) (by (try simp only [Ty.w, simprocAttr, W, Bool.not_false]); try rfl) ?_; simp only [Ty.w, simprocAttr, W, Bool.not_false]
       repeat' (first | (refine a_ret ?_; simp only [Ty.w, simprocAttr, W, Bool.not_false]) | (refine hK _ _ ?_; clear hK; try simp only [pst0, simprocAttr]))
       exact ⟨by simp only [c3', e1, Bool.not_false, Bool.true_and], G1⟩
  | false =>
   have hk1 : ¬ kind = 1 := by simpa using k1
   rw [if_neg hk1]
   cases k2 : (kind == 2) with
   | true =>
    have hk2 : kind = 2 := by simpa using k2
    rw [if_pos hk2]
    have e1 : (kids.isEmpty) = ((kids.length : Int) == 0) := by cases kids <;> simp; omega
    cases c1 : (text.data.toList == (#[] : Array UInt8).toList) with
    | false =>
     refine pcall_body (ow := fun _ => false) (wf := fun _ => false) Ty.mixed Try.func108 rfl Ty.hb_108 (by rw [Try.ntmps108]; simp) ?_
     rw [Try.ntmps108, Try.results108]
     repeat' (first | refine a_seq fun K hK => ?_ | ((first | refine a_regionS ?_ | refine a_ret ?_); simp only [Ty.w, simprocAttr, ho', wn, b0, k1, k2, c1]) | (refine a_skip ?_; try simp only [pst0, simprocAttr]) | (refine a_cond _ (by (try simp only [Ty.w, simprocAttr, ho', wn, b0, k1, k2, c1]); rfl) (fun hb => ?_) (fun hb => ?_) <;> (try simp only [hb0, decide_eq_true_eq, decide_eq_false_iff_not, simprocAttr] at hb) <;> (try (exfalso; omega))) | (refine hK _ _ ?_; clear hK; try simp only [pst0, simprocAttr]))
     first | exact ⟨by simp only [bEq, c1, Bool.false_and], G1⟩ | (simp only [bEq, c1, e1, c2, Bool.true_and]; exact G1) | exact G1
    | true =>
     cases c2 : ((kids.length : Int) == 0) with
     | false =>
      refine pcall_body (ow := fun _ => false) (wf := fun _ => false) Ty.mixed Try.func108 rfl Ty.hb_108 (by rw [Try.ntmps108]; simp) ?_
      rw [Try.ntmps108, Try.results108]
      repeat' (first | refine a_seq fun K hK => ?_ | ((first | refine a_regionS ?_ | refine a_ret ?_); simp only [Ty.w, simprocAttr, ho', wn, b0, k1, k2, c1, c2, hlen]) | (refine a_skip ?_; try simp only [pst0, simprocAttr]) | (refine a_cond _ (by (try simp only [Ty.w, simprocAttr, ho', wn, b0, k1, k2, c1, c2, hlen]); rfl) (fun hb => ?_) (fun hb => ?_) <;> (try simp only [hb0, decide_eq_true_eq, decide_eq_false_iff_not, simprocAttr] at hb) <;> (try (exfalso; omega))) | (refine hK _ _ ?_; clear hK; try simp only [pst0, simprocAttr]))
      first | exact ⟨by simp only [bEq, c1, e1, c2, Bool.and_false, Bool.false_and], G1⟩ | (simp only [bEq, c1, e1, c2, Bool.true_and]; exact G1) | exact G1
     | true =>
      cases c3 : decide (value ≥ -1099511627776) with
      | false =>
       refine pcall_body (ow := fun _ => false) (wf := fun _ => false) Ty.mixed Try.func108 rfl Ty.hb_108 (by rw [Try.ntmps108]; simp) ?_
       rw [Try.ntmps108, Try.results108]
       repeat' (first | refine a_seq fun K hK => ?_ | ((first | refine a_regionS ?_ | refine a_ret ?_); simp only [Ty.w, simprocAttr, ho', wn, b0, k1, k2, c1, c2, c3, hlen]) | (refine a_skip ?_; try simp only [pst0, simprocAttr]) | (refine a_cond _ (by (try simp only [Ty.w, simprocAttr, ho', wn, b0, k1, k2, c1, c2, c3, hlen]); rfl) (fun hb => ?_) (fun hb => ?_) <;> (try simp only [hb0, decide_eq_true_eq, decide_eq_false_iff_not, simprocAttr] at hb) <;> (try (exfalso; omega))) | (refine hK _ _ ?_; clear hK; try simp only [pst0, simprocAttr]))
       have c3' : decide (-1099511627776 ≤ value) = false := c3
       first | exact ⟨by simp only [bEq, c1, e1, c2, c3', Bool.and_false, Bool.false_and], G1⟩ | (simp only [bEq, c1, e1, c2, Bool.true_and]; exact G1) | exact G1
      | true =>
       refine pcall_body (ow := fun _ => false) (wf := fun _ => false) Ty.mixed Try.func108 rfl Ty.hb_108 (by rw [Try.ntmps108]; simp) ?_
       rw [Try.ntmps108, Try.results108]
       repeat' (first | refine a_seq fun K hK => ?_ | ((first | refine a_regionS ?_ | refine a_ret ?_); simp only [Ty.w, simprocAttr, ho', wn, b0, k1, k2, c1, c2, c3, hlen]) | (refine a_skip ?_; try simp only [pst0, simprocAttr]) | (refine a_cond _ (by (try simp only [Ty.w, simprocAttr, ho', wn, b0, k1, k2, c1, c2, c3, hlen]); rfl) (fun hb => ?_) (fun hb => ?_) <;> (try simp only [hb0, decide_eq_true_eq, decide_eq_false_iff_not, simprocAttr] at hb) <;> (try (exfalso; omega))) | (refine hK _ _ ?_; clear hK; try simp only [pst0, simprocAttr]))
       have c3' : decide (-1099511627776 ≤ value) = true := c3
       first | exact ⟨by simp only [bEq, c1, e1, c2, c3', Bool.true_and], G1⟩ | (simp only [bEq, c1, e1, c2, Bool.true_and]; exact G1) | exact G1
   | false =>
    have hk2 : ¬ kind = 2 := by simpa using k2
    rw [if_neg hk2]
    cases k3 : (kind == 3) with
    | false =>
     have hk3 : ¬ kind = 3 := by simpa using k3
     rw [if_neg hk3]
     refine pcall_body (ow := fun _ => false) (wf := fun _ => false) Ty.mixed Try.func108 rfl Ty.hb_108 (by rw [Try.ntmps108]; simp) ?_
     rw [Try.ntmps108, Try.results108]
     repeat' (first | refine a_seq fun K hK => ?_ | (refine a_block ?_) | ((first | refine a_regionS ?_ | refine a_ret ?_); simp only [Ty.w, simprocAttr, ho', wn, b0, k1, k2, k3]) | (refine a_skip ?_; try simp only [pst0, simprocAttr]) | (refine a_cond _ (by (try simp only [Ty.w, simprocAttr, ho', wn, b0, k1, k2, k3]); rfl) (fun hb => ?_) (fun hb => ?_) <;> (try simp only [hb0, decide_eq_true_eq, decide_eq_false_iff_not, simprocAttr] at hb) <;> (try (exfalso; omega))) | (refine hK _ _ ?_; clear hK; try simp only [pst0, simprocAttr]))
     first | exact G1 | exact ⟨rfl, G1⟩
    | true =>
     have hk3 : kind = 3 := by simpa using k3
     rw [if_pos hk3]
     cases c1 : (text.data.toList == (#[] : Array UInt8).toList) with
     | false =>
      rw [if_neg (by simp [bEq, c1])]
      refine pcall_body (ow := fun _ => false) (wf := fun _ => false) Ty.mixed Try.func108 rfl Ty.hb_108 (by rw [Try.ntmps108]; simp) ?_
      rw [Try.ntmps108, Try.results108]
      repeat' (first | refine a_seq fun K hK => ?_ | ((first | refine a_regionS ?_ | refine a_ret ?_); simp only [Ty.w, simprocAttr, ho', wn, b0, k1, k2, k3, c1, Bool.not_false]) | (refine a_skip ?_; try simp only [pst0, simprocAttr]) | (refine a_cond _ (by (try simp only [Ty.w, simprocAttr, ho', wn, b0, k1, k2, k3, c1, Bool.not_false]); rfl) (fun hb => ?_) (fun hb => ?_) <;> (try simp only [hb0, decide_eq_true_eq, decide_eq_false_iff_not, simprocAttr] at hb) <;> (try (exfalso; omega))) | (refine hK _ _ ?_; clear hK; try simp only [pst0, simprocAttr]))
      first | exact G1 | exact ⟨rfl, G1⟩
     | true =>
      cases c2 : (value != 0) with
      | true =>
       rw [if_neg (by simp at c2; simp [c2])]
       refine pcall_body (ow := fun _ => false) (wf := fun _ => false) Ty.mixed Try.func108 rfl Ty.hb_108 (by rw [Try.ntmps108]; simp) ?_
       rw [Try.ntmps108, Try.results108]
       repeat' (first | refine a_seq fun K hK => ?_ | ((first | refine a_regionS ?_ | refine a_ret ?_); simp only [Ty.w, simprocAttr, ho', wn, b0, k1, k2, k3, c1, c2, Bool.not_true]) | (refine a_skip ?_; try simp only [pst0, simprocAttr]) | (refine a_cond _ (by (try simp only [Ty.w, simprocAttr, ho', wn, b0, k1, k2, k3, c1, c2, Bool.not_true]); rfl) (fun hb => ?_) (fun hb => ?_) <;> (try simp only [hb0, decide_eq_true_eq, decide_eq_false_iff_not, simprocAttr] at hb) <;> (try (exfalso; omega))) | (refine hK _ _ ?_; clear hK; try simp only [pst0, simprocAttr]))
       first | exact G1 | exact ⟨rfl, G1⟩
      | false =>
       cases c3 : ((d : Int) == 32) with
       | true =>
        rw [if_neg (by simp at c3; simp; omega)]
        refine pcall_body (ow := fun _ => false) (wf := fun _ => false) Ty.mixed Try.func108 rfl Ty.hb_108 (by rw [Try.ntmps108]; simp) ?_
        rw [Try.ntmps108, Try.results108]
        repeat' (first | refine a_seq fun K hK => ?_ | ((first | refine a_regionS ?_ | refine a_ret ?_); simp only [Ty.w, simprocAttr, ho', wn, b0, k1, k2, k3, c1, c2, c3, Bool.not_true]) | (refine a_skip ?_; try simp only [pst0, simprocAttr]) | (refine a_cond _ (by (try simp only [Ty.w, simprocAttr, ho', wn, b0, k1, k2, k3, c1, c2, c3, Bool.not_true]); rfl) (fun hb => ?_) (fun hb => ?_) <;> (try simp only [hb0, decide_eq_true_eq, decide_eq_false_iff_not, simprocAttr] at hb) <;> (try (exfalso; omega))) | (refine hK _ _ ?_; clear hK; try simp only [pst0, simprocAttr]))
        first | exact G1 | exact ⟨rfl, G1⟩
       | false =>
        rw [if_pos (by simp at c2 c3; exact ⟨c1, c2, by omega⟩)]
        refine pcall_body (ow := fun _ => false) (wf := fun _ => false) Ty.mixed Try.func108 rfl Ty.hb_108 (by rw [Try.ntmps108]; simp) ?_
        rw [Try.ntmps108, Try.results108]
        repeat' (first | refine a_seq fun K hK => ?_ | (refine a_block ?_) | (refine a_regionS ?_; simp only [Ty.w, simprocAttr, ho', wn, b0, k1, k2, k3, c1, c2, c3, Bool.not_true, hlen]) | (refine a_skip ?_; try simp only [pst0, simprocAttr]) | (refine a_cond _ (by (try simp only [Ty.w, simprocAttr, ho', wn, b0, k1, k2, k3, c1, c2, c3, Bool.not_true, hlen]); rfl) (fun hb => ?_) (fun hb => ?_) <;> (try simp only [hb0, decide_eq_true_eq, decide_eq_false_iff_not, simprocAttr] at hb) <;> (try (exfalso; omega))) | (refine hK _ _ ?_; clear hK; try simp only [pst0, simprocAttr]))
        generalize hV : svalids kids (d + 1) (n + 1) = V
        refine a_loop (fun c S h' => S 1 = .sc (.int .i64 d) ∧ S 2 = .ptr id 0 0 ∧ S 89 = .imm 6 (Sx.rows kids) ∧ S 90 = .sc (.int .i64 kids.length) ∧ ∃ k n' : Nat, S 91 = .sc (.int .i64 k) ∧ k ≤ kids.length ∧ c = kids.length - k ∧ n' ≤ 4096 ∧ GrowX h id (cntO n') h' ∧ V = svalids (kids.drop k) (d + 1) n') kids.length ?_ ?_
        ·simp only [Ty.w, simprocAttr]
         exact ⟨0, n + 1, rfl, by omega, rfl, by simp at b0; omega, G1, hV.symm⟩
        ·clear G1 ho'
         rintro c S h' ⟨g1, g2, g89, g90, k, n', g91, hkl, rfl, hn', hG, hinv⟩
         by_cases hlt : k < kids.length
         ·have hdk : decide ((k : Int) < (kids.length : Int)) = true := by simp; omega
          have w7 : IntKind.i64.wrap ((k : Int) + 1) = k + 1 := by unfold bigN at hk; rw [wrap64 (by omega) (by omega)]
          have wd : IntKind.i64.wrap ((d : Int) + 1) = (d : Int) + 1 := by rw [wrap64 (by omega) (by omega)]
          obtain ⟨e, hx⟩ : ∃ e, kids[k]? = some e := ⟨_, List.getElem?_eq_getElem hlt⟩
          have hmem := List.mem_of_getElem? hx
          have hc := ih e hmem (hks e hmem) (d + 1) n' (by simp at c3; omega) hn' id
          have hle := svalid_le e (d + 1) n'
          rw [drop_of_get hx] at hinv
          simp only [svalids] at hinv
          generalize svalid e (d + 1) n' = W at hc hle hinv
          obtain ⟨b, n''⟩ := W
          simp only [natc] at hc hle hinv
          have hr := Sx.rows_get hx
          have hne : id ≠ h'.next := by have := hG.le; omega
          have hne' : (h'.next = id) = False := by simp; omega
          have hc2 := hc ((h'.new (.arr 6 [[.sc (.int .i64 0), .sc (.int .i64 0), .sc (.int .i64 0), .sc (.int .i64 0), .sc (.string ⟨#[]⟩), .sc (.slice none 0 0)]])).set h'.next (.arr 6 [e.cells])) (by simp only [Heap.set, Heap.new]; rw [if_neg hne, if_neg hne]; exact hG.at_)
          have hG2 : GrowX h id (cntO n') ((h'.new (.arr 6 [[.sc (.int .i64 0), .sc (.int .i64 0), .sc (.int .i64 0), .sc (.int .i64 0), .sc (.string ⟨#[]⟩), .sc (.slice none 0 0)]])).set h'.next (.arr 6 [e.cells])) := (hG.new hid).set hid hG.le
          obtain ⟨ki, va, li, co, te, ks⟩ := e
          simp only [Sx.cells] at hr hc2 hG2
          repeat' (first | refine a_seq fun K hK => ?_ | (refine a_regionS ?_; simp only [Ty.w, simprocAttr, g1, g2, g89, g90, g91, hlen, hdk, hr, wd]) | (refine a_skip ?_; try simp only [pst0, simprocAttr]) | (refine a_cond _ (by (try simp only [Ty.w, simprocAttr, g1, g2, g89, g90, g91, hlen, hdk, hr, wd]); rfl) (fun hb => ?_) (fun hb => ?_) <;> (try simp only [hb0, decide_eq_true_eq, decide_eq_false_iff_not, simprocAttr] at hb) <;> (try (exfalso; omega))) | (refine hK _ _ ?_; clear hK; try simp only [pst0, simprocAttr]))
          refine owp_useH (hc2) (by (try simp only [Ty.w, simprocAttr, g1, g2, g89, g90, g91, hlen, hdk, hr, wd]); try rfl) ?_; simp only [Ty.w, simprocAttr, g1, g2, g89, g90, g91, hlen, hdk, hr, wd]
          cases b with
          | false =>
           subst hinv
           repeat' (first | refine a_seq fun K hK => ?_ | ((first | refine a_regionS ?_ | refine a_ret ?_); simp only [Ty.w, simprocAttr, g1, g2, g89, g90, g91, w7, Bool.not_false]) | (refine hK _ _ ?_; clear hK; try simp only [pst0, simprocAttr]))
           exact hG2.put
          | true =>
           repeat' (first | (refine a_block ?_) | (refine a_regionS ?_; simp only [Ty.w, simprocAttr, g1, g2, g89, g90, g91, w7, Bool.not_true]) | (refine a_skip ?_; try simp only [pst0, simprocAttr]) | (refine hK _ _ ?_; clear hK; try simp only [pst0, simprocAttr]))
           exact ⟨kids.length - (k + 1), by omega, k + 1, n'', by simp, by omega, rfl, hle rfl, hG2.put, hinv⟩
         ·have hdk : decide ((k : Int) < (kids.length : Int)) = false := by simp; omega
          rw [List.drop_eq_nil_of_le (by omega)] at hinv
          simp only [svalids] at hinv
          subst hinv
          repeat' (first | refine a_seq fun K hK => ?_ | ((first | refine a_regionS ?_ | refine a_ret ?_); simp only [Ty.w, simprocAttr, g1, g2, g89, g90, g91, hdk]) | (refine a_exit ?_; try simp only [pst0, simprocAttr]) | (refine a_cond _ (by (try simp only [Ty.w, simprocAttr, g1, g2, g89, g90, g91, hdk]); rfl) (fun hb => ?_) (fun hb => ?_) <;> (try simp only [hb0, decide_eq_true_eq, decide_eq_false_iff_not, simprocAttr] at hb) <;> (try (exfalso; omega))) | ((first | refine hK _ _ ?_ | (clear hK; refine hK _ _ ?_)); clear hK; try simp only [pst0, simprocAttr]))
          rw [hV]
          exact ⟨rfl, hG⟩
theorem svalid_c {x : Sx} (hx : x.ok) (h : Heap) : PCall Try.prog 64 [.agg x.cells] h fun r h' => r = .sc (.bool (svalid x 0 0).1) ∧ h' = h := by
 have hc := valid_c x hx 0 0 (by omega) (by omega) h.next ((h.new (.arr 1 [[.sc (.int .i64 0)]])).set h.next (.arr 1 [[.sc (.int .i64 0)]])) (by simp [Heap.set, cntO])
 refine PCall.quiet Ty.hb_64 ?_
 generalize svalid x 0 0 = W at hc
 obtain ⟨b, n⟩ := W
 obtain ⟨ki, va, li, co, te, ks⟩ := x
 simp only [Sx.cells, Int.natCast_zero] at hc ⊢
 refine pcall_body (ow := fun _ => false) (wf := fun _ => false) Ty.mixed Try.func64 rfl Ty.hb_64 (by rw [Try.ntmps64]; simp) ?_
 rw [Try.ntmps64, Try.results64]
 repeat' (first | refine a_seq fun K hK => ?_ | (refine a_regionS ?_; simp only [Ty.w, simprocAttr]) | (refine hK _ _ ?_; clear hK; try simp only [pst0, simprocAttr]))
 refine owp_useH (hc) (by (try simp only [Ty.w, simprocAttr, ]); try rfl) ?_; simp only [Ty.w, simprocAttr, ]
 repeat' (first | (refine a_ret ?_; simp only [Ty.w, simprocAttr]) | (refine hK _ _ ?_; clear hK; try simp only [pst0, simprocAttr]))
 exact (((Grow.refl h).new _).set (Nat.le_refl _) _).set (Nat.le_refl _) _
end Go.Proofs.Ytjlkapgpjamnkaa
namespace Go.Proofs.Ytjlkapgpjamnkaa
open Go.AM
set_option maxHeartbeats 2000000
set_option maxRecDepth 20000
theorem sx_in (n : Nat) : ∀ x : Sx, inNL n x.cells := by
 refine Sx.ind ?_
 intro kind value line col text kids ih
 have : inNR n (Sx.rows kids) := by
  clear kind value line col text
  induction kids with
  | nil => simp only [Sx.rows, inNR]
  | cons k ks ih2 =>
   simp only [Sx.rows, inNR]
   exact ⟨ih k (by simp), ih2 fun q hq => ih q (by simp [hq])⟩
 simp only [Sx.cells, inNL, inN, and_true, true_and]
 exact this
theorem sxs_in (n : Nat) : ∀ l : List Sx, inNR n (Sx.rows l)
 | [] => by simp only [Sx.rows, inNR]
 | k :: ks => by simp only [Sx.rows, inNR]; exact ⟨sx_in n k, sxs_in n ks⟩
theorem sx_frz (n : Nat) (h : Heap) (x : Sx) : FrzL n h x.cells x.cells := by
 obtain ⟨kind, value, line, col, text, kids⟩ := x
 simp only [Sx.cells, FrzL, FrzTo, and_true, true_and]
 exact .inl (sxs_in n kids)
theorem sxs_frz (n : Nat) (h : Heap) : ∀ l : List Sx, FrzR n h (Sx.rows l) (Sx.rows l)
 | [] => by simp only [Sx.rows, FrzR]
 | k :: ks => by simp only [Sx.rows, FrzR]; exact ⟨sx_frz n h k, sxs_frz n h ks⟩
theorem PCall.frz {P : Program} {f : FuncId} {args : List PV} {h : Heap} {v : PV} (hb : hasBody P f = true) (hc : PCall P f args h fun r' h' => FrzTo h.next h' v r' ∧ Grow h h') : PCall P f args h fun r h' => r = v ∧ h' = h := by
 refine pcall_wf hb fun hw => PCall.drop (hc.mono ?_)
 rintro r' h' ⟨hf, g⟩
 refine ⟨v, h, ⟨rfl, rfl⟩, hf, Nat.le_refl _, fun id o ho => ?_⟩
 have hid := hw id (by rw [ho]; try rfl)
 exact ⟨by rw [g.old id hid]; exact ho, hid, .inl ho⟩
theorem frz_own {n id off len : Nat} {h' : Heap} (hid : id < n) : FrzTo n h' (.own id off len) (.own id off len) := by simp only [FrzTo]; exact ⟨trivial, hid⟩
def wordM (s : ByteArray) : Sx := .mk 1 0 0 0 s []
def listM (l : List Sx) : Sx := .mk 3 0 0 0 ⟨#[]⟩ l
def wordsM (first : ByteArray) (l : List ByteArray) : Sx := listM ((first :: l).map wordM)
theorem word_c {h : Heap} {s : ByteArray} : PCall Try.prog 111 [sPV s] h fun r h' => r = .agg (wordM s).cells ∧ h' = h := by
 refine PCall.frz Ty.hb_111 ?_
 refine pcall_body (ow := fun _ => false) (wf := fun _ => false) Ty.mixed Try.func111 rfl Ty.hb_111 (by rw [Try.ntmps111]; simp) ?_
 rw [Try.ntmps111, Try.results111]
 repeat' (first | refine a_seq fun K hK => ?_ | ((first | refine a_regionS ?_ | refine a_ret ?_); simp only [Ty.w, simprocAttr]) | (refine hK _ _ ?_; clear hK; try simp only [pst0, simprocAttr]))
 refine ⟨?_, ((Grow.refl h).new _).set (Nat.le_refl _) _⟩
 simp only [wordM, Sx.cells, Sx.rows, FrzTo, FrzL]
 exact ⟨_, rfl, rfl, rfl, rfl, rfl, rfl, .inr (.inl ⟨rfl, .inr rfl⟩), trivial⟩
theorem list_c {h : Heap} {p : PV} (h1 : oneC p = true) (hf : ∀ h', FrzTo h.next h' p p) : PCall Try.prog 110 [p] h fun r h' => r = .agg [.sc (.int .i64 3), .sc (.int .i64 0), .sc (.int .i64 0), .sc (.int .i64 0), .sc (.string ⟨#[]⟩), p] ∧ h' = h := by
 refine PCall.frz Ty.hb_110 ?_
 have hc : p.cells = [p] := by cases p <;> simp [oneC] at h1 <;> rfl
 refine pcall_body (ow := fun _ => false) (wf := fun _ => false) Ty.mixed Try.func110 rfl Ty.hb_110 (by rw [Try.ntmps110]; simp) ?_
 rw [Try.ntmps110, Try.results110]
 repeat' (first | refine a_seq fun K hK => ?_ | ((first | refine a_regionS ?_ | refine a_ret ?_); simp only [Ty.w, simprocAttr, hc, h1]) | (refine hK _ _ ?_; clear hK; try simp only [pst0, simprocAttr]))
 refine ⟨?_, ((Grow.refl h).new _).set (Nat.le_refl _) _⟩
 simp only [FrzTo, FrzL]
 exact ⟨_, rfl, rfl, rfl, rfl, rfl, rfl, hf _, trivial⟩
structure WordsI (h : Heap) (first : ByteArray) (l : List ByteArray) (k : Nat) (h' : Heap) : Prop where
 grow : Grow h h'
 ex : ∃ id, h.next + 1 + 1 < h'.next ∧ id ≠ h.next + 1 + 1 ∧ h.next < id ∧ id < h'.next ∧
  h'.obj h.next = some (.arr 6 [[.sc (.int .i64 0), .sc (.int .i64 0), .sc (.int .i64 0), .sc (.int .i64 0), .sc (.string ⟨#[]⟩), .sc (.slice none 0 0)]]) ∧
  h'.obj (h.next + 1 + 1) = some (.arr 6 [[.sc (.int .i64 3), .sc (.int .i64 0), .sc (.int .i64 0), .sc (.int .i64 0), .sc (.string ⟨#[]⟩), .own id 0 (k + 1)]]) ∧
  h'.obj id = some (.arr 6 (Sx.rows ((first :: l.take k).map wordM)))
theorem words_c {h : Heap} {first : ByteArray} {l : List ByteArray} (hl : l.length ≤ 1048576) : PCall Try.prog 109 [sPV first, .imm 1 (strRows l)] h fun r h' => r = .agg (wordsM first l).cells ∧ h' = h := by
 refine PCall.frz Ty.hb_109 ?_
 have hll := strRows_len l
 have hw : ∀ (s : ByteArray) (h : Heap), PCall Try.prog 111 [sPV s] h fun r h' => r = .agg (wordM s).cells ∧ h' = h := fun s h => word_c
 simp only [wordM, Sx.cells, Sx.rows] at hw
 refine pcall_body (ow := fun t => t == 10) (wf := fun _ => false) Ty.mixed Try.func109 rfl Ty.hb_109 (by rw [Try.ntmps109]; simp) ?_
 rw [Try.ntmps109, Try.results109]
 repeat' (first | refine a_seq fun K hK => ?_ | (refine a_regionS ?_; simp only [Ty.w, simprocAttr]) | (refine hK _ _ ?_; clear hK; try simp only [pst0, simprocAttr]))
 refine owp_useQ (hw first _) (by (try simp only [Ty.w, simprocAttr, ]); try rfl) ?_; simp only [Ty.w, simprocAttr, ]
 skip
 refine owp_useQ (list_c (p := .own (h.next + 1) 0 1) rfl (fun _ => frz_own (by simp [Heap.new]))) (by (try simp only [Ty.w, simprocAttr, ]); try rfl) ?_; simp only [Ty.w, simprocAttr, ]
 repeat' (first | refine a_seq fun K hK => ?_ | (refine a_block ?_) | (refine a_regionS ?_; simp only [Ty.w, simprocAttr, hll]) | (refine hK _ _ ?_; clear hK; try simp only [pst0, simprocAttr]))
 refine a_loop (fun m S h' => S 4 = .ptr h.next 0 0 ∧ S 5 = .ptr (h.next + 1 + 1) 0 0 ∧ S 12 = .imm 1 (strRows l) ∧ S 13 = .sc (.int .i64 l.length) ∧ ∃ k : Nat, S 14 = .sc (.int .i64 k) ∧ k ≤ l.length ∧ m = l.length - k ∧ WordsI h first l k h') l.length ?_ ?_
 ·simp only [Ty.w, simprocAttr]
  refine ⟨0, rfl, by omega, rfl, ?_⟩
  have e1 : ¬ h.next = h.next + 1 + 1 := by omega
  refine ⟨(((((Grow.refl h).new _).new _).new _).set (show h.next ≤ h.next + 1 + 1 by omega) _), h.next + 1, by simp [Heap.new, Heap.set], by omega, by omega, by simp [Heap.new, Heap.set], ?_, ?_, ?_⟩
  ·simp [Heap.new, Heap.set, e1]
  ·simp [Heap.new, Heap.set]
  ·simp [Heap.new, Heap.set, wordM, Sx.rows, Sx.cells]
 ·rintro m S h' ⟨g4, g5, g12, g13, k, g14, hk, rfl, hI⟩
  obtain ⟨hg, id, hn2, hne, hlo, hhi, o1, o2, o3⟩ := hI
  by_cases hlt : k < l.length
  ·have hd : decide ((k : Int) < (l.length : Int)) = true := by simp; omega
   have w7 : IntKind.i64.wrap ((k : Int) + 1) = k + 1 := by rw [wrap64 (by omega) (by omega)]
   obtain ⟨s, hx⟩ : ∃ s, l[k]? = some s := ⟨_, List.getElem?_eq_getElem hlt⟩
   have hr := strRows_get hx
   have hrl : (Sx.rows ((first :: l.take k).map wordM)).length = k + 1 := by rw [Sx.rows_len]; simp; omega
   generalize hR : Sx.rows ((first :: l.take k).map wordM) = R at o3 hrl
   have n1 : (h.next + 1 + 1 = id) = False := by simp; omega
   have n2 : (h.next + 1 + 1 = h'.next) = False := by simp; omega
   have htk : List.take (k + 1) R = R := List.take_of_length_le (by omega)
   have hb : (k + 1 + 1) * 72 ≤ 140737488355328 := by omega
   have W := And.intro g4 (And.intro g5 (And.intro g12 (And.intro g13 (And.intro g14 (And.intro w7 (And.intro o2 (And.intro n1 (And.intro o3 (And.intro n2 (And.intro hrl (And.intro htk hb)))))))))))
   repeat' (first | refine a_seq fun K hK => ?_ | ((first | refine a_regionS ?_ | refine a_draw (by decide +kernel) (fun K hK => ?_)); simp only [Ty.w, simprocAttr, W, hd, hr]) | (refine a_skip ?_; try simp only [pst0, simprocAttr]) | (refine a_cond _ (by (try simp only [Ty.w, simprocAttr, W, hd, hr]); rfl) (fun hb => ?_) (fun hb => ?_) <;> (try simp only [hb0, decide_eq_true_eq, decide_eq_false_iff_not, simprocAttr] at hb) <;> (try (exfalso; omega))) | (refine hK _ _ ?_; clear hK; try simp only [pst0, simprocAttr]))
   (first | refine a_dcall0 (hw s _) (by (try simp only [Ty.w, simprocAttr, W]); try rfl) ?_ | refine a_dcallA (hw s _) (by (try simp only [Ty.w, simprocAttr, W]); try rfl) (by simp only [Ty.w, simprocAttr, W]; try trivial) ?_); simp only [Ty.w, simprocAttr, W, Option.getD_some]
   repeat' (first | (refine a_regionS ?_; simp only [Ty.w, simprocAttr, W]) | (refine hK _ _ ?_; clear hK; try simp only [pst0, simprocAttr]) | (with_reducible refine a_past2 (by simp only [List.forall_mem_cons, Ty.w, simprocAttr, g4, g5, g12, g13, g14, w7, o2, o3, n1, n2, hrl, htk, hb]; (repeat' apply And.intro) <;> first | trivial | exact .inl (by decide +kernel)) ?_; try simp only [Ty.w, simprocAttr, W]) | (rw [if_pos]; rotate_left 1; omega; simp only [Ty.w, simprocAttr, W]))
   refine ⟨l.length - (k + 1), by omega, k + 1, by simp, by omega, rfl, ((hg.kill (by omega)).new _).set (by omega) _, h'.next, ?_, ?_, ?_, ?_, ?_, ?_, ?_⟩
   ·simp only [Heap.set, Heap.new, Heap.kill]; omega
   ·omega
   ·omega
   ·simp only [Heap.set, Heap.new, Heap.kill]; omega
   ·have a1 : ¬ h.next = h.next + 1 + 1 := by omega
    have a2 : ¬ h.next = h'.next := by omega
    have a3 : ¬ h.next = id := by omega
    simp only [Heap.set, Heap.new, Heap.kill, a1, a2, a3, if_false]
    exact o1
   ·simp only [Heap.set, if_true]
   ·have a1 : ¬ h'.next = h.next + 1 + 1 := by omega
    simp only [Heap.set, Heap.new, Heap.kill, a1, if_false, if_true]
    rw [List.take_add_one, hx, ← hR]
    simp only [Sx.rows_map, List.map_cons, List.map_append, List.map_nil, Option.toList_some, List.cons_append, wordM, Sx.cells]
  ·have hd : decide ((k : Int) < (l.length : Int)) = false := by simp; omega
   have hke : k = l.length := by omega
   subst hke
   rw [List.take_length] at o3
   have n1 : (h.next + 1 + 1 = h.next) = False := by simp; omega
   repeat' (first | refine a_seq fun K hK => ?_ | ((first | refine a_regionS ?_ | refine a_ret ?_); simp only [Ty.w, simprocAttr, g4, g5, g12, g13, g14, hd, o1, o2, o3]) | (refine a_exit ?_; try simp only [pst0, simprocAttr]) | (refine a_cond _ (by (try simp only [Ty.w, simprocAttr, g4, g5, g12, g13, g14, hd, o1, o2, o3]); rfl) (fun hb => ?_) (fun hb => ?_) <;> (try simp only [hb0, decide_eq_true_eq, decide_eq_false_iff_not, simprocAttr] at hb) <;> (try (exfalso; omega))) | ((first | refine hK _ _ ?_ | (clear hK; refine hK _ _ ?_)); clear hK; try simp only [pst0, simprocAttr]))
   refine ⟨?_, hg.set (Nat.le_refl _) _⟩
   simp only [wordsM, listM, Sx.cells, FrzTo, FrzL]
   refine ⟨_, rfl, rfl, rfl, rfl, rfl, rfl, .inr (.inr ⟨id, 0, l.length + 1, Sx.rows ((first :: l).map wordM), rfl, by omega, ?_, ?_, ?_⟩), trivial⟩
   ·simp only [Heap.set]; rw [if_neg (by omega)]; exact o3
   ·rw [Sx.rows_len]; simp
   ·rw [List.drop_zero, List.take_of_length_le (by rw [Sx.rows_len]; simp)]
    exact sxs_frz _ _ _
end Go.Proofs.Ytjlkapgpjamnkaa
