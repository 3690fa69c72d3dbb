/- What the walks ask of this program's tables. -/
import Derived.Test.YtjlkapgpjamnkaaAmSimp
import Derived.Test.YtjlkapgpjamnkaaProg
namespace Go.Proofs.Ytjlkapgpjamnkaa
open Go.AM
namespace Ty
theorem mixed : Try.prog.follows .mixedOrders = true := by kernel_rfl
theorem hb_14 : hasBody Try.prog 14 = true := by kernel_rfl
theorem hb_15 : hasBody Try.prog 15 = true := by kernel_rfl
theorem hb_16 : hasBody Try.prog 16 = true := by kernel_rfl
theorem kT_4 : kT Try.prog 4 = 1 := by kernel_rfl
theorem hb_17 : hasBody Try.prog 17 = true := by kernel_rfl
theorem hb_18 : hasBody Try.prog 18 = true := by kernel_rfl
theorem szT_29 : szT Try.prog 29 = some 6 := by kernel_rfl
theorem aggB_29 : aggB Try.prog 29 = true := by kernel_rfl
theorem hb_19 : hasBody Try.prog 19 = true := by kernel_rfl
theorem hb_20 : hasBody Try.prog 20 = true := by kernel_rfl
theorem hb_22 : hasBody Try.prog 22 = true := by kernel_rfl
theorem kT_29 : kT Try.prog 29 = 8 := by kernel_rfl
theorem zeroT_29 : zeroT Try.prog 29 = some [.string ⟨#[]⟩, .string ⟨#[]⟩, .slice none 0 0, .slice none 0 0, .slice none 0 0, .slice none 0 0] := by kernel_rfl
theorem fieldsT_29 : fieldsT Try.prog 29 = some [(0, 1), (1, 1), (2, 1), (3, 1), (4, 1), (5, 1)] := by kernel_rfl
theorem hb_21 : hasBody Try.prog 21 = true := by kernel_rfl
theorem hb_23 : hasBody Try.prog 23 = true := by kernel_rfl
theorem hb_24 : hasBody Try.prog 24 = true := by kernel_rfl
theorem kT_3 : kT Try.prog 3 = 2 := by kernel_rfl
theorem hb_25 : hasBody Try.prog 25 = true := by kernel_rfl
theorem hb_26 : hasBody Try.prog 26 = true := by kernel_rfl
theorem kT_37 : kT Try.prog 37 = 8 := by kernel_rfl
theorem zeroT_37 : zeroT Try.prog 37 = some [.slice none 0 0, .slice none 0 0] := by kernel_rfl
theorem fieldsT_37 : fieldsT Try.prog 37 = some [(0, 1), (1, 1)] := by kernel_rfl
theorem hb_27 : hasBody Try.prog 27 = true := by kernel_rfl
theorem hb_28 : hasBody Try.prog 28 = true := by kernel_rfl
theorem zeroT_41 : zeroT Try.prog 41 = some [.int .i64 0, .int .i64 0, .int .i64 0, .int .i64 0, .string ⟨#[]⟩, .slice none 0 0] := by kernel_rfl
theorem szT_41 : szT Try.prog 41 = some 6 := by kernel_rfl
theorem aggB_41 : aggB Try.prog 41 = true := by kernel_rfl
theorem hb_29 : hasBody Try.prog 29 = true := by kernel_rfl
theorem elT_39 : elT Try.prog 39 = some (6, 72) := by kernel_rfl
theorem elZ_39 : elZ Try.prog 39 = some [.int .i64 0, .int .i64 0, .int .i64 0, .int .i64 0, .string ⟨#[]⟩, .slice none 0 0] := by kernel_rfl
theorem kT_41 : kT Try.prog 41 = 8 := by kernel_rfl
theorem fieldsT_41 : fieldsT Try.prog 41 = some [(0, 1), (1, 1), (2, 1), (3, 1), (4, 1), (5, 1)] := by kernel_rfl
theorem hb_30 : hasBody Try.prog 30 = true := by kernel_rfl
theorem kT_43 : kT Try.prog 43 = 7 := by kernel_rfl
theorem hb_31 : hasBody Try.prog 31 = true := by kernel_rfl
theorem hb_32 : hasBody Try.prog 32 = true := by kernel_rfl
theorem hb_33 : hasBody Try.prog 33 = true := by kernel_rfl
theorem hb_34 : hasBody Try.prog 34 = true := by kernel_rfl
theorem hb_35 : hasBody Try.prog 35 = true := by kernel_rfl
theorem hb_36 : hasBody Try.prog 36 = true := by kernel_rfl
theorem zeroT_57 : zeroT Try.prog 57 = some [.string ⟨#[]⟩, .string ⟨#[]⟩, .int .i64 0, .slice none 0 0, .slice none 0 0] := by kernel_rfl
theorem szT_57 : szT Try.prog 57 = some 5 := by kernel_rfl
theorem aggB_57 : aggB Try.prog 57 = true := by kernel_rfl
theorem hb_37 : hasBody Try.prog 37 = true := by kernel_rfl
theorem hb_38 : hasBody Try.prog 38 = true := by kernel_rfl
theorem hb_39 : hasBody Try.prog 39 = true := by kernel_rfl
theorem hb_40 : hasBody Try.prog 40 = true := by kernel_rfl
theorem hb_41 : hasBody Try.prog 41 = true := by kernel_rfl
theorem hb_42 : hasBody Try.prog 42 = true := by kernel_rfl
theorem hb_43 : hasBody Try.prog 43 = true := by kernel_rfl
theorem fldT_37_0 : fldT Try.prog 37 0 = some (0, 1, false) := by kernel_rfl
theorem szT_24 : szT Try.prog 24 = some 1 := by kernel_rfl
theorem aggB_24 : aggB Try.prog 24 = false := by kernel_rfl
theorem kT_24 : kT Try.prog 24 = 5 := by kernel_rfl
theorem fldT_37_1 : fldT Try.prog 37 1 = some (1, 1, false) := by kernel_rfl
theorem hb_44 : hasBody Try.prog 44 = true := by kernel_rfl
theorem hb_45 : hasBody Try.prog 45 = true := by kernel_rfl
theorem hb_46 : hasBody Try.prog 46 = true := by kernel_rfl
theorem hb_47 : hasBody Try.prog 47 = true := by kernel_rfl
theorem hb_48 : hasBody Try.prog 48 = true := by kernel_rfl
theorem hb_49 : hasBody Try.prog 49 = true := by kernel_rfl
theorem hb_50 : hasBody Try.prog 50 = true := by kernel_rfl
theorem fldT_29_0 : fldT Try.prog 29 0 = some (0, 1, false) := by kernel_rfl
theorem szT_9 : szT Try.prog 9 = some 1 := by kernel_rfl
theorem aggB_9 : aggB Try.prog 9 = false := by kernel_rfl
theorem kT_9 : kT Try.prog 9 = 3 := by kernel_rfl
theorem hb_51 : hasBody Try.prog 51 = true := by kernel_rfl
theorem kT_5 : kT Try.prog 5 = 2 := by kernel_rfl
theorem elT_24 : elT Try.prog 24 = some (1, 16) := by kernel_rfl
theorem elZ_24 : elZ Try.prog 24 = some [.string ⟨#[]⟩] := by kernel_rfl
theorem hb_52 : hasBody Try.prog 52 = true := by kernel_rfl
theorem hb_53 : hasBody Try.prog 53 = true := by kernel_rfl
theorem fldT_29_5 : fldT Try.prog 29 5 = some (5, 1, false) := by kernel_rfl
theorem szT_27 : szT Try.prog 27 = some 1 := by kernel_rfl
theorem aggB_27 : aggB Try.prog 27 = false := by kernel_rfl
theorem kT_27 : kT Try.prog 27 = 5 := by kernel_rfl
theorem elT_27 : elT Try.prog 27 = some (6, 128) := by kernel_rfl
theorem hb_55 : hasBody Try.prog 55 = true := by kernel_rfl
theorem hb_54 : hasBody Try.prog 54 = true := by kernel_rfl
theorem hb_56 : hasBody Try.prog 56 = true := by kernel_rfl
theorem hb_57 : hasBody Try.prog 57 = true := by kernel_rfl
theorem hb_58 : hasBody Try.prog 58 = true := by kernel_rfl
theorem fldT_29_1 : fldT Try.prog 29 1 = some (1, 1, false) := by kernel_rfl
theorem fldT_29_2 : fldT Try.prog 29 2 = some (2, 1, false) := by kernel_rfl
theorem hb_59 : hasBody Try.prog 59 = true := by kernel_rfl
theorem fldT_29_3 : fldT Try.prog 29 3 = some (3, 1, false) := by kernel_rfl
theorem szT_25 : szT Try.prog 25 = some 1 := by kernel_rfl
theorem aggB_25 : aggB Try.prog 25 = false := by kernel_rfl
theorem hb_60 : hasBody Try.prog 60 = true := by kernel_rfl
theorem fldT_29_4 : fldT Try.prog 29 4 = some (4, 1, false) := by kernel_rfl
theorem szT_26 : szT Try.prog 26 = some 1 := by kernel_rfl
theorem aggB_26 : aggB Try.prog 26 = false := by kernel_rfl
theorem kT_26 : kT Try.prog 26 = 5 := by kernel_rfl
theorem elT_26 : elT Try.prog 26 = some (5, 88) := by kernel_rfl
theorem hb_61 : hasBody Try.prog 61 = true := by kernel_rfl
theorem hb_62 : hasBody Try.prog 62 = true := by kernel_rfl
theorem kT_25 : kT Try.prog 25 = 5 := by kernel_rfl
theorem kT_81 : kT Try.prog 81 = 8 := by kernel_rfl
theorem zeroT_81 : zeroT Try.prog 81 = some [.int .i64 0] := by kernel_rfl
theorem fieldsT_81 : fieldsT Try.prog 81 = some [(0, 1)] := by kernel_rfl
theorem hb_63 : hasBody Try.prog 63 = true := by kernel_rfl
theorem hb_65 : hasBody Try.prog 65 = true := by kernel_rfl
theorem hb_64 : hasBody Try.prog 64 = true := by kernel_rfl
theorem hb_66 : hasBody Try.prog 66 = true := by kernel_rfl
theorem hb_67 : hasBody Try.prog 67 = true := by kernel_rfl
theorem kT_33 : kT Try.prog 33 = 2 := by kernel_rfl
theorem hb_68 : hasBody Try.prog 68 = true := by kernel_rfl
theorem szT_37 : szT Try.prog 37 = some 2 := by kernel_rfl
theorem aggB_37 : aggB Try.prog 37 = true := by kernel_rfl
theorem hb_69 : hasBody Try.prog 69 = true := by kernel_rfl
theorem kT_47 : kT Try.prog 47 = 2 := by kernel_rfl
theorem kT_39 : kT Try.prog 39 = 5 := by kernel_rfl
theorem fldT_41_0 : fldT Try.prog 41 0 = some (0, 1, false) := by kernel_rfl
theorem szT_3 : szT Try.prog 3 = some 1 := by kernel_rfl
theorem aggB_3 : aggB Try.prog 3 = false := by kernel_rfl
theorem fldT_41_1 : fldT Try.prog 41 1 = some (1, 1, false) := by kernel_rfl
theorem fldT_41_4 : fldT Try.prog 41 4 = some (4, 1, false) := by kernel_rfl
theorem fldT_41_2 : fldT Try.prog 41 2 = some (2, 1, false) := by kernel_rfl
theorem fldT_41_3 : fldT Try.prog 41 3 = some (3, 1, false) := by kernel_rfl
theorem fldT_41_5 : fldT Try.prog 41 5 = some (5, 1, false) := by kernel_rfl
theorem szT_39 : szT Try.prog 39 = some 1 := by kernel_rfl
theorem aggB_39 : aggB Try.prog 39 = false := by kernel_rfl
theorem hb_70 : hasBody Try.prog 70 = true := by kernel_rfl
theorem hb_71 : hasBody Try.prog 71 = true := by kernel_rfl
theorem hb_72 : hasBody Try.prog 72 = true := by kernel_rfl
theorem hb_73 : hasBody Try.prog 73 = true := by kernel_rfl
theorem hb_74 : hasBody Try.prog 74 = true := by kernel_rfl
theorem zvT_47 : zvT Try.prog 47 = some (.int .i64 0) := by kernel_rfl
theorem kT_57 : kT Try.prog 57 = 8 := by kernel_rfl
theorem fieldsT_57 : fieldsT Try.prog 57 = some [(0, 1), (1, 1), (2, 1), (3, 1), (4, 1)] := by kernel_rfl
theorem hb_75 : hasBody Try.prog 75 = true := by kernel_rfl
theorem hb_76 : hasBody Try.prog 76 = true := by kernel_rfl
theorem fldT_57_0 : fldT Try.prog 57 0 = some (0, 1, false) := by kernel_rfl
theorem fldT_57_1 : fldT Try.prog 57 1 = some (1, 1, false) := by kernel_rfl
theorem fldT_57_2 : fldT Try.prog 57 2 = some (2, 1, false) := by kernel_rfl
theorem fldT_57_3 : fldT Try.prog 57 3 = some (3, 1, false) := by kernel_rfl
theorem fldT_57_4 : fldT Try.prog 57 4 = some (4, 1, false) := by kernel_rfl
theorem hb_77 : hasBody Try.prog 77 = true := by kernel_rfl
theorem hb_78 : hasBody Try.prog 78 = true := by kernel_rfl
theorem hb_79 : hasBody Try.prog 79 = true := by kernel_rfl
theorem hb_80 : hasBody Try.prog 80 = true := by kernel_rfl
theorem hb_81 : hasBody Try.prog 81 = true := by kernel_rfl
theorem hb_82 : hasBody Try.prog 82 = true := by kernel_rfl
theorem hb_83 : hasBody Try.prog 83 = true := by kernel_rfl
theorem hb_84 : hasBody Try.prog 84 = true := by kernel_rfl
theorem elT_25 : elT Try.prog 25 = some (2, 32) := by kernel_rfl
theorem elZ_25 : elZ Try.prog 25 = some [.string ⟨#[]⟩, .string ⟨#[]⟩] := by kernel_rfl
theorem hb_85 : hasBody Try.prog 85 = true := by kernel_rfl
theorem elZ_26 : elZ Try.prog 26 = some [.string ⟨#[]⟩, .string ⟨#[]⟩, .int .i64 0, .slice none 0 0, .slice none 0 0] := by kernel_rfl
theorem elZ_27 : elZ Try.prog 27 = some [.string ⟨#[]⟩, .string ⟨#[]⟩, .slice none 0 0, .slice none 0 0, .slice none 0 0, .slice none 0 0] := by kernel_rfl
theorem hb_86 : hasBody Try.prog 86 = true := by kernel_rfl
theorem hb_87 : hasBody Try.prog 87 = true := by kernel_rfl
theorem hb_88 : hasBody Try.prog 88 = true := by kernel_rfl
theorem hb_90 : hasBody Try.prog 90 = true := by kernel_rfl
theorem hb_91 : hasBody Try.prog 91 = true := by kernel_rfl
theorem hb_92 : hasBody Try.prog 92 = true := by kernel_rfl
theorem hb_93 : hasBody Try.prog 93 = true := by kernel_rfl
theorem hb_94 : hasBody Try.prog 94 = true := by kernel_rfl
theorem hb_95 : hasBody Try.prog 95 = true := by kernel_rfl
theorem hb_96 : hasBody Try.prog 96 = true := by kernel_rfl
theorem hb_97 : hasBody Try.prog 97 = true := by kernel_rfl
theorem hb_98 : hasBody Try.prog 98 = true := by kernel_rfl
theorem szT_99 : szT Try.prog 99 = some 2 := by kernel_rfl
theorem aggB_99 : aggB Try.prog 99 = true := by kernel_rfl
theorem kT_99 : kT Try.prog 99 = 8 := by kernel_rfl
theorem strsT_99 : strsT Try.prog 99 = some 2 := by kernel_rfl
theorem hb_99 : hasBody Try.prog 99 = true := by kernel_rfl
theorem hb_100 : hasBody Try.prog 100 = true := by kernel_rfl
theorem hb_101 : hasBody Try.prog 101 = true := by kernel_rfl
theorem hb_102 : hasBody Try.prog 102 = true := by kernel_rfl
theorem hb_103 : hasBody Try.prog 103 = true := by kernel_rfl
theorem hb_104 : hasBody Try.prog 104 = true := by kernel_rfl
theorem zeroT_99 : zeroT Try.prog 99 = some [.string ⟨#[]⟩, .string ⟨#[]⟩] := by kernel_rfl
theorem fldT_99_0 : fldT Try.prog 99 0 = some (0, 1, false) := by kernel_rfl
theorem fldT_99_1 : fldT Try.prog 99 1 = some (1, 1, false) := by kernel_rfl
theorem hb_107 : hasBody Try.prog 107 = true := by kernel_rfl
theorem zeroT_3 : zeroT Try.prog 3 = some [.int .i64 0] := by kernel_rfl
theorem hb_108 : hasBody Try.prog 108 = true := by kernel_rfl
theorem hb_109 : hasBody Try.prog 109 = true := by kernel_rfl
theorem hb_111 : hasBody Try.prog 111 = true := by kernel_rfl
theorem hb_110 : hasBody Try.prog 110 = true := by kernel_rfl
theorem hb_112 : hasBody Try.prog 112 = true := by kernel_rfl
theorem intT_5 : intT Try.prog 5 = some .u8 := by kernel_rfl
theorem intT_33 : intT Try.prog 33 = some .u32 := by kernel_rfl
theorem intT_3 : intT Try.prog 3 = some .i64 := by kernel_rfl
theorem hb_113 : hasBody Try.prog 113 = true := by kernel_rfl
theorem hb_114 : hasBody Try.prog 114 = true := by kernel_rfl
theorem hb_115 : hasBody Try.prog 115 = true := by kernel_rfl
theorem hb_116 : hasBody Try.prog 116 = true := by kernel_rfl
theorem hb_117 : hasBody Try.prog 117 = true := by kernel_rfl
theorem hb_118 : hasBody Try.prog 118 = true := by kernel_rfl
theorem hb_119 : hasBody Try.prog 119 = true := by kernel_rfl
theorem hb_120 : hasBody Try.prog 120 = true := by kernel_rfl
theorem hb_121 : hasBody Try.prog 121 = true := by kernel_rfl
theorem hb_122 : hasBody Try.prog 122 = true := by kernel_rfl
theorem hb_123 : hasBody Try.prog 123 = true := by kernel_rfl
theorem hb_125 : hasBody Try.prog 125 = true := by kernel_rfl
theorem hb_106 : hasBody Try.prog 106 = true := by kernel_rfl
theorem mapT_92 : mapT Try.prog 92 = some (3, (.string ⟨#[]⟩)) := by kernel_rfl
theorem hb_126 : hasBody Try.prog 126 = true := by kernel_rfl
theorem hb_127 : hasBody Try.prog 127 = true := by kernel_rfl
theorem hb_128 : hasBody Try.prog 128 = true := by kernel_rfl
theorem hb_129 : hasBody Try.prog 129 = true := by kernel_rfl
theorem hb_130 : hasBody Try.prog 130 = true := by kernel_rfl
theorem hb_131 : hasBody Try.prog 131 = true := by kernel_rfl
theorem intT_116 : intT Try.prog 116 = some .u64 := by kernel_rfl
theorem kT_116 : kT Try.prog 116 = 2 := by kernel_rfl
theorem hb_133 : hasBody Try.prog 133 = true := by kernel_rfl
theorem hb_132 : hasBody Try.prog 132 = true := by kernel_rfl
theorem hb_134 : hasBody Try.prog 134 = true := by kernel_rfl
theorem fldT_81_0 : fldT Try.prog 81 0 = some (0, 1, false) := by kernel_rfl
theorem hb_135 : hasBody Try.prog 135 = true := by kernel_rfl
theorem hb_136 : hasBody Try.prog 136 = true := by kernel_rfl
theorem hb_137 : hasBody Try.prog 137 = true := by kernel_rfl
theorem fieldsT_99 : fieldsT Try.prog 99 = some [(0, 1), (1, 1)] := by kernel_rfl
theorem hb_138 : hasBody Try.prog 138 = true := by kernel_rfl
theorem hb_139 : hasBody Try.prog 139 = true := by kernel_rfl
theorem hb_140 : hasBody Try.prog 140 = true := by kernel_rfl
theorem hb_141 : hasBody Try.prog 141 = true := by kernel_rfl
theorem hb_142 : hasBody Try.prog 142 = true := by kernel_rfl
theorem hb_143 : hasBody Try.prog 143 = true := by kernel_rfl
theorem kT_147 : kT Try.prog 147 = 2 := by kernel_rfl
theorem hb_144 : hasBody Try.prog 144 = true := by kernel_rfl
theorem hb_145 : hasBody Try.prog 145 = true := by kernel_rfl
theorem hb_146 : hasBody Try.prog 146 = true := by kernel_rfl
theorem hb_147 : hasBody Try.prog 147 = true := by kernel_rfl
theorem hb_148 : hasBody Try.prog 148 = true := by kernel_rfl
theorem hb_149 : hasBody Try.prog 149 = true := by kernel_rfl
theorem hb_150 : hasBody Try.prog 150 = true := by kernel_rfl
theorem hb_151 : hasBody Try.prog 151 = true := by kernel_rfl
theorem hb_152 : hasBody Try.prog 152 = true := by kernel_rfl
theorem intT_9 : intT Try.prog 9 = none := by kernel_rfl
theorem intT_159 : intT Try.prog 159 = none := by kernel_rfl
theorem kT_159 : kT Try.prog 159 = 5 := by kernel_rfl
theorem u8T_159 : u8T Try.prog 159 = true := by kernel_rfl
theorem elT_159 : elT Try.prog 159 = some (1, 1) := by kernel_rfl
theorem szT_5 : szT Try.prog 5 = some 1 := by kernel_rfl
theorem aggB_5 : aggB Try.prog 5 = false := by kernel_rfl
theorem hb_153 : hasBody Try.prog 153 = true := by kernel_rfl
theorem hb_154 : hasBody Try.prog 154 = true := by kernel_rfl
theorem hb_155 : hasBody Try.prog 155 = true := by kernel_rfl
theorem hb_156 : hasBody Try.prog 156 = true := by kernel_rfl
theorem intT_162 : intT Try.prog 162 = some .u64 := by kernel_rfl
theorem kT_162 : kT Try.prog 162 = 2 := by kernel_rfl
theorem zeroT_162 : zeroT Try.prog 162 = some [.int .u64 0] := by kernel_rfl
theorem szT_162 : szT Try.prog 162 = some 1 := by kernel_rfl
theorem aggB_162 : aggB Try.prog 162 = false := by kernel_rfl
theorem hb_157 : hasBody Try.prog 157 = true := by kernel_rfl
theorem hb_158 : hasBody Try.prog 158 = true := by kernel_rfl
theorem hb_159 : hasBody Try.prog 159 = true := by kernel_rfl
theorem hb_160 : hasBody Try.prog 160 = true := by kernel_rfl
theorem hb_161 : hasBody Try.prog 161 = true := by kernel_rfl
theorem kT_157 : kT Try.prog 157 = 2 := by kernel_rfl
theorem intT_157 : intT Try.prog 157 = some .u64 := by kernel_rfl
theorem hb_162 : hasBody Try.prog 162 = true := by kernel_rfl
theorem hb_163 : hasBody Try.prog 163 = true := by kernel_rfl
theorem hb_164 : hasBody Try.prog 164 = true := by kernel_rfl
theorem hb_165 : hasBody Try.prog 165 = true := by kernel_rfl
theorem hb_167 : hasBody Try.prog 167 = true := by kernel_rfl
theorem hb_2 : hasBody Try.prog 2 = true := by kernel_rfl
theorem hb_3 : hasBody Try.prog 3 = true := by kernel_rfl
theorem hb_4 : hasBody Try.prog 4 = true := by kernel_rfl
theorem hb_5 : hasBody Try.prog 5 = true := by kernel_rfl
theorem hb_6 : hasBody Try.prog 6 = true := by kernel_rfl
theorem hb_7 : hasBody Try.prog 7 = true := by kernel_rfl
theorem hb_8 : hasBody Try.prog 8 = true := by kernel_rfl
theorem hb_9 : hasBody Try.prog 9 = true := by kernel_rfl
theorem hb_10 : hasBody Try.prog 10 = true := by kernel_rfl
theorem hb_11 : hasBody Try.prog 11 = true := by kernel_rfl
theorem hb_12 : hasBody Try.prog 12 = true := by kernel_rfl
theorem hb_13 : hasBody Try.prog 13 = true := by kernel_rfl
theorem hb_89 : hasBody Try.prog 89 = true := by kernel_rfl
theorem hb_105 : hasBody Try.prog 105 = true := by kernel_rfl
theorem hb_124 : hasBody Try.prog 124 = true := by kernel_rfl
set_option maxRecDepth 20000
theorem all : type_of% (And.intro kT_4 (And.intro szT_29 (And.intro aggB_29 (And.intro kT_29 (And.intro zeroT_29 (And.intro fieldsT_29 (And.intro kT_3 (And.intro kT_37 (And.intro zeroT_37 (And.intro fieldsT_37 (And.intro zeroT_41 (And.intro szT_41 (And.intro aggB_41 (And.intro elT_39 (And.intro elZ_39 (And.intro kT_41 (And.intro fieldsT_41 (And.intro kT_43 (And.intro zeroT_57 (And.intro szT_57 (And.intro aggB_57 (And.intro fldT_37_0 (And.intro szT_24 (And.intro aggB_24 (And.intro kT_24 (And.intro fldT_37_1 (And.intro fldT_29_0 (And.intro szT_9 (And.intro aggB_9 (And.intro kT_9 (And.intro kT_5 (And.intro elT_24 (And.intro elZ_24 (And.intro fldT_29_5 (And.intro szT_27 (And.intro aggB_27 (And.intro kT_27 (And.intro elT_27 (And.intro fldT_29_1 (And.intro fldT_29_2 (And.intro fldT_29_3 (And.intro szT_25 (And.intro aggB_25 (And.intro fldT_29_4 (And.intro szT_26 (And.intro aggB_26 (And.intro kT_26 (And.intro elT_26 (And.intro kT_25 (And.intro kT_81 (And.intro zeroT_81 (And.intro fieldsT_81 (And.intro kT_33 (And.intro szT_37 (And.intro aggB_37 (And.intro kT_47 (And.intro kT_39 (And.intro fldT_41_0 (And.intro szT_3 (And.intro aggB_3 (And.intro fldT_41_1 (And.intro fldT_41_4 (And.intro fldT_41_2 (And.intro fldT_41_3 (And.intro fldT_41_5 (And.intro szT_39 (And.intro aggB_39 (And.intro zvT_47 (And.intro kT_57 (And.intro fieldsT_57 (And.intro fldT_57_0 (And.intro fldT_57_1 (And.intro fldT_57_2 (And.intro fldT_57_3 (And.intro fldT_57_4 (And.intro elT_25 (And.intro elZ_25 (And.intro elZ_26 (And.intro elZ_27 (And.intro szT_99 (And.intro aggB_99 (And.intro kT_99 (And.intro strsT_99 (And.intro zeroT_99 (And.intro fldT_99_0 (And.intro fldT_99_1 (And.intro zeroT_3 (And.intro intT_5 (And.intro intT_33 (And.intro intT_3 (And.intro mapT_92 (And.intro intT_116 (And.intro kT_116 (And.intro fldT_81_0 (And.intro fieldsT_99 (And.intro kT_147 (And.intro intT_9 (And.intro intT_159 (And.intro kT_159 (And.intro u8T_159 (And.intro elT_159 (And.intro szT_5 (And.intro aggB_5 (And.intro intT_162 (And.intro kT_162 (And.intro zeroT_162 (And.intro szT_162 (And.intro aggB_162 (And.intro kT_157 (intT_157)))))))))))))))))))))))))))))))))))))))))))))))))))))))))))))))))))))))))))))))))))))))))))))))))))))))))))))) := And.intro kT_4 (And.intro szT_29 (And.intro aggB_29 (And.intro kT_29 (And.intro zeroT_29 (And.intro fieldsT_29 (And.intro kT_3 (And.intro kT_37 (And.intro zeroT_37 (And.intro fieldsT_37 (And.intro zeroT_41 (And.intro szT_41 (And.intro aggB_41 (And.intro elT_39 (And.intro elZ_39 (And.intro kT_41 (And.intro fieldsT_41 (And.intro kT_43 (And.intro zeroT_57 (And.intro szT_57 (And.intro aggB_57 (And.intro fldT_37_0 (And.intro szT_24 (And.intro aggB_24 (And.intro kT_24 (And.intro fldT_37_1 (And.intro fldT_29_0 (And.intro szT_9 (And.intro aggB_9 (And.intro kT_9 (And.intro kT_5 (And.intro elT_24 (And.intro elZ_24 (And.intro fldT_29_5 (And.intro szT_27 (And.intro aggB_27 (And.intro kT_27 (And.intro elT_27 (And.intro fldT_29_1 (And.intro fldT_29_2 (And.intro fldT_29_3 (And.intro szT_25 (And.intro aggB_25 (And.intro fldT_29_4 (And.intro szT_26 (And.intro aggB_26 (And.intro kT_26 (And.intro elT_26 (And.intro kT_25 (And.intro kT_81 (And.intro zeroT_81 (And.intro fieldsT_81 (And.intro kT_33 (And.intro szT_37 (And.intro aggB_37 (And.intro kT_47 (And.intro kT_39 (And.intro fldT_41_0 (And.intro szT_3 (And.intro aggB_3 (And.intro fldT_41_1 (And.intro fldT_41_4 (And.intro fldT_41_2 (And.intro fldT_41_3 (And.intro fldT_41_5 (And.intro szT_39 (And.intro aggB_39 (And.intro zvT_47 (And.intro kT_57 (And.intro fieldsT_57 (And.intro fldT_57_0 (And.intro fldT_57_1 (And.intro fldT_57_2 (And.intro fldT_57_3 (And.intro fldT_57_4 (And.intro elT_25 (And.intro elZ_25 (And.intro elZ_26 (And.intro elZ_27 (And.intro szT_99 (And.intro aggB_99 (And.intro kT_99 (And.intro strsT_99 (And.intro zeroT_99 (And.intro fldT_99_0 (And.intro fldT_99_1 (And.intro zeroT_3 (And.intro intT_5 (And.intro intT_33 (And.intro intT_3 (And.intro mapT_92 (And.intro intT_116 (And.intro kT_116 (And.intro fldT_81_0 (And.intro fieldsT_99 (And.intro kT_147 (And.intro intT_9 (And.intro intT_159 (And.intro kT_159 (And.intro u8T_159 (And.intro elT_159 (And.intro szT_5 (And.intro aggB_5 (And.intro intT_162 (And.intro kT_162 (And.intro zeroT_162 (And.intro szT_162 (And.intro aggB_162 (And.intro kT_157 (intT_157)))))))))))))))))))))))))))))))))))))))))))))))))))))))))))))))))))))))))))))))))))))))))))))))))))))))))))))
end Ty
end Go.Proofs.Ytjlkapgpjamnkaa
