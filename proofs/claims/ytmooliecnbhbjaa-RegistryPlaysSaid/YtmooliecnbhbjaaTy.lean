/- What the walks ask of this program's tables. -/
import Derived.Test.YtmooliecnbhbjaaAmSimp
import Derived.Test.YtmooliecnbhbjaaProg
namespace Go.Proofs.Ytmooliecnbhbjaa
open Go.AM
namespace Ty
theorem mixed : Try.prog.follows .mixedOrders = true := by kernel_rfl
theorem hb_16 : hasBody Try.prog 16 = true := by kernel_rfl
theorem kT_22 : kT Try.prog 22 = 5 := by kernel_rfl
theorem elT_22 : elT Try.prog 22 = some (1, 8) := by kernel_rfl
theorem elZ_22 : elZ Try.prog 22 = some [.int .i64 0] := by kernel_rfl
theorem hb_17 : hasBody Try.prog 17 = true := by kernel_rfl
theorem hb_18 : hasBody Try.prog 18 = true := by kernel_rfl
theorem kT_3 : kT Try.prog 3 = 2 := by kernel_rfl
theorem hb_19 : hasBody Try.prog 19 = true := by kernel_rfl
theorem kT_28 : kT Try.prog 28 = 7 := by kernel_rfl
theorem hb_20 : hasBody Try.prog 20 = true := by kernel_rfl
theorem hb_21 : hasBody Try.prog 21 = true := by kernel_rfl
theorem kT_31 : kT Try.prog 31 = 5 := by kernel_rfl
theorem hb_22 : hasBody Try.prog 22 = true := by kernel_rfl
theorem hb_24 : hasBody Try.prog 24 = true := by kernel_rfl
theorem hb_23 : hasBody Try.prog 23 = true := by kernel_rfl
theorem kT_26 : kT Try.prog 26 = 4 := by kernel_rfl
theorem hb_25 : hasBody Try.prog 25 = true := by kernel_rfl
theorem hb_26 : hasBody Try.prog 26 = true := by kernel_rfl
theorem hb_27 : hasBody Try.prog 27 = true := by kernel_rfl
theorem szT_3 : szT Try.prog 3 = some 1 := by kernel_rfl
theorem aggB_3 : aggB Try.prog 3 = false := by kernel_rfl
theorem hb_28 : hasBody Try.prog 28 = true := by kernel_rfl
theorem hb_29 : hasBody Try.prog 29 = true := by kernel_rfl
theorem elT_31 : elT Try.prog 31 = some (1, 8) := by kernel_rfl
theorem elZ_31 : elZ Try.prog 31 = some [.int .u64 0] := by kernel_rfl
theorem hb_30 : hasBody Try.prog 30 = true := by kernel_rfl
theorem hb_31 : hasBody Try.prog 31 = true := by kernel_rfl
theorem hb_32 : hasBody Try.prog 32 = true := by kernel_rfl
theorem kT_51 : kT Try.prog 51 = 9 := by kernel_rfl
theorem arT_51 : arT Try.prog 51 = some (2, 1) := by kernel_rfl
theorem hb_33 : hasBody Try.prog 33 = true := by kernel_rfl
theorem hb_34 : hasBody Try.prog 34 = true := by kernel_rfl
theorem hb_35 : hasBody Try.prog 35 = true := by kernel_rfl
theorem kT_40 : kT Try.prog 40 = 5 := by kernel_rfl
theorem elT_40 : elT Try.prog 40 = some (3, 24) := by kernel_rfl
theorem fldT_57_2 : fldT Try.prog 57 2 = some (2, 1, false) := by kernel_rfl
theorem fldT_57_0 : fldT Try.prog 57 0 = some (0, 1, false) := by kernel_rfl
theorem szT_58 : szT Try.prog 58 = some 1 := by kernel_rfl
theorem aggB_58 : aggB Try.prog 58 = false := by kernel_rfl
theorem fldT_57_1 : fldT Try.prog 57 1 = some (1, 1, false) := by kernel_rfl
theorem kT_58 : kT Try.prog 58 = 2 := by kernel_rfl
theorem kT_60 : kT Try.prog 60 = 5 := by kernel_rfl
theorem elT_60 : elT Try.prog 60 = some (2, 16) := by kernel_rfl
theorem szT_51 : szT Try.prog 51 = some 2 := by kernel_rfl
theorem aggB_51 : aggB Try.prog 51 = true := by kernel_rfl
theorem zeroT_51 : zeroT Try.prog 51 = some [.int .i64 0, .int .i64 0] := by kernel_rfl
theorem hb_36 : hasBody Try.prog 36 = true := by kernel_rfl
theorem kT_4 : kT Try.prog 4 = 1 := by kernel_rfl
theorem hb_37 : hasBody Try.prog 37 = true := by kernel_rfl
theorem hb_38 : hasBody Try.prog 38 = true := by kernel_rfl
theorem hb_39 : hasBody Try.prog 39 = true := by kernel_rfl
theorem intT_5 : intT Try.prog 5 = some .u8 := by kernel_rfl
theorem intT_3 : intT Try.prog 3 = some .i64 := by kernel_rfl
theorem kT_5 : kT Try.prog 5 = 2 := by kernel_rfl
theorem hb_40 : hasBody Try.prog 40 = true := by kernel_rfl
theorem kT_70 : kT Try.prog 70 = 5 := by kernel_rfl
theorem kT_64 : kT Try.prog 64 = 4 := by kernel_rfl
theorem elT_70 : elT Try.prog 70 = some (1, 24) := by kernel_rfl
theorem szT_22 : szT Try.prog 22 = some 1 := by kernel_rfl
theorem aggB_22 : aggB Try.prog 22 = false := by kernel_rfl
theorem elZ_70 : elZ Try.prog 70 = some [.slice none 0 0] := by kernel_rfl
theorem hb_41 : hasBody Try.prog 41 = true := by kernel_rfl
theorem elT_73 : elT Try.prog 73 = some (1, 16) := by kernel_rfl
theorem elZ_73 : elZ Try.prog 73 = some [.nilIface] := by kernel_rfl
theorem kT_73 : kT Try.prog 73 = 5 := by kernel_rfl
theorem szT_28 : szT Try.prog 28 = some 1 := by kernel_rfl
theorem aggB_28 : aggB Try.prog 28 = false := by kernel_rfl
theorem kT_75 : kT Try.prog 75 = 5 := by kernel_rfl
theorem elT_75 : elT Try.prog 75 = some (1, 1) := by kernel_rfl
theorem szT_5 : szT Try.prog 5 = some 1 := by kernel_rfl
theorem aggB_5 : aggB Try.prog 5 = false := by kernel_rfl
theorem kT_76 : kT Try.prog 76 = 5 := by kernel_rfl
theorem elT_76 : elT Try.prog 76 = some (1, 2) := by kernel_rfl
theorem szT_77 : szT Try.prog 77 = some 1 := by kernel_rfl
theorem aggB_77 : aggB Try.prog 77 = false := by kernel_rfl
theorem intT_77 : intT Try.prog 77 = some .i16 := by kernel_rfl
theorem kT_77 : kT Try.prog 77 = 2 := by kernel_rfl
theorem hb_42 : hasBody Try.prog 42 = true := by kernel_rfl
theorem hb_43 : hasBody Try.prog 43 = true := by kernel_rfl
theorem kT_82 : kT Try.prog 82 = 5 := by kernel_rfl
theorem elT_82 : elT Try.prog 82 = some (6, 64) := by kernel_rfl
theorem szT_85 : szT Try.prog 85 = some 6 := by kernel_rfl
theorem aggB_85 : aggB Try.prog 85 = true := by kernel_rfl
theorem zeroT_85 : zeroT Try.prog 85 = some [.int .u8 0, .slice none 0 0, .int .i64 0, .int .i64 0, .int .i64 0, .int .i64 0] := by kernel_rfl
theorem fldT_85_1 : fldT Try.prog 85 1 = some (1, 1, false) := by kernel_rfl
theorem fldT_85_0 : fldT Try.prog 85 0 = some (0, 1, false) := by kernel_rfl
theorem hb_44 : hasBody Try.prog 44 = true := by kernel_rfl
theorem fldT_85_2 : fldT Try.prog 85 2 = some (2, 1, false) := by kernel_rfl
theorem fldT_85_3 : fldT Try.prog 85 3 = some (3, 1, false) := by kernel_rfl
theorem fldT_85_4 : fldT Try.prog 85 4 = some (4, 1, false) := by kernel_rfl
theorem fldT_85_5 : fldT Try.prog 85 5 = some (5, 1, false) := by kernel_rfl
theorem hb_45 : hasBody Try.prog 45 = true := by kernel_rfl
theorem hb_46 : hasBody Try.prog 46 = true := by kernel_rfl
theorem hb_47 : hasBody Try.prog 47 = true := by kernel_rfl
theorem hb_48 : hasBody Try.prog 48 = true := by kernel_rfl
theorem hb_49 : hasBody Try.prog 49 = true := by kernel_rfl
theorem hb_50 : hasBody Try.prog 50 = true := by kernel_rfl
theorem kT_36 : kT Try.prog 36 = 2 := by kernel_rfl
theorem kT_101 : kT Try.prog 101 = 8 := by kernel_rfl
theorem zeroT_101 : zeroT Try.prog 101 = some [.slice none 0 0, .int .i64 0] := by kernel_rfl
theorem fieldsT_101 : fieldsT Try.prog 101 = some [(0, 1), (1, 1)] := by kernel_rfl
theorem fldT_101_1 : fldT Try.prog 101 1 = some (1, 1, false) := by kernel_rfl
theorem fldT_101_0 : fldT Try.prog 101 0 = some (0, 1, false) := by kernel_rfl
theorem szT_99 : szT Try.prog 99 = some 1 := by kernel_rfl
theorem aggB_99 : aggB Try.prog 99 = false := by kernel_rfl
theorem kT_103 : kT Try.prog 103 = 8 := by kernel_rfl
theorem zeroT_103 : zeroT Try.prog 103 = some [.int .i64 0, .int .i64 0, .int .i64 0, .int .i64 0] := by kernel_rfl
theorem fieldsT_103 : fieldsT Try.prog 103 = some [(0, 1), (1, 1), (2, 1), (3, 1)] := by kernel_rfl
theorem elT_99 : elT Try.prog 99 = some (4, 32) := by kernel_rfl
theorem elZ_99 : elZ Try.prog 99 = some [.int .i64 0, .int .i64 0, .int .i64 0, .int .i64 0] := by kernel_rfl
theorem kT_99 : kT Try.prog 99 = 5 := by kernel_rfl
theorem szT_103 : szT Try.prog 103 = some 4 := by kernel_rfl
theorem aggB_103 : aggB Try.prog 103 = true := by kernel_rfl
theorem fldT_103_3 : fldT Try.prog 103 3 = some (3, 1, false) := by kernel_rfl
theorem fldT_103_0 : fldT Try.prog 103 0 = some (0, 1, false) := by kernel_rfl
theorem intT_58 : intT Try.prog 58 = some .u64 := by kernel_rfl
theorem fldT_103_1 : fldT Try.prog 103 1 = some (1, 1, false) := by kernel_rfl
theorem szT_57 : szT Try.prog 57 = some 3 := by kernel_rfl
theorem aggB_57 : aggB Try.prog 57 = true := by kernel_rfl
theorem zeroT_57 : zeroT Try.prog 57 = some [.int .i64 0, .int .i64 0, .int .i64 0] := by kernel_rfl
theorem zvT_36 : zvT Try.prog 36 = some (.int .i64 0) := by kernel_rfl
theorem kT_57 : kT Try.prog 57 = 8 := by kernel_rfl
theorem fieldsT_57 : fieldsT Try.prog 57 = some [(0, 1), (1, 1), (2, 1)] := by kernel_rfl
theorem elZ_40 : elZ Try.prog 40 = some [.int .i64 0, .int .i64 0, .int .i64 0] := by kernel_rfl
theorem fldT_103_2 : fldT Try.prog 103 2 = some (2, 1, false) := by kernel_rfl
theorem hb_51 : hasBody Try.prog 51 = true := by kernel_rfl
theorem hb_52 : hasBody Try.prog 52 = true := by kernel_rfl
theorem hb_53 : hasBody Try.prog 53 = true := by kernel_rfl
theorem kT_111 : kT Try.prog 111 = 8 := by kernel_rfl
theorem zeroT_111 : zeroT Try.prog 111 = some [.pointer none, .slice none 0 0, .map none] := by kernel_rfl
theorem fieldsT_111 : fieldsT Try.prog 111 = some [(0, 1), (1, 1), (2, 1)] := by kernel_rfl
theorem hb_54 : hasBody Try.prog 54 = true := by kernel_rfl
theorem fldT_111_1 : fldT Try.prog 111 1 = some (1, 1, false) := by kernel_rfl
theorem szT_109 : szT Try.prog 109 = some 1 := by kernel_rfl
theorem aggB_109 : aggB Try.prog 109 = false := by kernel_rfl
theorem kT_109 : kT Try.prog 109 = 5 := by kernel_rfl
theorem kT_115 : kT Try.prog 115 = 8 := by kernel_rfl
theorem zeroT_115 : zeroT Try.prog 115 = some [.int .i64 0, .int .i64 0, .int .i64 0] := by kernel_rfl
theorem fieldsT_115 : fieldsT Try.prog 115 = some [(0, 1), (1, 1), (2, 1)] := by kernel_rfl
theorem kT_117 : kT Try.prog 117 = 8 := by kernel_rfl
theorem zeroT_117 : zeroT Try.prog 117 = some [.slice none 0 0, .int .i64 0, .int .i64 0, .int .i64 0] := by kernel_rfl
theorem fieldsT_117 : fieldsT Try.prog 117 = some [(0, 1), (1, 3)] := by kernel_rfl
theorem elT_109 : elT Try.prog 109 = some (4, 48) := by kernel_rfl
theorem elZ_109 : elZ Try.prog 109 = some [.slice none 0 0, .int .i64 0, .int .i64 0, .int .i64 0] := by kernel_rfl
theorem fldT_111_2 : fldT Try.prog 111 2 = some (2, 1, false) := by kernel_rfl
theorem szT_108 : szT Try.prog 108 = some 1 := by kernel_rfl
theorem aggB_108 : aggB Try.prog 108 = false := by kernel_rfl
theorem mapT_108 : mapT Try.prog 108 = some (2, (.slice none 0 0)) := by kernel_rfl
theorem hb_55 : hasBody Try.prog 55 = true := by kernel_rfl
theorem fldT_117_1 : fldT Try.prog 117 1 = some (1, 3, true) := by kernel_rfl
theorem szT_115 : szT Try.prog 115 = some 3 := by kernel_rfl
theorem aggB_115 : aggB Try.prog 115 = true := by kernel_rfl
theorem fldT_115_0 : fldT Try.prog 115 0 = some (0, 1, false) := by kernel_rfl
theorem hb_56 : hasBody Try.prog 56 = true := by kernel_rfl
theorem fldT_115_1 : fldT Try.prog 115 1 = some (1, 1, false) := by kernel_rfl
theorem kT_83 : kT Try.prog 83 = 5 := by kernel_rfl
theorem elT_83 : elT Try.prog 83 = some (4, 48) := by kernel_rfl
theorem fldT_121_0 : fldT Try.prog 121 0 = some (0, 1, false) := by kernel_rfl
theorem elZ_83 : elZ Try.prog 83 = some [.slice none 0 0, .int .i64 0, .int .i64 0, .int .i64 0] := by kernel_rfl
theorem kT_121 : kT Try.prog 121 = 8 := by kernel_rfl
theorem zeroT_121 : zeroT Try.prog 121 = some [.slice none 0 0, .int .i64 0, .int .i64 0, .int .i64 0] := by kernel_rfl
theorem fieldsT_121 : fieldsT Try.prog 121 = some [(0, 1), (1, 1), (2, 1), (3, 1)] := by kernel_rfl
theorem szT_121 : szT Try.prog 121 = some 4 := by kernel_rfl
theorem aggB_121 : aggB Try.prog 121 = true := by kernel_rfl
theorem fldT_121_1 : fldT Try.prog 121 1 = some (1, 1, false) := by kernel_rfl
theorem fldT_121_2 : fldT Try.prog 121 2 = some (2, 1, false) := by kernel_rfl
theorem fldT_121_3 : fldT Try.prog 121 3 = some (3, 1, false) := by kernel_rfl
theorem fldT_111_0 : fldT Try.prog 111 0 = some (0, 1, false) := by kernel_rfl
theorem szT_26 : szT Try.prog 26 = some 1 := by kernel_rfl
theorem aggB_26 : aggB Try.prog 26 = false := by kernel_rfl
theorem fldT_117_0 : fldT Try.prog 117 0 = some (0, 1, false) := by kernel_rfl
theorem szT_31 : szT Try.prog 31 = some 1 := by kernel_rfl
theorem aggB_31 : aggB Try.prog 31 = false := by kernel_rfl
theorem fldT_115_2 : fldT Try.prog 115 2 = some (2, 1, false) := by kernel_rfl
theorem hb_57 : hasBody Try.prog 57 = true := by kernel_rfl
theorem hb_2 : hasBody Try.prog 2 = true := by kernel_rfl
theorem hb_3 : hasBody Try.prog 3 = true := by kernel_rfl
theorem hb_4 : hasBody Try.prog 4 = true := by kernel_rfl
theorem hb_5 : hasBody Try.prog 5 = true := by kernel_rfl
theorem hb_6 : hasBody Try.prog 6 = true := by kernel_rfl
theorem hb_7 : hasBody Try.prog 7 = true := by kernel_rfl
theorem hb_8 : hasBody Try.prog 8 = true := by kernel_rfl
theorem hb_9 : hasBody Try.prog 9 = true := by kernel_rfl
theorem hb_10 : hasBody Try.prog 10 = true := by kernel_rfl
theorem hb_11 : hasBody Try.prog 11 = true := by kernel_rfl
theorem hb_12 : hasBody Try.prog 12 = true := by kernel_rfl
theorem hb_13 : hasBody Try.prog 13 = true := by kernel_rfl
theorem hb_14 : hasBody Try.prog 14 = true := by kernel_rfl
theorem hb_15 : hasBody Try.prog 15 = true := by kernel_rfl
set_option maxRecDepth 20000
theorem all : type_of% (And.intro kT_22 (And.intro elT_22 (And.intro elZ_22 (And.intro kT_3 (And.intro kT_28 (And.intro kT_31 (And.intro kT_26 (And.intro szT_3 (And.intro aggB_3 (And.intro elT_31 (And.intro elZ_31 (And.intro kT_51 (And.intro arT_51 (And.intro kT_40 (And.intro elT_40 (And.intro fldT_57_2 (And.intro fldT_57_0 (And.intro szT_58 (And.intro aggB_58 (And.intro fldT_57_1 (And.intro kT_58 (And.intro kT_60 (And.intro elT_60 (And.intro szT_51 (And.intro aggB_51 (And.intro zeroT_51 (And.intro kT_4 (And.intro intT_5 (And.intro intT_3 (And.intro kT_5 (And.intro kT_70 (And.intro kT_64 (And.intro elT_70 (And.intro szT_22 (And.intro aggB_22 (And.intro elZ_70 (And.intro elT_73 (And.intro elZ_73 (And.intro kT_73 (And.intro szT_28 (And.intro aggB_28 (And.intro kT_75 (And.intro elT_75 (And.intro szT_5 (And.intro aggB_5 (And.intro kT_76 (And.intro elT_76 (And.intro szT_77 (And.intro aggB_77 (And.intro intT_77 (And.intro kT_77 (And.intro kT_82 (And.intro elT_82 (And.intro szT_85 (And.intro aggB_85 (And.intro zeroT_85 (And.intro fldT_85_1 (And.intro fldT_85_0 (And.intro fldT_85_2 (And.intro fldT_85_3 (And.intro fldT_85_4 (And.intro fldT_85_5 (And.intro kT_36 (And.intro kT_101 (And.intro zeroT_101 (And.intro fieldsT_101 (And.intro fldT_101_1 (And.intro fldT_101_0 (And.intro szT_99 (And.intro aggB_99 (And.intro kT_103 (And.intro zeroT_103 (And.intro fieldsT_103 (And.intro elT_99 (And.intro elZ_99 (And.intro kT_99 (And.intro szT_103 (And.intro aggB_103 (And.intro fldT_103_3 (And.intro fldT_103_0 (And.intro intT_58 (And.intro fldT_103_1 (And.intro szT_57 (And.intro aggB_57 (And.intro zeroT_57 (And.intro zvT_36 (And.intro kT_57 (And.intro fieldsT_57 (And.intro elZ_40 (And.intro fldT_103_2 (And.intro kT_111 (And.intro zeroT_111 (And.intro fieldsT_111 (And.intro fldT_111_1 (And.intro szT_109 (And.intro aggB_109 (And.intro kT_109 (And.intro kT_115 (And.intro zeroT_115 (And.intro fieldsT_115 (And.intro kT_117 (And.intro zeroT_117 (And.intro fieldsT_117 (And.intro elT_109 (And.intro elZ_109 (And.intro fldT_111_2 (And.intro szT_108 (And.intro aggB_108 (And.intro mapT_108 (And.intro fldT_117_1 (And.intro szT_115 (And.intro aggB_115 (And.intro fldT_115_0 (And.intro fldT_115_1 (And.intro kT_83 (And.intro elT_83 (And.intro fldT_121_0 (And.intro elZ_83 (And.intro kT_121 (And.intro zeroT_121 (And.intro fieldsT_121 (And.intro szT_121 (And.intro aggB_121 (And.intro fldT_121_1 (And.intro fldT_121_2 (And.intro fldT_121_3 (And.intro fldT_111_0 (And.intro szT_26 (And.intro aggB_26 (And.intro fldT_117_0 (And.intro szT_31 (And.intro aggB_31 (fldT_115_2))))))))))))))))))))))))))))))))))))))))))))))))))))))))))))))))))))))))))))))))))))))))))))))))))))))))))))))))))))))))))))))))))))) := And.intro kT_22 (And.intro elT_22 (And.intro elZ_22 (And.intro kT_3 (And.intro kT_28 (And.intro kT_31 (And.intro kT_26 (And.intro szT_3 (And.intro aggB_3 (And.intro elT_31 (And.intro elZ_31 (And.intro kT_51 (And.intro arT_51 (And.intro kT_40 (And.intro elT_40 (And.intro fldT_57_2 (And.intro fldT_57_0 (And.intro szT_58 (And.intro aggB_58 (And.intro fldT_57_1 (And.intro kT_58 (And.intro kT_60 (And.intro elT_60 (And.intro szT_51 (And.intro aggB_51 (And.intro zeroT_51 (And.intro kT_4 (And.intro intT_5 (And.intro intT_3 (And.intro kT_5 (And.intro kT_70 (And.intro kT_64 (And.intro elT_70 (And.intro szT_22 (And.intro aggB_22 (And.intro elZ_70 (And.intro elT_73 (And.intro elZ_73 (And.intro kT_73 (And.intro szT_28 (And.intro aggB_28 (And.intro kT_75 (And.intro elT_75 (And.intro szT_5 (And.intro aggB_5 (And.intro kT_76 (And.intro elT_76 (And.intro szT_77 (And.intro aggB_77 (And.intro intT_77 (And.intro kT_77 (And.intro kT_82 (And.intro elT_82 (And.intro szT_85 (And.intro aggB_85 (And.intro zeroT_85 (And.intro fldT_85_1 (And.intro fldT_85_0 (And.intro fldT_85_2 (And.intro fldT_85_3 (And.intro fldT_85_4 (And.intro fldT_85_5 (And.intro kT_36 (And.intro kT_101 (And.intro zeroT_101 (And.intro fieldsT_101 (And.intro fldT_101_1 (And.intro fldT_101_0 (And.intro szT_99 (And.intro aggB_99 (And.intro kT_103 (And.intro zeroT_103 (And.intro fieldsT_103 (And.intro elT_99 (And.intro elZ_99 (And.intro kT_99 (And.intro szT_103 (And.intro aggB_103 (And.intro fldT_103_3 (And.intro fldT_103_0 (And.intro intT_58 (And.intro fldT_103_1 (And.intro szT_57 (And.intro aggB_57 (And.intro zeroT_57 (And.intro zvT_36 (And.intro kT_57 (And.intro fieldsT_57 (And.intro elZ_40 (And.intro fldT_103_2 (And.intro kT_111 (And.intro zeroT_111 (And.intro fieldsT_111 (And.intro fldT_111_1 (And.intro szT_109 (And.intro aggB_109 (And.intro kT_109 (And.intro kT_115 (And.intro zeroT_115 (And.intro fieldsT_115 (And.intro kT_117 (And.intro zeroT_117 (And.intro fieldsT_117 (And.intro elT_109 (And.intro elZ_109 (And.intro fldT_111_2 (And.intro szT_108 (And.intro aggB_108 (And.intro mapT_108 (And.intro fldT_117_1 (And.intro szT_115 (And.intro aggB_115 (And.intro fldT_115_0 (And.intro fldT_115_1 (And.intro kT_83 (And.intro elT_83 (And.intro fldT_121_0 (And.intro elZ_83 (And.intro kT_121 (And.intro zeroT_121 (And.intro fieldsT_121 (And.intro szT_121 (And.intro aggB_121 (And.intro fldT_121_1 (And.intro fldT_121_2 (And.intro fldT_121_3 (And.intro fldT_111_0 (And.intro szT_26 (And.intro aggB_26 (And.intro fldT_117_0 (And.intro szT_31 (And.intro aggB_31 (fldT_115_2))))))))))))))))))))))))))))))))))))))))))))))))))))))))))))))))))))))))))))))))))))))))))))))))))))))))))))))))))))))))))))))))))))
end Ty
end Go.Proofs.Ytmooliecnbhbjaa
