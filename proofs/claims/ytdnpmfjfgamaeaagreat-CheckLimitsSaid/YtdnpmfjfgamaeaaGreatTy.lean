/- What the walks ask of this program's tables. -/
import Derived.Test.YtdnpmfjfgamaeaaGreatAmSimp
import Derived.Test.YtdnpmfjfgamaeaaGreatProg
namespace Go.Proofs.YtdnpmfjfgamaeaaGreat
open Go.AM
namespace Ty
theorem mixed : Tryz.prog.follows .mixedOrders = true := by kernel_rfl
theorem hb_10 : hasBody Tryz.prog 10 = true := by kernel_rfl
theorem hb_11 : hasBody Tryz.prog 11 = true := by kernel_rfl
theorem zeroT_29 : zeroT Tryz.prog 29 = some [.string ⟨#[]⟩, .slice none 0 0, .slice none 0 0, .slice none 0 0, .slice none 0 0, .slice none 0 0, .slice none 0 0] := by kernel_rfl
theorem zeroT_38 : zeroT Tryz.prog 38 = some [.string ⟨#[]⟩, .string ⟨#[]⟩, .slice none 0 0, .slice none 0 0, .slice none 0 0, .string ⟨#[]⟩, .string ⟨#[]⟩, .slice none 0 0, .slice none 0 0, .slice none 0 0, .slice none 0 0] := by kernel_rfl
theorem szT_29 : szT Tryz.prog 29 = some 7 := by kernel_rfl
theorem aggB_29 : aggB Tryz.prog 29 = true := by kernel_rfl
theorem szT_38 : szT Tryz.prog 38 = some 11 := by kernel_rfl
theorem aggB_38 : aggB Tryz.prog 38 = true := by kernel_rfl
theorem hb_12 : hasBody Tryz.prog 12 = true := by kernel_rfl
theorem elT_32 : elT Tryz.prog 32 = some (1, 16) := by kernel_rfl
theorem elZ_32 : elZ Tryz.prog 32 = some [.string ⟨#[]⟩] := by kernel_rfl
theorem kT_36 : kT Tryz.prog 36 = 8 := by kernel_rfl
theorem zeroT_36 : zeroT Tryz.prog 36 = some [.string ⟨#[]⟩, .string ⟨#[]⟩, .slice none 0 0, .slice none 0 0, .slice none 0 0, .slice none 0 0] := by kernel_rfl
theorem fieldsT_36 : fieldsT Tryz.prog 36 = some [(0, 1), (1, 1), (2, 1), (3, 1), (4, 1), (5, 1)] := by kernel_rfl
theorem kT_43 : kT Tryz.prog 43 = 8 := by kernel_rfl
theorem zeroT_43 : zeroT Tryz.prog 43 = some [.string ⟨#[]⟩, .string ⟨#[]⟩, .int .i64 0, .slice none 0 0, .slice none 0 0] := by kernel_rfl
theorem fieldsT_43 : fieldsT Tryz.prog 43 = some [(0, 1), (1, 1), (2, 1), (3, 1), (4, 1)] := by kernel_rfl
theorem elT_33 : elT Tryz.prog 33 = some (5, 88) := by kernel_rfl
theorem elZ_33 : elZ Tryz.prog 33 = some [.string ⟨#[]⟩, .string ⟨#[]⟩, .int .i64 0, .slice none 0 0, .slice none 0 0] := by kernel_rfl
theorem elT_34 : elT Tryz.prog 34 = some (6, 128) := by kernel_rfl
theorem elZ_34 : elZ Tryz.prog 34 = some [.string ⟨#[]⟩, .string ⟨#[]⟩, .slice none 0 0, .slice none 0 0, .slice none 0 0, .slice none 0 0] := by kernel_rfl
theorem elT_45 : elT Tryz.prog 45 = some (1, 8) := by kernel_rfl
theorem elZ_45 : elZ Tryz.prog 45 = some [.int .i64 0] := by kernel_rfl
theorem intT_5 : intT Tryz.prog 5 = some .u8 := by kernel_rfl
theorem intT_3 : intT Tryz.prog 3 = some .i64 := by kernel_rfl
theorem kT_5 : kT Tryz.prog 5 = 2 := by kernel_rfl
theorem kT_3 : kT Tryz.prog 3 = 2 := by kernel_rfl
theorem kT_34 : kT Tryz.prog 34 = 5 := by kernel_rfl
theorem szT_36 : szT Tryz.prog 36 = some 6 := by kernel_rfl
theorem aggB_36 : aggB Tryz.prog 36 = true := by kernel_rfl
theorem fldT_38_5 : fldT Tryz.prog 38 5 = some (5, 6, true) := by kernel_rfl
theorem kT_45 : kT Tryz.prog 45 = 5 := by kernel_rfl
theorem szT_44 : szT Tryz.prog 44 = some 1 := by kernel_rfl
theorem aggB_44 : aggB Tryz.prog 44 = false := by kernel_rfl
theorem hb_13 : hasBody Tryz.prog 13 = true := by kernel_rfl
theorem fldT_29_5 : fldT Tryz.prog 29 5 = some (5, 1, false) := by kernel_rfl
theorem szT_26 : szT Tryz.prog 26 = some 1 := by kernel_rfl
theorem aggB_26 : aggB Tryz.prog 26 = false := by kernel_rfl
theorem hb_14 : hasBody Tryz.prog 14 = true := by kernel_rfl
theorem kT_26 : kT Tryz.prog 26 = 5 := by kernel_rfl
theorem elT_26 : elT Tryz.prog 26 = some (10, 200) := by kernel_rfl
theorem fldT_50_3 : fldT Tryz.prog 50 3 = some (3, 6, true) := by kernel_rfl
theorem fldT_50_4 : fldT Tryz.prog 50 4 = some (9, 1, false) := by kernel_rfl
theorem szT_48 : szT Tryz.prog 48 = some 1 := by kernel_rfl
theorem aggB_48 : aggB Tryz.prog 48 = false := by kernel_rfl
theorem kT_48 : kT Tryz.prog 48 = 5 := by kernel_rfl
theorem elT_48 : elT Tryz.prog 48 = some (15, 288) := by kernel_rfl
theorem fldT_52_2 : fldT Tryz.prog 52 2 = some (2, 6, true) := by kernel_rfl
theorem fldT_36_0 : fldT Tryz.prog 36 0 = some (0, 1, false) := by kernel_rfl
theorem szT_9 : szT Tryz.prog 9 = some 1 := by kernel_rfl
theorem aggB_9 : aggB Tryz.prog 9 = false := by kernel_rfl
theorem kT_9 : kT Tryz.prog 9 = 3 := by kernel_rfl
theorem fldT_36_1 : fldT Tryz.prog 36 1 = some (1, 1, false) := by kernel_rfl
theorem fldT_36_2 : fldT Tryz.prog 36 2 = some (2, 1, false) := by kernel_rfl
theorem szT_32 : szT Tryz.prog 32 = some 1 := by kernel_rfl
theorem aggB_32 : aggB Tryz.prog 32 = false := by kernel_rfl
theorem fldT_52_3 : fldT Tryz.prog 52 3 = some (8, 1, false) := by kernel_rfl
theorem fldT_52_4 : fldT Tryz.prog 52 4 = some (9, 1, false) := by kernel_rfl
theorem fldT_38_3 : fldT Tryz.prog 38 3 = some (3, 1, false) := by kernel_rfl
theorem szT_30 : szT Tryz.prog 30 = some 1 := by kernel_rfl
theorem aggB_30 : aggB Tryz.prog 30 = false := by kernel_rfl
theorem kT_54 : kT Tryz.prog 54 = 8 := by kernel_rfl
theorem zeroT_54 : zeroT Tryz.prog 54 = some [.string ⟨#[]⟩, .slice none 0 0] := by kernel_rfl
theorem fieldsT_54 : fieldsT Tryz.prog 54 = some [(0, 1), (1, 1)] := by kernel_rfl
theorem elT_30 : elT Tryz.prog 30 = some (2, 40) := by kernel_rfl
theorem elZ_30 : elZ Tryz.prog 30 = some [.string ⟨#[]⟩, .slice none 0 0] := by kernel_rfl
theorem kT_30 : kT Tryz.prog 30 = 5 := by kernel_rfl
theorem kT_57 : kT Tryz.prog 57 = 8 := by kernel_rfl
theorem zeroT_57 : zeroT Tryz.prog 57 = some [.string ⟨#[]⟩, .string ⟨#[]⟩] := by kernel_rfl
theorem fieldsT_57 : fieldsT Tryz.prog 57 = some [(0, 1), (1, 1)] := by kernel_rfl
theorem elT_23 : elT Tryz.prog 23 = some (2, 32) := by kernel_rfl
theorem elZ_23 : elZ Tryz.prog 23 = some [.string ⟨#[]⟩, .string ⟨#[]⟩] := by kernel_rfl
theorem hb_15 : hasBody Tryz.prog 15 = true := by kernel_rfl
theorem hb_16 : hasBody Tryz.prog 16 = true := by kernel_rfl
theorem kT_23 : kT Tryz.prog 23 = 5 := by kernel_rfl
theorem fldT_52_1 : fldT Tryz.prog 52 1 = some (1, 1, false) := by kernel_rfl
theorem szT_23 : szT Tryz.prog 23 = some 1 := by kernel_rfl
theorem aggB_23 : aggB Tryz.prog 23 = false := by kernel_rfl
theorem hb_17 : hasBody Tryz.prog 17 = true := by kernel_rfl
theorem fldT_29_6 : fldT Tryz.prog 29 6 = some (6, 1, false) := by kernel_rfl
theorem szT_27 : szT Tryz.prog 27 = some 1 := by kernel_rfl
theorem aggB_27 : aggB Tryz.prog 27 = false := by kernel_rfl
theorem kT_27 : kT Tryz.prog 27 = 5 := by kernel_rfl
theorem elT_27 : elT Tryz.prog 27 = some (23, 480) := by kernel_rfl
theorem fldT_62_3 : fldT Tryz.prog 62 3 = some (3, 6, true) := by kernel_rfl
theorem fldT_62_4 : fldT Tryz.prog 62 4 = some (9, 6, true) := by kernel_rfl
theorem fldT_62_5 : fldT Tryz.prog 62 5 = some (15, 6, true) := by kernel_rfl
theorem fldT_62_7 : fldT Tryz.prog 62 7 = some (22, 1, false) := by kernel_rfl
theorem kT_52 : kT Tryz.prog 52 = 8 := by kernel_rfl
theorem zeroT_52 : zeroT Tryz.prog 52 = some [.int .i64 0, .slice none 0 0, .string ⟨#[]⟩, .string ⟨#[]⟩, .slice none 0 0, .slice none 0 0, .slice none 0 0, .slice none 0 0, .string ⟨#[]⟩, .slice none 0 0, .string ⟨#[]⟩, .string ⟨#[]⟩, .int .i64 0, .slice none 0 0, .slice none 0 0] := by kernel_rfl
theorem fieldsT_52 : fieldsT Tryz.prog 52 = some [(0, 1), (1, 1), (2, 6), (8, 1), (9, 1), (10, 5)] := by kernel_rfl
theorem elZ_48 : elZ Tryz.prog 48 = some [.int .i64 0, .slice none 0 0, .string ⟨#[]⟩, .string ⟨#[]⟩, .slice none 0 0, .slice none 0 0, .slice none 0 0, .slice none 0 0, .string ⟨#[]⟩, .slice none 0 0, .string ⟨#[]⟩, .string ⟨#[]⟩, .int .i64 0, .slice none 0 0, .slice none 0 0] := by kernel_rfl
theorem fldT_62_6 : fldT Tryz.prog 62 6 = some (21, 1, false) := by kernel_rfl
theorem kT_50 : kT Tryz.prog 50 = 8 := by kernel_rfl
theorem zeroT_50 : zeroT Tryz.prog 50 = some [.string ⟨#[]⟩, .slice none 0 0, .int .i64 0, .string ⟨#[]⟩, .string ⟨#[]⟩, .slice none 0 0, .slice none 0 0, .slice none 0 0, .slice none 0 0, .slice none 0 0] := by kernel_rfl
theorem fieldsT_50 : fieldsT Tryz.prog 50 = some [(0, 1), (1, 1), (2, 1), (3, 6), (9, 1)] := by kernel_rfl
theorem elZ_26 : elZ Tryz.prog 26 = some [.string ⟨#[]⟩, .slice none 0 0, .int .i64 0, .string ⟨#[]⟩, .string ⟨#[]⟩, .slice none 0 0, .slice none 0 0, .slice none 0 0, .slice none 0 0, .slice none 0 0] := by kernel_rfl
theorem kT_64 : kT Tryz.prog 64 = 8 := by kernel_rfl
theorem zeroT_64 : zeroT Tryz.prog 64 = some [.string ⟨#[]⟩, .slice none 0 0, .int .i64 0, .int .i64 0] := by kernel_rfl
theorem fieldsT_64 : fieldsT Tryz.prog 64 = some [(0, 1), (1, 1), (2, 1), (3, 1)] := by kernel_rfl
theorem elT_25 : elT Tryz.prog 25 = some (4, 56) := by kernel_rfl
theorem elZ_25 : elZ Tryz.prog 25 = some [.string ⟨#[]⟩, .slice none 0 0, .int .i64 0, .int .i64 0] := by kernel_rfl
theorem fldT_29_4 : fldT Tryz.prog 29 4 = some (4, 1, false) := by kernel_rfl
theorem szT_25 : szT Tryz.prog 25 = some 1 := by kernel_rfl
theorem aggB_25 : aggB Tryz.prog 25 = false := by kernel_rfl
theorem szT_62 : szT Tryz.prog 62 = some 23 := by kernel_rfl
theorem aggB_62 : aggB Tryz.prog 62 = true := by kernel_rfl
theorem elZ_27 : elZ Tryz.prog 27 = some [.string ⟨#[]⟩, .slice none 0 0, .int .i64 0, .string ⟨#[]⟩, .string ⟨#[]⟩, .slice none 0 0, .slice none 0 0, .slice none 0 0, .slice none 0 0, .string ⟨#[]⟩, .string ⟨#[]⟩, .slice none 0 0, .slice none 0 0, .slice none 0 0, .slice none 0 0, .string ⟨#[]⟩, .string ⟨#[]⟩, .slice none 0 0, .slice none 0 0, .slice none 0 0, .slice none 0 0, .slice none 0 0, .slice none 0 0] := by kernel_rfl
theorem hb_18 : hasBody Tryz.prog 18 = true := by kernel_rfl
theorem kT_65 : kT Tryz.prog 65 = 9 := by kernel_rfl
theorem arT_65 : arT Tryz.prog 65 = some (2, 1) := by kernel_rfl
theorem szT_3 : szT Tryz.prog 3 = some 1 := by kernel_rfl
theorem aggB_3 : aggB Tryz.prog 3 = false := by kernel_rfl
theorem fldT_50_2 : fldT Tryz.prog 50 2 = some (2, 1, false) := by kernel_rfl
theorem kT_4 : kT Tryz.prog 4 = 1 := by kernel_rfl
theorem kT_25 : kT Tryz.prog 25 = 5 := by kernel_rfl
theorem fldT_64_2 : fldT Tryz.prog 64 2 = some (2, 1, false) := by kernel_rfl
theorem fldT_64_3 : fldT Tryz.prog 64 3 = some (3, 1, false) := by kernel_rfl
theorem fldT_62_2 : fldT Tryz.prog 62 2 = some (2, 1, false) := by kernel_rfl
theorem kT_68 : kT Tryz.prog 68 = 5 := by kernel_rfl
theorem fldT_38_2 : fldT Tryz.prog 38 2 = some (2, 1, false) := by kernel_rfl
theorem kT_32 : kT Tryz.prog 32 = 5 := by kernel_rfl
theorem fldT_38_4 : fldT Tryz.prog 38 4 = some (4, 1, false) := by kernel_rfl
theorem szT_31 : szT Tryz.prog 31 = some 1 := by kernel_rfl
theorem aggB_31 : aggB Tryz.prog 31 = false := by kernel_rfl
theorem elT_69 : elT Tryz.prog 69 = some (1, 1) := by kernel_rfl
theorem elZ_69 : elZ Tryz.prog 69 = some [.bool false] := by kernel_rfl
theorem elT_68 : elT Tryz.prog 68 = some (1, 1) := by kernel_rfl
theorem szT_5 : szT Tryz.prog 5 = some 1 := by kernel_rfl
theorem aggB_5 : aggB Tryz.prog 5 = false := by kernel_rfl
theorem kT_71 : kT Tryz.prog 71 = 8 := by kernel_rfl
theorem zeroT_71 : zeroT Tryz.prog 71 = some [.string ⟨#[]⟩, .slice none 0 0, .int .i64 0] := by kernel_rfl
theorem fieldsT_71 : fieldsT Tryz.prog 71 = some [(0, 2), (2, 1)] := by kernel_rfl
theorem elT_31 : elT Tryz.prog 31 = some (3, 48) := by kernel_rfl
theorem elZ_31 : elZ Tryz.prog 31 = some [.string ⟨#[]⟩, .slice none 0 0, .int .i64 0] := by kernel_rfl
theorem kT_31 : kT Tryz.prog 31 = 5 := by kernel_rfl
theorem kT_69 : kT Tryz.prog 69 = 5 := by kernel_rfl
theorem szT_4 : szT Tryz.prog 4 = some 1 := by kernel_rfl
theorem aggB_4 : aggB Tryz.prog 4 = false := by kernel_rfl
theorem hb_19 : hasBody Tryz.prog 19 = true := by kernel_rfl
theorem fldT_29_1 : fldT Tryz.prog 29 1 = some (1, 1, false) := by kernel_rfl
theorem fldT_29_3 : fldT Tryz.prog 29 3 = some (3, 1, false) := by kernel_rfl
theorem szT_24 : szT Tryz.prog 24 = some 1 := by kernel_rfl
theorem aggB_24 : aggB Tryz.prog 24 = false := by kernel_rfl
theorem kT_75 : kT Tryz.prog 75 = 8 := by kernel_rfl
theorem zeroT_75 : zeroT Tryz.prog 75 = some [.string ⟨#[]⟩, .slice none 0 0] := by kernel_rfl
theorem fieldsT_75 : fieldsT Tryz.prog 75 = some [(0, 1), (1, 1)] := by kernel_rfl
theorem elT_24 : elT Tryz.prog 24 = some (2, 40) := by kernel_rfl
theorem elZ_24 : elZ Tryz.prog 24 = some [.string ⟨#[]⟩, .slice none 0 0] := by kernel_rfl
theorem kT_24 : kT Tryz.prog 24 = 5 := by kernel_rfl
theorem kT_29 : kT Tryz.prog 29 = 8 := by kernel_rfl
theorem fieldsT_29 : fieldsT Tryz.prog 29 = some [(0, 1), (1, 1), (2, 1), (3, 1), (4, 1), (5, 1), (6, 1)] := by kernel_rfl
theorem hb_20 : hasBody Tryz.prog 20 = true := by kernel_rfl
theorem hb_21 : hasBody Tryz.prog 21 = true := by kernel_rfl
theorem kT_77 : kT Tryz.prog 77 = 4 := by kernel_rfl
theorem hb_22 : hasBody Tryz.prog 22 = true := by kernel_rfl
theorem hb_23 : hasBody Tryz.prog 23 = true := by kernel_rfl
theorem kT_79 : kT Tryz.prog 79 = 7 := by kernel_rfl
theorem hb_25 : hasBody Tryz.prog 25 = true := by kernel_rfl
theorem hb_24 : hasBody Tryz.prog 24 = true := by kernel_rfl
theorem fldT_57_0 : fldT Tryz.prog 57 0 = some (0, 1, false) := by kernel_rfl
theorem hb_26 : hasBody Tryz.prog 26 = true := by kernel_rfl
theorem hb_27 : hasBody Tryz.prog 27 = true := by kernel_rfl
theorem szT_43 : szT Tryz.prog 43 = some 5 := by kernel_rfl
theorem aggB_43 : aggB Tryz.prog 43 = true := by kernel_rfl
theorem kT_38 : kT Tryz.prog 38 = 8 := by kernel_rfl
theorem fieldsT_38 : fieldsT Tryz.prog 38 = some [(0, 1), (1, 1), (2, 1), (3, 1), (4, 1), (5, 6)] := by kernel_rfl
theorem hb_28 : hasBody Tryz.prog 28 = true := by kernel_rfl
theorem hb_29 : hasBody Tryz.prog 29 = true := by kernel_rfl
theorem kT_62 : kT Tryz.prog 62 = 8 := by kernel_rfl
theorem zeroT_62 : zeroT Tryz.prog 62 = some [.string ⟨#[]⟩, .slice none 0 0, .int .i64 0, .string ⟨#[]⟩, .string ⟨#[]⟩, .slice none 0 0, .slice none 0 0, .slice none 0 0, .slice none 0 0, .string ⟨#[]⟩, .string ⟨#[]⟩, .slice none 0 0, .slice none 0 0, .slice none 0 0, .slice none 0 0, .string ⟨#[]⟩, .string ⟨#[]⟩, .slice none 0 0, .slice none 0 0, .slice none 0 0, .slice none 0 0, .slice none 0 0, .slice none 0 0] := by kernel_rfl
theorem fieldsT_62 : fieldsT Tryz.prog 62 = some [(0, 1), (1, 1), (2, 1), (3, 6), (9, 6), (15, 6), (21, 1), (22, 1)] := by kernel_rfl
theorem elZ_68 : elZ Tryz.prog 68 = some [.int .u8 0] := by kernel_rfl
theorem intT_68 : intT Tryz.prog 68 = none := by kernel_rfl
theorem intT_9 : intT Tryz.prog 9 = none := by kernel_rfl
theorem u8T_68 : u8T Tryz.prog 68 = true := by kernel_rfl
theorem hb_30 : hasBody Tryz.prog 30 = true := by kernel_rfl
theorem fldT_57_1 : fldT Tryz.prog 57 1 = some (1, 1, false) := by kernel_rfl
theorem hb_31 : hasBody Tryz.prog 31 = true := by kernel_rfl
theorem hb_32 : hasBody Tryz.prog 32 = true := by kernel_rfl
theorem kT_44 : kT Tryz.prog 44 = 2 := by kernel_rfl
theorem zvT_44 : zvT Tryz.prog 44 = some (.int .i64 0) := by kernel_rfl
theorem szT_57 : szT Tryz.prog 57 = some 2 := by kernel_rfl
theorem aggB_57 : aggB Tryz.prog 57 = true := by kernel_rfl
theorem hb_33 : hasBody Tryz.prog 33 = true := by kernel_rfl
theorem kT_101 : kT Tryz.prog 101 = 8 := by kernel_rfl
theorem zeroT_101 : zeroT Tryz.prog 101 = some [.map none] := by kernel_rfl
theorem fieldsT_101 : fieldsT Tryz.prog 101 = some [(0, 1)] := by kernel_rfl
theorem fldT_101_0 : fldT Tryz.prog 101 0 = some (0, 1, false) := by kernel_rfl
theorem szT_99 : szT Tryz.prog 99 = some 1 := by kernel_rfl
theorem aggB_99 : aggB Tryz.prog 99 = false := by kernel_rfl
theorem mapT_99 : mapT Tryz.prog 99 = some (3, (.string ⟨#[]⟩)) := by kernel_rfl
theorem hb_34 : hasBody Tryz.prog 34 = true := by kernel_rfl
theorem hb_35 : hasBody Tryz.prog 35 = true := by kernel_rfl
theorem hb_37 : hasBody Tryz.prog 37 = true := by kernel_rfl
theorem hb_36 : hasBody Tryz.prog 36 = true := by kernel_rfl
theorem hb_38 : hasBody Tryz.prog 38 = true := by kernel_rfl
theorem hb_40 : hasBody Tryz.prog 40 = true := by kernel_rfl
theorem hb_39 : hasBody Tryz.prog 39 = true := by kernel_rfl
theorem hb_41 : hasBody Tryz.prog 41 = true := by kernel_rfl
theorem hb_42 : hasBody Tryz.prog 42 = true := by kernel_rfl
theorem hb_43 : hasBody Tryz.prog 43 = true := by kernel_rfl
theorem zeroT_114 : zeroT Tryz.prog 114 = some [.int .i64 0, .int .i64 0, .int .i64 0, .int .i64 0, .string ⟨#[]⟩, .slice none 0 0] := by kernel_rfl
theorem szT_114 : szT Tryz.prog 114 = some 6 := by kernel_rfl
theorem aggB_114 : aggB Tryz.prog 114 = true := by kernel_rfl
theorem hb_44 : hasBody Tryz.prog 44 = true := by kernel_rfl
theorem hb_45 : hasBody Tryz.prog 45 = true := by kernel_rfl
theorem kT_123 : kT Tryz.prog 123 = 8 := by kernel_rfl
theorem zeroT_123 : zeroT Tryz.prog 123 = some [.string ⟨#[]⟩, .slice none 0 0, .slice none 0 0, .slice none 0 0, .slice none 0 0, .slice none 0 0, .slice none 0 0, .string ⟨#[]⟩, .string ⟨#[]⟩, .slice none 0 0, .slice none 0 0, .slice none 0 0, .string ⟨#[]⟩, .string ⟨#[]⟩, .slice none 0 0, .slice none 0 0, .slice none 0 0, .slice none 0 0, .pointer none, .map none, .map none, .map none, .slice none 0 0] := by kernel_rfl
theorem fieldsT_123 : fieldsT Tryz.prog 123 = some [(0, 7), (7, 11), (18, 1), (19, 1), (20, 1), (21, 1), (22, 1)] := by kernel_rfl
theorem hb_46 : hasBody Tryz.prog 46 = true := by kernel_rfl
theorem fldT_123_2 : fldT Tryz.prog 123 2 = some (18, 1, false) := by kernel_rfl
theorem szT_77 : szT Tryz.prog 77 = some 1 := by kernel_rfl
theorem aggB_77 : aggB Tryz.prog 77 = false := by kernel_rfl
theorem elT_124 : elT Tryz.prog 124 = some (1, 8) := by kernel_rfl
theorem elZ_124 : elZ Tryz.prog 124 = some [.int .i64 0] := by kernel_rfl
theorem kT_124 : kT Tryz.prog 124 = 5 := by kernel_rfl
theorem hb_47 : hasBody Tryz.prog 47 = true := by kernel_rfl
theorem hb_48 : hasBody Tryz.prog 48 = true := by kernel_rfl
theorem hb_49 : hasBody Tryz.prog 49 = true := by kernel_rfl
theorem hb_50 : hasBody Tryz.prog 50 = true := by kernel_rfl
theorem kT_99 : kT Tryz.prog 99 = 6 := by kernel_rfl
theorem hb_51 : hasBody Tryz.prog 51 = true := by kernel_rfl
theorem intT_128 : intT Tryz.prog 128 = some .u64 := by kernel_rfl
theorem kT_128 : kT Tryz.prog 128 = 2 := by kernel_rfl
theorem hb_54 : hasBody Tryz.prog 54 = true := by kernel_rfl
theorem hb_53 : hasBody Tryz.prog 53 = true := by kernel_rfl
theorem hb_55 : hasBody Tryz.prog 55 = true := by kernel_rfl
theorem kT_132 : kT Tryz.prog 132 = 8 := by kernel_rfl
theorem zeroT_132 : zeroT Tryz.prog 132 = some [.bool false] := by kernel_rfl
theorem fieldsT_132 : fieldsT Tryz.prog 132 = some [(0, 1)] := by kernel_rfl
theorem hb_57 : hasBody Tryz.prog 57 = true := by kernel_rfl
theorem fldT_29_0 : fldT Tryz.prog 29 0 = some (0, 1, false) := by kernel_rfl
theorem hb_58 : hasBody Tryz.prog 58 = true := by kernel_rfl
theorem elT_112 : elT Tryz.prog 112 = some (6, 72) := by kernel_rfl
theorem elZ_112 : elZ Tryz.prog 112 = some [.int .i64 0, .int .i64 0, .int .i64 0, .int .i64 0, .string ⟨#[]⟩, .slice none 0 0] := by kernel_rfl
theorem hb_56 : hasBody Tryz.prog 56 = true := by kernel_rfl
theorem hb_60 : hasBody Tryz.prog 60 = true := by kernel_rfl
theorem hb_59 : hasBody Tryz.prog 59 = true := by kernel_rfl
theorem fldT_29_2 : fldT Tryz.prog 29 2 = some (2, 1, false) := by kernel_rfl
theorem szT_75 : szT Tryz.prog 75 = some 2 := by kernel_rfl
theorem aggB_75 : aggB Tryz.prog 75 = true := by kernel_rfl
theorem fldT_75_0 : fldT Tryz.prog 75 0 = some (0, 1, false) := by kernel_rfl
theorem fldT_75_1 : fldT Tryz.prog 75 1 = some (1, 1, false) := by kernel_rfl
theorem kT_112 : kT Tryz.prog 112 = 5 := by kernel_rfl
theorem szT_64 : szT Tryz.prog 64 = some 4 := by kernel_rfl
theorem aggB_64 : aggB Tryz.prog 64 = true := by kernel_rfl
theorem fldT_64_0 : fldT Tryz.prog 64 0 = some (0, 1, false) := by kernel_rfl
theorem fldT_64_1 : fldT Tryz.prog 64 1 = some (1, 1, false) := by kernel_rfl
theorem hb_61 : hasBody Tryz.prog 61 = true := by kernel_rfl
theorem szT_50 : szT Tryz.prog 50 = some 10 := by kernel_rfl
theorem aggB_50 : aggB Tryz.prog 50 = true := by kernel_rfl
theorem fldT_114_5 : fldT Tryz.prog 114 5 = some (5, 1, false) := by kernel_rfl
theorem szT_112 : szT Tryz.prog 112 = some 1 := by kernel_rfl
theorem aggB_112 : aggB Tryz.prog 112 = false := by kernel_rfl
theorem hb_62 : hasBody Tryz.prog 62 = true := by kernel_rfl
theorem hb_63 : hasBody Tryz.prog 63 = true := by kernel_rfl
theorem fldT_132_0 : fldT Tryz.prog 132 0 = some (0, 1, false) := by kernel_rfl
theorem hb_64 : hasBody Tryz.prog 64 = true := by kernel_rfl
theorem kT_114 : kT Tryz.prog 114 = 8 := by kernel_rfl
theorem fieldsT_114 : fieldsT Tryz.prog 114 = some [(0, 1), (1, 1), (2, 1), (3, 1), (4, 1), (5, 1)] := by kernel_rfl
theorem hb_65 : hasBody Tryz.prog 65 = true := by kernel_rfl
theorem hb_66 : hasBody Tryz.prog 66 = true := by kernel_rfl
theorem hb_68 : hasBody Tryz.prog 68 = true := by kernel_rfl
theorem fldT_38_0 : fldT Tryz.prog 38 0 = some (0, 1, false) := by kernel_rfl
theorem hb_67 : hasBody Tryz.prog 67 = true := by kernel_rfl
theorem fldT_38_1 : fldT Tryz.prog 38 1 = some (1, 1, false) := by kernel_rfl
theorem hb_69 : hasBody Tryz.prog 69 = true := by kernel_rfl
theorem szT_54 : szT Tryz.prog 54 = some 2 := by kernel_rfl
theorem aggB_54 : aggB Tryz.prog 54 = true := by kernel_rfl
theorem hb_70 : hasBody Tryz.prog 70 = true := by kernel_rfl
theorem szT_71 : szT Tryz.prog 71 = some 3 := by kernel_rfl
theorem aggB_71 : aggB Tryz.prog 71 = true := by kernel_rfl
theorem fldT_71_0 : fldT Tryz.prog 71 0 = some (0, 2, true) := by kernel_rfl
theorem fldT_71_1 : fldT Tryz.prog 71 1 = some (2, 1, false) := by kernel_rfl
theorem fldT_36_5 : fldT Tryz.prog 36 5 = some (5, 1, false) := by kernel_rfl
theorem szT_34 : szT Tryz.prog 34 = some 1 := by kernel_rfl
theorem aggB_34 : aggB Tryz.prog 34 = false := by kernel_rfl
theorem hb_71 : hasBody Tryz.prog 71 = true := by kernel_rfl
theorem fldT_123_0 : fldT Tryz.prog 123 0 = some (0, 7, true) := by kernel_rfl
theorem fldT_123_6 : fldT Tryz.prog 123 6 = some (22, 1, false) := by kernel_rfl
theorem zeroT_91 : zeroT Tryz.prog 91 = some [.nilFunc] := by kernel_rfl
theorem szT_91 : szT Tryz.prog 91 = some 1 := by kernel_rfl
theorem aggB_91 : aggB Tryz.prog 91 = false := by kernel_rfl
theorem fldT_123_1 : fldT Tryz.prog 123 1 = some (7, 11, true) := by kernel_rfl
theorem hb_73 : hasBody Tryz.prog 73 = true := by kernel_rfl
theorem hb_74 : hasBody Tryz.prog 74 = true := by kernel_rfl
theorem hb_76 : hasBody Tryz.prog 76 = true := by kernel_rfl
theorem hb_78 : hasBody Tryz.prog 78 = true := by kernel_rfl
theorem hb_81 : hasBody Tryz.prog 81 = true := by kernel_rfl
theorem hb_83 : hasBody Tryz.prog 83 = true := by kernel_rfl
theorem hb_84 : hasBody Tryz.prog 84 = true := by kernel_rfl
theorem hb_88 : hasBody Tryz.prog 88 = true := by kernel_rfl
theorem hb_89 : hasBody Tryz.prog 89 = true := by kernel_rfl
theorem hb_90 : hasBody Tryz.prog 90 = true := by kernel_rfl
theorem hb_91 : hasBody Tryz.prog 91 = true := by kernel_rfl
theorem hb_92 : hasBody Tryz.prog 92 = true := by kernel_rfl
theorem hb_93 : hasBody Tryz.prog 93 = true := by kernel_rfl
theorem hb_94 : hasBody Tryz.prog 94 = true := by kernel_rfl
theorem hb_95 : hasBody Tryz.prog 95 = true := by kernel_rfl
theorem hb_96 : hasBody Tryz.prog 96 = true := by kernel_rfl
theorem hb_97 : hasBody Tryz.prog 97 = true := by kernel_rfl
theorem hb_98 : hasBody Tryz.prog 98 = true := by kernel_rfl
theorem hb_99 : hasBody Tryz.prog 99 = true := by kernel_rfl
theorem kT_163 : kT Tryz.prog 163 = 2 := by kernel_rfl
theorem hb_100 : hasBody Tryz.prog 100 = true := by kernel_rfl
theorem hb_101 : hasBody Tryz.prog 101 = true := by kernel_rfl
theorem hb_102 : hasBody Tryz.prog 102 = true := by kernel_rfl
theorem hb_103 : hasBody Tryz.prog 103 = true := by kernel_rfl
theorem hb_104 : hasBody Tryz.prog 104 = true := by kernel_rfl
theorem intT_171 : intT Tryz.prog 171 = some .u32 := by kernel_rfl
theorem kT_171 : kT Tryz.prog 171 = 2 := by kernel_rfl
theorem hb_105 : hasBody Tryz.prog 105 = true := by kernel_rfl
theorem hb_106 : hasBody Tryz.prog 106 = true := by kernel_rfl
theorem hb_107 : hasBody Tryz.prog 107 = true := by kernel_rfl
theorem hb_108 : hasBody Tryz.prog 108 = true := by kernel_rfl
theorem fldT_50_0 : fldT Tryz.prog 50 0 = some (0, 1, false) := by kernel_rfl
theorem fldT_50_1 : fldT Tryz.prog 50 1 = some (1, 1, false) := by kernel_rfl
theorem hb_109 : hasBody Tryz.prog 109 = true := by kernel_rfl
theorem hb_111 : hasBody Tryz.prog 111 = true := by kernel_rfl
theorem hb_110 : hasBody Tryz.prog 110 = true := by kernel_rfl
theorem hb_112 : hasBody Tryz.prog 112 = true := by kernel_rfl
theorem hb_113 : hasBody Tryz.prog 113 = true := by kernel_rfl
theorem fldT_62_0 : fldT Tryz.prog 62 0 = some (0, 1, false) := by kernel_rfl
theorem fldT_62_1 : fldT Tryz.prog 62 1 = some (1, 1, false) := by kernel_rfl
theorem zeroT_3 : zeroT Tryz.prog 3 = some [.int .i64 0] := by kernel_rfl
theorem hb_114 : hasBody Tryz.prog 114 = true := by kernel_rfl
theorem hb_115 : hasBody Tryz.prog 115 = true := by kernel_rfl
theorem hb_116 : hasBody Tryz.prog 116 = true := by kernel_rfl
theorem hb_117 : hasBody Tryz.prog 117 = true := by kernel_rfl
theorem hb_118 : hasBody Tryz.prog 118 = true := by kernel_rfl
theorem hb_120 : hasBody Tryz.prog 120 = true := by kernel_rfl
theorem fldT_54_0 : fldT Tryz.prog 54 0 = some (0, 1, false) := by kernel_rfl
theorem fldT_54_1 : fldT Tryz.prog 54 1 = some (1, 1, false) := by kernel_rfl
theorem fldT_36_3 : fldT Tryz.prog 36 3 = some (3, 1, false) := by kernel_rfl
theorem hb_121 : hasBody Tryz.prog 121 = true := by kernel_rfl
theorem hb_122 : hasBody Tryz.prog 122 = true := by kernel_rfl
theorem hb_123 : hasBody Tryz.prog 123 = true := by kernel_rfl
theorem hb_124 : hasBody Tryz.prog 124 = true := by kernel_rfl
theorem hb_80 : hasBody Tryz.prog 80 = true := by kernel_rfl
theorem hb_125 : hasBody Tryz.prog 125 = true := by kernel_rfl
theorem hb_127 : hasBody Tryz.prog 127 = true := by kernel_rfl
theorem zeroT_190 : zeroT Tryz.prog 190 = some [.slice none 0 0, .slice none 0 0, .slice none 0 0] := by kernel_rfl
theorem kT_190 : kT Tryz.prog 190 = 9 := by kernel_rfl
theorem arT_190 : arT Tryz.prog 190 = some (3, 1) := by kernel_rfl
theorem szT_189 : szT Tryz.prog 189 = some 1 := by kernel_rfl
theorem aggB_189 : aggB Tryz.prog 189 = false := by kernel_rfl
theorem kT_192 : kT Tryz.prog 192 = 8 := by kernel_rfl
theorem zeroT_192 : zeroT Tryz.prog 192 = some [.string ⟨#[]⟩, .string ⟨#[]⟩] := by kernel_rfl
theorem fieldsT_192 : fieldsT Tryz.prog 192 = some [(0, 1), (1, 1)] := by kernel_rfl
theorem elT_189 : elT Tryz.prog 189 = some (2, 32) := by kernel_rfl
theorem elZ_189 : elZ Tryz.prog 189 = some [.string ⟨#[]⟩, .string ⟨#[]⟩] := by kernel_rfl
theorem kT_189 : kT Tryz.prog 189 = 5 := by kernel_rfl
theorem szT_190 : szT Tryz.prog 190 = some 3 := by kernel_rfl
theorem aggB_190 : aggB Tryz.prog 190 = true := by kernel_rfl
theorem hb_128 : hasBody Tryz.prog 128 = true := by kernel_rfl
theorem hb_86 : hasBody Tryz.prog 86 = true := by kernel_rfl
theorem mapT_194 : mapT Tryz.prog 194 = some (3, (.bool false)) := by kernel_rfl
theorem fldT_123_3 : fldT Tryz.prog 123 3 = some (19, 1, false) := by kernel_rfl
theorem szT_120 : szT Tryz.prog 120 = some 1 := by kernel_rfl
theorem aggB_120 : aggB Tryz.prog 120 = false := by kernel_rfl
theorem fldT_123_4 : fldT Tryz.prog 123 4 = some (20, 1, false) := by kernel_rfl
theorem szT_121 : szT Tryz.prog 121 = some 1 := by kernel_rfl
theorem aggB_121 : aggB Tryz.prog 121 = false := by kernel_rfl
theorem fldT_123_5 : fldT Tryz.prog 123 5 = some (21, 1, false) := by kernel_rfl
theorem mapT_120 : mapT Tryz.prog 120 = some (3, (.slice none 0 0)) := by kernel_rfl
theorem mapT_121 : mapT Tryz.prog 121 = some (3, (.agg #[.string ⟨#[]⟩, .slice none 0 0, .int .i64 0, .int .i64 0])) := by kernel_rfl
theorem hb_129 : hasBody Tryz.prog 129 = true := by kernel_rfl
theorem hb_130 : hasBody Tryz.prog 130 = true := by kernel_rfl
theorem hb_131 : hasBody Tryz.prog 131 = true := by kernel_rfl
theorem elT_197 : elT Tryz.prog 197 = some (1, 24) := by kernel_rfl
theorem elZ_197 : elZ Tryz.prog 197 = some [.slice none 0 0] := by kernel_rfl
theorem kT_197 : kT Tryz.prog 197 = 5 := by kernel_rfl
theorem hb_132 : hasBody Tryz.prog 132 = true := by kernel_rfl
theorem hb_133 : hasBody Tryz.prog 133 = true := by kernel_rfl
theorem hb_134 : hasBody Tryz.prog 134 = true := by kernel_rfl
theorem hb_135 : hasBody Tryz.prog 135 = true := by kernel_rfl
theorem hb_136 : hasBody Tryz.prog 136 = true := by kernel_rfl
theorem hb_137 : hasBody Tryz.prog 137 = true := by kernel_rfl
theorem intT_202 : intT Tryz.prog 202 = some .u64 := by kernel_rfl
theorem kT_202 : kT Tryz.prog 202 = 2 := by kernel_rfl
theorem zeroT_202 : zeroT Tryz.prog 202 = some [.int .u64 0] := by kernel_rfl
theorem szT_202 : szT Tryz.prog 202 = some 1 := by kernel_rfl
theorem aggB_202 : aggB Tryz.prog 202 = false := by kernel_rfl
theorem hb_138 : hasBody Tryz.prog 138 = true := by kernel_rfl
theorem hb_139 : hasBody Tryz.prog 139 = true := by kernel_rfl
theorem hb_140 : hasBody Tryz.prog 140 = true := by kernel_rfl
theorem hb_141 : hasBody Tryz.prog 141 = true := by kernel_rfl
theorem hb_142 : hasBody Tryz.prog 142 = true := by kernel_rfl
theorem kT_173 : kT Tryz.prog 173 = 2 := by kernel_rfl
theorem intT_173 : intT Tryz.prog 173 = some .u64 := by kernel_rfl
theorem hb_143 : hasBody Tryz.prog 143 = true := by kernel_rfl
theorem hb_144 : hasBody Tryz.prog 144 = true := by kernel_rfl
theorem hb_145 : hasBody Tryz.prog 145 = true := by kernel_rfl
theorem fldT_36_4 : fldT Tryz.prog 36 4 = some (4, 1, false) := by kernel_rfl
theorem szT_33 : szT Tryz.prog 33 = some 1 := by kernel_rfl
theorem aggB_33 : aggB Tryz.prog 33 = false := by kernel_rfl
theorem hb_146 : hasBody Tryz.prog 146 = true := by kernel_rfl
theorem hb_148 : hasBody Tryz.prog 148 = true := by kernel_rfl
theorem szT_52 : szT Tryz.prog 52 = some 15 := by kernel_rfl
theorem aggB_52 : aggB Tryz.prog 52 = true := by kernel_rfl
theorem hb_149 : hasBody Tryz.prog 149 = true := by kernel_rfl
theorem fldT_114_0 : fldT Tryz.prog 114 0 = some (0, 1, false) := by kernel_rfl
theorem fldT_114_4 : fldT Tryz.prog 114 4 = some (4, 1, false) := by kernel_rfl
theorem hb_150 : hasBody Tryz.prog 150 = true := by kernel_rfl
theorem hb_151 : hasBody Tryz.prog 151 = true := by kernel_rfl
theorem fldT_114_1 : fldT Tryz.prog 114 1 = some (1, 1, false) := by kernel_rfl
theorem kT_216 : kT Tryz.prog 216 = 8 := by kernel_rfl
theorem zeroT_216 : zeroT Tryz.prog 216 = some [.int .i64 0] := by kernel_rfl
theorem fieldsT_216 : fieldsT Tryz.prog 216 = some [(0, 1)] := by kernel_rfl
theorem hb_152 : hasBody Tryz.prog 152 = true := by kernel_rfl
theorem hb_153 : hasBody Tryz.prog 153 = true := by kernel_rfl
theorem kT_33 : kT Tryz.prog 33 = 5 := by kernel_rfl
theorem hb_155 : hasBody Tryz.prog 155 = true := by kernel_rfl
theorem hb_154 : hasBody Tryz.prog 154 = true := by kernel_rfl
theorem hb_156 : hasBody Tryz.prog 156 = true := by kernel_rfl
theorem hb_158 : hasBody Tryz.prog 158 = true := by kernel_rfl
theorem hb_159 : hasBody Tryz.prog 159 = true := by kernel_rfl
theorem hb_160 : hasBody Tryz.prog 160 = true := by kernel_rfl
theorem szT_192 : szT Tryz.prog 192 = some 2 := by kernel_rfl
theorem aggB_192 : aggB Tryz.prog 192 = true := by kernel_rfl
theorem fldT_192_0 : fldT Tryz.prog 192 0 = some (0, 1, false) := by kernel_rfl
theorem fldT_192_1 : fldT Tryz.prog 192 1 = some (1, 1, false) := by kernel_rfl
theorem hb_161 : hasBody Tryz.prog 161 = true := by kernel_rfl
theorem hb_87 : hasBody Tryz.prog 87 = true := by kernel_rfl
theorem hb_162 : hasBody Tryz.prog 162 = true := by kernel_rfl
theorem hb_163 : hasBody Tryz.prog 163 = true := by kernel_rfl
theorem hb_164 : hasBody Tryz.prog 164 = true := by kernel_rfl
theorem hb_165 : hasBody Tryz.prog 165 = true := by kernel_rfl
theorem hb_166 : hasBody Tryz.prog 166 = true := by kernel_rfl
theorem hb_167 : hasBody Tryz.prog 167 = true := by kernel_rfl
theorem hb_168 : hasBody Tryz.prog 168 = true := by kernel_rfl
theorem hb_169 : hasBody Tryz.prog 169 = true := by kernel_rfl
theorem hb_170 : hasBody Tryz.prog 170 = true := by kernel_rfl
theorem strsT_57 : strsT Tryz.prog 57 = some 2 := by kernel_rfl
theorem fldT_43_0 : fldT Tryz.prog 43 0 = some (0, 1, false) := by kernel_rfl
theorem fldT_43_1 : fldT Tryz.prog 43 1 = some (1, 1, false) := by kernel_rfl
theorem fldT_43_2 : fldT Tryz.prog 43 2 = some (2, 1, false) := by kernel_rfl
theorem fldT_43_3 : fldT Tryz.prog 43 3 = some (3, 1, false) := by kernel_rfl
theorem fldT_43_4 : fldT Tryz.prog 43 4 = some (4, 1, false) := by kernel_rfl
theorem hb_171 : hasBody Tryz.prog 171 = true := by kernel_rfl
theorem fldT_52_0 : fldT Tryz.prog 52 0 = some (0, 1, false) := by kernel_rfl
theorem fldT_52_5 : fldT Tryz.prog 52 5 = some (10, 5, true) := by kernel_rfl
theorem hb_172 : hasBody Tryz.prog 172 = true := by kernel_rfl
theorem hb_173 : hasBody Tryz.prog 173 = true := by kernel_rfl
theorem hb_174 : hasBody Tryz.prog 174 = true := by kernel_rfl
theorem hb_175 : hasBody Tryz.prog 175 = true := by kernel_rfl
theorem hb_176 : hasBody Tryz.prog 176 = true := by kernel_rfl
theorem hb_177 : hasBody Tryz.prog 177 = true := by kernel_rfl
theorem hb_180 : hasBody Tryz.prog 180 = true := by kernel_rfl
theorem hb_181 : hasBody Tryz.prog 181 = true := by kernel_rfl
theorem hb_182 : hasBody Tryz.prog 182 = true := by kernel_rfl
theorem hb_183 : hasBody Tryz.prog 183 = true := by kernel_rfl
theorem zeroT_242 : zeroT Tryz.prog 242 = some [.pointer none, .slice none 0 0] := by kernel_rfl
theorem hb_186 : hasBody Tryz.prog 186 = true := by kernel_rfl
theorem hb_187 : hasBody Tryz.prog 187 = true := by kernel_rfl
theorem hb_188 : hasBody Tryz.prog 188 = true := by kernel_rfl
theorem hb_189 : hasBody Tryz.prog 189 = true := by kernel_rfl
theorem hb_191 : hasBody Tryz.prog 191 = true := by kernel_rfl
theorem hb_192 : hasBody Tryz.prog 192 = true := by kernel_rfl
theorem hb_193 : hasBody Tryz.prog 193 = true := by kernel_rfl
theorem hb_194 : hasBody Tryz.prog 194 = true := by kernel_rfl
theorem hb_195 : hasBody Tryz.prog 195 = true := by kernel_rfl
theorem fldT_216_0 : fldT Tryz.prog 216 0 = some (0, 1, false) := by kernel_rfl
theorem hb_179 : hasBody Tryz.prog 179 = true := by kernel_rfl
theorem hb_197 : hasBody Tryz.prog 197 = true := by kernel_rfl
theorem hb_198 : hasBody Tryz.prog 198 = true := by kernel_rfl
theorem fldT_242_1 : fldT Tryz.prog 242 1 = some (1, 1, false) := by kernel_rfl
theorem szT_68 : szT Tryz.prog 68 = some 1 := by kernel_rfl
theorem aggB_68 : aggB Tryz.prog 68 = false := by kernel_rfl
theorem hb_199 : hasBody Tryz.prog 199 = true := by kernel_rfl
theorem hb_201 : hasBody Tryz.prog 201 = true := by kernel_rfl
theorem fldT_242_0 : fldT Tryz.prog 242 0 = some (0, 1, false) := by kernel_rfl
theorem szT_240 : szT Tryz.prog 240 = some 1 := by kernel_rfl
theorem aggB_240 : aggB Tryz.prog 240 = false := by kernel_rfl
theorem kT_240 : kT Tryz.prog 240 = 4 := by kernel_rfl
theorem intT_240 : intT Tryz.prog 240 = none := by kernel_rfl
theorem intT_252 : intT Tryz.prog 252 = none := by kernel_rfl
theorem kT_252 : kT Tryz.prog 252 = 11 := by kernel_rfl
theorem hb_2 : hasBody Tryz.prog 2 = true := by kernel_rfl
theorem hb_3 : hasBody Tryz.prog 3 = true := by kernel_rfl
theorem hb_4 : hasBody Tryz.prog 4 = true := by kernel_rfl
theorem hb_5 : hasBody Tryz.prog 5 = true := by kernel_rfl
theorem hb_6 : hasBody Tryz.prog 6 = true := by kernel_rfl
theorem hb_7 : hasBody Tryz.prog 7 = true := by kernel_rfl
theorem hb_8 : hasBody Tryz.prog 8 = true := by kernel_rfl
theorem hb_9 : hasBody Tryz.prog 9 = true := by kernel_rfl
theorem hb_52 : hasBody Tryz.prog 52 = true := by kernel_rfl
theorem hb_72 : hasBody Tryz.prog 72 = true := by kernel_rfl
theorem hb_75 : hasBody Tryz.prog 75 = true := by kernel_rfl
theorem hb_77 : hasBody Tryz.prog 77 = true := by kernel_rfl
theorem hb_79 : hasBody Tryz.prog 79 = true := by kernel_rfl
theorem hb_82 : hasBody Tryz.prog 82 = true := by kernel_rfl
theorem hb_85 : hasBody Tryz.prog 85 = true := by kernel_rfl
theorem hb_119 : hasBody Tryz.prog 119 = true := by kernel_rfl
theorem hb_126 : hasBody Tryz.prog 126 = true := by kernel_rfl
theorem hb_147 : hasBody Tryz.prog 147 = true := by kernel_rfl
theorem hb_157 : hasBody Tryz.prog 157 = true := by kernel_rfl
theorem hb_178 : hasBody Tryz.prog 178 = true := by kernel_rfl
theorem hb_184 : hasBody Tryz.prog 184 = true := by kernel_rfl
theorem hb_185 : hasBody Tryz.prog 185 = true := by kernel_rfl
theorem hb_196 : hasBody Tryz.prog 196 = true := by kernel_rfl
set_option maxRecDepth 20000
theorem all : type_of% (And.intro zeroT_29 (And.intro zeroT_38 (And.intro szT_29 (And.intro aggB_29 (And.intro szT_38 (And.intro aggB_38 (And.intro elT_32 (And.intro elZ_32 (And.intro kT_36 (And.intro zeroT_36 (And.intro fieldsT_36 (And.intro kT_43 (And.intro zeroT_43 (And.intro fieldsT_43 (And.intro elT_33 (And.intro elZ_33 (And.intro elT_34 (And.intro elZ_34 (And.intro elT_45 (And.intro elZ_45 (And.intro intT_5 (And.intro intT_3 (And.intro kT_5 (And.intro kT_3 (And.intro kT_34 (And.intro szT_36 (And.intro aggB_36 (And.intro fldT_38_5 (And.intro kT_45 (And.intro szT_44 (And.intro aggB_44 (And.intro fldT_29_5 (And.intro szT_26 (And.intro aggB_26 (And.intro kT_26 (And.intro elT_26 (And.intro fldT_50_3 (And.intro fldT_50_4 (And.intro szT_48 (And.intro aggB_48 (And.intro kT_48 (And.intro elT_48 (And.intro fldT_52_2 (And.intro fldT_36_0 (And.intro szT_9 (And.intro aggB_9 (And.intro kT_9 (And.intro fldT_36_1 (And.intro fldT_36_2 (And.intro szT_32 (And.intro aggB_32 (And.intro fldT_52_3 (And.intro fldT_52_4 (And.intro fldT_38_3 (And.intro szT_30 (And.intro aggB_30 (And.intro kT_54 (And.intro zeroT_54 (And.intro fieldsT_54 (And.intro elT_30 (And.intro elZ_30 (And.intro kT_30 (And.intro kT_57 (And.intro zeroT_57 (And.intro fieldsT_57 (And.intro elT_23 (And.intro elZ_23 (And.intro kT_23 (And.intro fldT_52_1 (And.intro szT_23 (And.intro aggB_23 (And.intro fldT_29_6 (And.intro szT_27 (And.intro aggB_27 (And.intro kT_27 (And.intro elT_27 (And.intro fldT_62_3 (And.intro fldT_62_4 (And.intro fldT_62_5 (And.intro fldT_62_7 (And.intro kT_52 (And.intro zeroT_52 (And.intro fieldsT_52 (And.intro elZ_48 (And.intro fldT_62_6 (And.intro kT_50 (And.intro zeroT_50 (And.intro fieldsT_50 (And.intro elZ_26 (And.intro kT_64 (And.intro zeroT_64 (And.intro fieldsT_64 (And.intro elT_25 (And.intro elZ_25 (And.intro fldT_29_4 (And.intro szT_25 (And.intro aggB_25 (And.intro szT_62 (And.intro aggB_62 (And.intro elZ_27 (And.intro kT_65 (And.intro arT_65 (And.intro szT_3 (And.intro aggB_3 (And.intro fldT_50_2 (And.intro kT_4 (And.intro kT_25 (And.intro fldT_64_2 (And.intro fldT_64_3 (And.intro fldT_62_2 (And.intro kT_68 (And.intro fldT_38_2 (And.intro kT_32 (And.intro fldT_38_4 (And.intro szT_31 (And.intro aggB_31 (And.intro elT_69 (And.intro elZ_69 (And.intro elT_68 (And.intro szT_5 (And.intro aggB_5 (And.intro kT_71 (And.intro zeroT_71 (And.intro fieldsT_71 (And.intro elT_31 (And.intro elZ_31 (And.intro kT_31 (And.intro kT_69 (And.intro szT_4 (And.intro aggB_4 (And.intro fldT_29_1 (And.intro fldT_29_3 (And.intro szT_24 (And.intro aggB_24 (And.intro kT_75 (And.intro zeroT_75 (And.intro fieldsT_75 (And.intro elT_24 (And.intro elZ_24 (And.intro kT_24 (And.intro kT_29 (And.intro fieldsT_29 (And.intro kT_77 (And.intro kT_79 (And.intro fldT_57_0 (And.intro szT_43 (And.intro aggB_43 (And.intro kT_38 (And.intro fieldsT_38 (And.intro kT_62 (And.intro zeroT_62 (And.intro fieldsT_62 (And.intro elZ_68 (And.intro intT_68 (And.intro intT_9 (And.intro u8T_68 (And.intro fldT_57_1 (And.intro kT_44 (And.intro zvT_44 (And.intro szT_57 (And.intro aggB_57 (And.intro kT_101 (And.intro zeroT_101 (And.intro fieldsT_101 (And.intro fldT_101_0 (And.intro szT_99 (And.intro aggB_99 (And.intro mapT_99 (And.intro zeroT_114 (And.intro szT_114 (And.intro aggB_114 (And.intro kT_123 (And.intro zeroT_123 (And.intro fieldsT_123 (And.intro fldT_123_2 (And.intro szT_77 (And.intro aggB_77 (And.intro elT_124 (And.intro elZ_124 (And.intro kT_124 (And.intro kT_99 (And.intro intT_128 (And.intro kT_128 (And.intro kT_132 (And.intro zeroT_132 (And.intro fieldsT_132 (And.intro fldT_29_0 (And.intro elT_112 (And.intro elZ_112 (And.intro fldT_29_2 (And.intro szT_75 (And.intro aggB_75 (And.intro fldT_75_0 (And.intro fldT_75_1 (And.intro kT_112 (And.intro szT_64 (And.intro aggB_64 (And.intro fldT_64_0 (And.intro fldT_64_1 (And.intro szT_50 (And.intro aggB_50 (And.intro fldT_114_5 (And.intro szT_112 (And.intro aggB_112 (And.intro fldT_132_0 (And.intro kT_114 (And.intro fieldsT_114 (And.intro fldT_38_0 (And.intro fldT_38_1 (And.intro szT_54 (And.intro aggB_54 (And.intro szT_71 (And.intro aggB_71 (And.intro fldT_71_0 (And.intro fldT_71_1 (And.intro fldT_36_5 (And.intro szT_34 (And.intro aggB_34 (And.intro fldT_123_0 (And.intro fldT_123_6 (And.intro zeroT_91 (And.intro szT_91 (And.intro aggB_91 (And.intro fldT_123_1 (And.intro kT_163 (And.intro intT_171 (And.intro kT_171 (And.intro fldT_50_0 (And.intro fldT_50_1 (And.intro fldT_62_0 (And.intro fldT_62_1 (And.intro zeroT_3 (And.intro fldT_54_0 (And.intro fldT_54_1 (And.intro fldT_36_3 (And.intro zeroT_190 (And.intro kT_190 (And.intro arT_190 (And.intro szT_189 (And.intro aggB_189 (And.intro kT_192 (And.intro zeroT_192 (And.intro fieldsT_192 (And.intro elT_189 (And.intro elZ_189 (And.intro kT_189 (And.intro szT_190 (And.intro aggB_190 (And.intro mapT_194 (And.intro fldT_123_3 (And.intro szT_120 (And.intro aggB_120 (And.intro fldT_123_4 (And.intro szT_121 (And.intro aggB_121 (And.intro fldT_123_5 (And.intro mapT_120 (And.intro mapT_121 (And.intro elT_197 (And.intro elZ_197 (And.intro kT_197 (And.intro intT_202 (And.intro kT_202 (And.intro zeroT_202 (And.intro szT_202 (And.intro aggB_202 (And.intro kT_173 (And.intro intT_173 (And.intro fldT_36_4 (And.intro szT_33 (And.intro aggB_33 (And.intro szT_52 (And.intro aggB_52 (And.intro fldT_114_0 (And.intro fldT_114_4 (And.intro fldT_114_1 (And.intro kT_216 (And.intro zeroT_216 (And.intro fieldsT_216 (And.intro kT_33 (And.intro szT_192 (And.intro aggB_192 (And.intro fldT_192_0 (And.intro fldT_192_1 (And.intro strsT_57 (And.intro fldT_43_0 (And.intro fldT_43_1 (And.intro fldT_43_2 (And.intro fldT_43_3 (And.intro fldT_43_4 (And.intro fldT_52_0 (And.intro fldT_52_5 (And.intro zeroT_242 (And.intro fldT_216_0 (And.intro fldT_242_1 (And.intro szT_68 (And.intro aggB_68 (And.intro fldT_242_0 (And.intro szT_240 (And.intro aggB_240 (And.intro kT_240 (And.intro intT_240 (And.intro intT_252 (kT_252)))))))))))))))))))))))))))))))))))))))))))))))))))))))))))))))))))))))))))))))))))))))))))))))))))))))))))))))))))))))))))))))))))))))))))))))))))))))))))))))))))))))))))))))))))))))))))))))))))))))))))))))))))))))))))))))))))))))))))))))))))))))))))))))))))))))))))))))))))))))))))))))))))))))))))))))) := And.intro zeroT_29 (And.intro zeroT_38 (And.intro szT_29 (And.intro aggB_29 (And.intro szT_38 (And.intro aggB_38 (And.intro elT_32 (And.intro elZ_32 (And.intro kT_36 (And.intro zeroT_36 (And.intro fieldsT_36 (And.intro kT_43 (And.intro zeroT_43 (And.intro fieldsT_43 (And.intro elT_33 (And.intro elZ_33 (And.intro elT_34 (And.intro elZ_34 (And.intro elT_45 (And.intro elZ_45 (And.intro intT_5 (And.intro intT_3 (And.intro kT_5 (And.intro kT_3 (And.intro kT_34 (And.intro szT_36 (And.intro aggB_36 (And.intro fldT_38_5 (And.intro kT_45 (And.intro szT_44 (And.intro aggB_44 (And.intro fldT_29_5 (And.intro szT_26 (And.intro aggB_26 (And.intro kT_26 (And.intro elT_26 (And.intro fldT_50_3 (And.intro fldT_50_4 (And.intro szT_48 (And.intro aggB_48 (And.intro kT_48 (And.intro elT_48 (And.intro fldT_52_2 (And.intro fldT_36_0 (And.intro szT_9 (And.intro aggB_9 (And.intro kT_9 (And.intro fldT_36_1 (And.intro fldT_36_2 (And.intro szT_32 (And.intro aggB_32 (And.intro fldT_52_3 (And.intro fldT_52_4 (And.intro fldT_38_3 (And.intro szT_30 (And.intro aggB_30 (And.intro kT_54 (And.intro zeroT_54 (And.intro fieldsT_54 (And.intro elT_30 (And.intro elZ_30 (And.intro kT_30 (And.intro kT_57 (And.intro zeroT_57 (And.intro fieldsT_57 (And.intro elT_23 (And.intro elZ_23 (And.intro kT_23 (And.intro fldT_52_1 (And.intro szT_23 (And.intro aggB_23 (And.intro fldT_29_6 (And.intro szT_27 (And.intro aggB_27 (And.intro kT_27 (And.intro elT_27 (And.intro fldT_62_3 (And.intro fldT_62_4 (And.intro fldT_62_5 (And.intro fldT_62_7 (And.intro kT_52 (And.intro zeroT_52 (And.intro fieldsT_52 (And.intro elZ_48 (And.intro fldT_62_6 (And.intro kT_50 (And.intro zeroT_50 (And.intro fieldsT_50 (And.intro elZ_26 (And.intro kT_64 (And.intro zeroT_64 (And.intro fieldsT_64 (And.intro elT_25 (And.intro elZ_25 (And.intro fldT_29_4 (And.intro szT_25 (And.intro aggB_25 (And.intro szT_62 (And.intro aggB_62 (And.intro elZ_27 (And.intro kT_65 (And.intro arT_65 (And.intro szT_3 (And.intro aggB_3 (And.intro fldT_50_2 (And.intro kT_4 (And.intro kT_25 (And.intro fldT_64_2 (And.intro fldT_64_3 (And.intro fldT_62_2 (And.intro kT_68 (And.intro fldT_38_2 (And.intro kT_32 (And.intro fldT_38_4 (And.intro szT_31 (And.intro aggB_31 (And.intro elT_69 (And.intro elZ_69 (And.intro elT_68 (And.intro szT_5 (And.intro aggB_5 (And.intro kT_71 (And.intro zeroT_71 (And.intro fieldsT_71 (And.intro elT_31 (And.intro elZ_31 (And.intro kT_31 (And.intro kT_69 (And.intro szT_4 (And.intro aggB_4 (And.intro fldT_29_1 (And.intro fldT_29_3 (And.intro szT_24 (And.intro aggB_24 (And.intro kT_75 (And.intro zeroT_75 (And.intro fieldsT_75 (And.intro elT_24 (And.intro elZ_24 (And.intro kT_24 (And.intro kT_29 (And.intro fieldsT_29 (And.intro kT_77 (And.intro kT_79 (And.intro fldT_57_0 (And.intro szT_43 (And.intro aggB_43 (And.intro kT_38 (And.intro fieldsT_38 (And.intro kT_62 (And.intro zeroT_62 (And.intro fieldsT_62 (And.intro elZ_68 (And.intro intT_68 (And.intro intT_9 (And.intro u8T_68 (And.intro fldT_57_1 (And.intro kT_44 (And.intro zvT_44 (And.intro szT_57 (And.intro aggB_57 (And.intro kT_101 (And.intro zeroT_101 (And.intro fieldsT_101 (And.intro fldT_101_0 (And.intro szT_99 (And.intro aggB_99 (And.intro mapT_99 (And.intro zeroT_114 (And.intro szT_114 (And.intro aggB_114 (And.intro kT_123 (And.intro zeroT_123 (And.intro fieldsT_123 (And.intro fldT_123_2 (And.intro szT_77 (And.intro aggB_77 (And.intro elT_124 (And.intro elZ_124 (And.intro kT_124 (And.intro kT_99 (And.intro intT_128 (And.intro kT_128 (And.intro kT_132 (And.intro zeroT_132 (And.intro fieldsT_132 (And.intro fldT_29_0 (And.intro elT_112 (And.intro elZ_112 (And.intro fldT_29_2 (And.intro szT_75 (And.intro aggB_75 (And.intro fldT_75_0 (And.intro fldT_75_1 (And.intro kT_112 (And.intro szT_64 (And.intro aggB_64 (And.intro fldT_64_0 (And.intro fldT_64_1 (And.intro szT_50 (And.intro aggB_50 (And.intro fldT_114_5 (And.intro szT_112 (And.intro aggB_112 (And.intro fldT_132_0 (And.intro kT_114 (And.intro fieldsT_114 (And.intro fldT_38_0 (And.intro fldT_38_1 (And.intro szT_54 (And.intro aggB_54 (And.intro szT_71 (And.intro aggB_71 (And.intro fldT_71_0 (And.intro fldT_71_1 (And.intro fldT_36_5 (And.intro szT_34 (And.intro aggB_34 (And.intro fldT_123_0 (And.intro fldT_123_6 (And.intro zeroT_91 (And.intro szT_91 (And.intro aggB_91 (And.intro fldT_123_1 (And.intro kT_163 (And.intro intT_171 (And.intro kT_171 (And.intro fldT_50_0 (And.intro fldT_50_1 (And.intro fldT_62_0 (And.intro fldT_62_1 (And.intro zeroT_3 (And.intro fldT_54_0 (And.intro fldT_54_1 (And.intro fldT_36_3 (And.intro zeroT_190 (And.intro kT_190 (And.intro arT_190 (And.intro szT_189 (And.intro aggB_189 (And.intro kT_192 (And.intro zeroT_192 (And.intro fieldsT_192 (And.intro elT_189 (And.intro elZ_189 (And.intro kT_189 (And.intro szT_190 (And.intro aggB_190 (And.intro mapT_194 (And.intro fldT_123_3 (And.intro szT_120 (And.intro aggB_120 (And.intro fldT_123_4 (And.intro szT_121 (And.intro aggB_121 (And.intro fldT_123_5 (And.intro mapT_120 (And.intro mapT_121 (And.intro elT_197 (And.intro elZ_197 (And.intro kT_197 (And.intro intT_202 (And.intro kT_202 (And.intro zeroT_202 (And.intro szT_202 (And.intro aggB_202 (And.intro kT_173 (And.intro intT_173 (And.intro fldT_36_4 (And.intro szT_33 (And.intro aggB_33 (And.intro szT_52 (And.intro aggB_52 (And.intro fldT_114_0 (And.intro fldT_114_4 (And.intro fldT_114_1 (And.intro kT_216 (And.intro zeroT_216 (And.intro fieldsT_216 (And.intro kT_33 (And.intro szT_192 (And.intro aggB_192 (And.intro fldT_192_0 (And.intro fldT_192_1 (And.intro strsT_57 (And.intro fldT_43_0 (And.intro fldT_43_1 (And.intro fldT_43_2 (And.intro fldT_43_3 (And.intro fldT_43_4 (And.intro fldT_52_0 (And.intro fldT_52_5 (And.intro zeroT_242 (And.intro fldT_216_0 (And.intro fldT_242_1 (And.intro szT_68 (And.intro aggB_68 (And.intro fldT_242_0 (And.intro szT_240 (And.intro aggB_240 (And.intro kT_240 (And.intro intT_240 (And.intro intT_252 (kT_252)))))))))))))))))))))))))))))))))))))))))))))))))))))))))))))))))))))))))))))))))))))))))))))))))))))))))))))))))))))))))))))))))))))))))))))))))))))))))))))))))))))))))))))))))))))))))))))))))))))))))))))))))))))))))))))))))))))))))))))))))))))))))))))))))))))))))))))))))))))))))))))))))))))))))))))))
end Ty
end Go.Proofs.YtdnpmfjfgamaeaaGreat
