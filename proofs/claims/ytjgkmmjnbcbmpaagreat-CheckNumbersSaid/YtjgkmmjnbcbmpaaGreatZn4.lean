/- What the claim rests on, part 4: the abstract machine, contracts of the functions, plain data. -/
import Derived.Test.YtjgkmmjnbcbmpaaGreatProg
import Derived.Lib.IndexEntry
import Derived.Shelf.SlIter.Nil
import Derived.Shelf.SortM.Plain
import Derived.Shelf.SortM.SortNone
import Derived.Shelf.Strings.Search3
import Derived.Sort.KeysCollected
import Derived.Test.YtjgkmmjnbcbmpaaGreatZn3
set_option linter.unusedVariables false
set_option linter.unusedSimpArgs false
set_option linter.unusedSectionVars false
namespace Go.Proofs.YtjgkmmjnbcbmpaaGreat
open Go.AM
namespace Ty
theorem mixed:Tryz.prog.follows .mixedOrders=true:=by kernel_rfl
theorem hb_6:hasBody Tryz.prog 6=true:=by kernel_rfl
theorem kT_22:kT Tryz.prog 22=9:=by kernel_rfl
theorem arT_22:arT Tryz.prog 22=some (2,1):=by kernel_rfl
theorem szT_3:szT Tryz.prog 3=some 1:=by kernel_rfl
theorem aggB_3:aggB Tryz.prog 3=false:=by kernel_rfl
theorem zeroT_31:zeroT Tryz.prog 31=some [.string ⟨#[]⟩,.slice none 0 0,.slice none 0 0,.slice none 0 0,.slice none 0 0,.slice none 0 0,.slice none 0 0]:=by kernel_rfl
theorem zeroT_40:zeroT Tryz.prog 40=some [.string ⟨#[]⟩,.string ⟨#[]⟩,.slice none 0 0,.slice none 0 0,.slice none 0 0,.string ⟨#[]⟩,.string ⟨#[]⟩,.slice none 0 0,.slice none 0 0,.slice none 0 0,.slice none 0 0]:=by kernel_rfl
theorem szT_31:szT Tryz.prog 31=some 7:=by kernel_rfl
theorem aggB_31:aggB Tryz.prog 31=true:=by kernel_rfl
theorem szT_40:szT Tryz.prog 40=some 11:=by kernel_rfl
theorem aggB_40:aggB Tryz.prog 40=true:=by kernel_rfl
theorem fldT_31_5:fldT Tryz.prog 31 5=some (5,1,false):=by kernel_rfl
theorem szT_28:szT Tryz.prog 28=some 1:=by kernel_rfl
theorem aggB_28:aggB Tryz.prog 28=false:=by kernel_rfl
theorem kT_28:kT Tryz.prog 28=5:=by kernel_rfl
theorem elT_28:elT Tryz.prog 28=some (10,200):=by kernel_rfl
theorem fldT_45_2:fldT Tryz.prog 45 2=some (2,1,false):=by kernel_rfl
theorem kT_3:kT Tryz.prog 3=2:=by kernel_rfl
theorem kT_4:kT Tryz.prog 4=1:=by kernel_rfl
theorem fldT_31_4:fldT Tryz.prog 31 4=some (4,1,false):=by kernel_rfl
theorem szT_27:szT Tryz.prog 27=some 1:=by kernel_rfl
theorem aggB_27:aggB Tryz.prog 27=false:=by kernel_rfl
theorem kT_27:kT Tryz.prog 27=5:=by kernel_rfl
theorem elT_27:elT Tryz.prog 27=some (4,56):=by kernel_rfl
theorem fldT_50_2:fldT Tryz.prog 50 2=some (2,1,false):=by kernel_rfl
theorem fldT_50_3:fldT Tryz.prog 50 3=some (3,1,false):=by kernel_rfl
theorem fldT_31_6:fldT Tryz.prog 31 6=some (6,1,false):=by kernel_rfl
theorem szT_29:szT Tryz.prog 29=some 1:=by kernel_rfl
theorem aggB_29:aggB Tryz.prog 29=false:=by kernel_rfl
theorem kT_29:kT Tryz.prog 29=5:=by kernel_rfl
theorem elT_29:elT Tryz.prog 29=some (23,480):=by kernel_rfl
theorem fldT_52_2:fldT Tryz.prog 52 2=some (2,1,false):=by kernel_rfl
theorem kT_54:kT Tryz.prog 54=5:=by kernel_rfl
theorem intT_5:intT Tryz.prog 5=some .u8:=by kernel_rfl
theorem intT_3:intT Tryz.prog 3=some .i64:=by kernel_rfl
theorem kT_5:kT Tryz.prog 5=2:=by kernel_rfl
theorem elT_34:elT Tryz.prog 34=some (1,16):=by kernel_rfl
theorem elZ_34:elZ Tryz.prog 34=some [.string ⟨#[]⟩]:=by kernel_rfl
theorem fldT_40_2:fldT Tryz.prog 40 2=some (2,1,false):=by kernel_rfl
theorem szT_25:szT Tryz.prog 25=some 1:=by kernel_rfl
theorem aggB_25:aggB Tryz.prog 25=false:=by kernel_rfl
theorem kT_34:kT Tryz.prog 34=5:=by kernel_rfl
theorem szT_9:szT Tryz.prog 9=some 1:=by kernel_rfl
theorem aggB_9:aggB Tryz.prog 9=false:=by kernel_rfl
theorem kT_56:kT Tryz.prog 56=8:=by kernel_rfl
theorem zeroT_56:zeroT Tryz.prog 56=some [.string ⟨#[]⟩,.string ⟨#[]⟩]:=by kernel_rfl
theorem fieldsT_56:fieldsT Tryz.prog 56=some [(0,1),(1,1)]:=by kernel_rfl
theorem elT_25:elT Tryz.prog 25=some (2,32):=by kernel_rfl
theorem elZ_25:elZ Tryz.prog 25=some [.string ⟨#[]⟩,.string ⟨#[]⟩]:=by kernel_rfl
theorem kT_25:kT Tryz.prog 25=5:=by kernel_rfl
theorem fldT_40_4:fldT Tryz.prog 40 4=some (4,1,false):=by kernel_rfl
theorem szT_33:szT Tryz.prog 33=some 1:=by kernel_rfl
theorem aggB_33:aggB Tryz.prog 33=false:=by kernel_rfl
theorem elT_57:elT Tryz.prog 57=some (1,1):=by kernel_rfl
theorem elZ_57:elZ Tryz.prog 57=some [.bool false]:=by kernel_rfl
theorem elT_54:elT Tryz.prog 54=some (1,1):=by kernel_rfl
theorem szT_5:szT Tryz.prog 5=some 1:=by kernel_rfl
theorem aggB_5:aggB Tryz.prog 5=false:=by kernel_rfl
theorem kT_59:kT Tryz.prog 59=8:=by kernel_rfl
theorem zeroT_59:zeroT Tryz.prog 59=some [.string ⟨#[]⟩,.slice none 0 0]:=by kernel_rfl
theorem fieldsT_59:fieldsT Tryz.prog 59=some [(0,1),(1,1)]:=by kernel_rfl
theorem kT_61:kT Tryz.prog 61=8:=by kernel_rfl
theorem zeroT_61:zeroT Tryz.prog 61=some [.string ⟨#[]⟩,.slice none 0 0,.int .i64 0]:=by kernel_rfl
theorem fieldsT_61:fieldsT Tryz.prog 61=some [(0,2),(2,1)]:=by kernel_rfl
theorem elT_33:elT Tryz.prog 33=some (3,48):=by kernel_rfl
theorem elZ_33:elZ Tryz.prog 33=some [.string ⟨#[]⟩,.slice none 0 0,.int .i64 0]:=by kernel_rfl
theorem kT_33:kT Tryz.prog 33=5:=by kernel_rfl
theorem kT_57:kT Tryz.prog 57=5:=by kernel_rfl
theorem szT_4:szT Tryz.prog 4=some 1:=by kernel_rfl
theorem aggB_4:aggB Tryz.prog 4=false:=by kernel_rfl
theorem fldT_40_5:fldT Tryz.prog 40 5=some (5,6,true):=by kernel_rfl
theorem szT_38:szT Tryz.prog 38=some 6:=by kernel_rfl
theorem aggB_38:aggB Tryz.prog 38=true:=by kernel_rfl
theorem kT_65:kT Tryz.prog 65=8:=by kernel_rfl
theorem zeroT_65:zeroT Tryz.prog 65=some [.string ⟨#[]⟩,.string ⟨#[]⟩,.int .i64 0,.slice none 0 0,.slice none 0 0]:=by kernel_rfl
theorem fieldsT_65:fieldsT Tryz.prog 65=some [(0,1),(1,1),(2,1),(3,1),(4,1)]:=by kernel_rfl
theorem szT_65:szT Tryz.prog 65=some 5:=by kernel_rfl
theorem aggB_65:aggB Tryz.prog 65=true:=by kernel_rfl
theorem kT_67:kT Tryz.prog 67=8:=by kernel_rfl
theorem zeroT_67:zeroT Tryz.prog 67=some [.string ⟨#[]⟩,.slice none 0 0]:=by kernel_rfl
theorem fieldsT_67:fieldsT Tryz.prog 67=some [(0,1),(1,1)]:=by kernel_rfl
theorem elT_26:elT Tryz.prog 26=some (2,40):=by kernel_rfl
theorem elZ_26:elZ Tryz.prog 26=some [.string ⟨#[]⟩,.slice none 0 0]:=by kernel_rfl
theorem kT_50:kT Tryz.prog 50=8:=by kernel_rfl
theorem zeroT_50:zeroT Tryz.prog 50=some [.string ⟨#[]⟩,.slice none 0 0,.int .i64 0,.int .i64 0]:=by kernel_rfl
theorem fieldsT_50:fieldsT Tryz.prog 50=some [(0,1),(1,1),(2,1),(3,1)]:=by kernel_rfl
theorem elZ_27:elZ Tryz.prog 27=some [.string ⟨#[]⟩,.slice none 0 0,.int .i64 0,.int .i64 0]:=by kernel_rfl
theorem elT_35:elT Tryz.prog 35=some (5,88):=by kernel_rfl
theorem elZ_35:elZ Tryz.prog 35=some [.string ⟨#[]⟩,.string ⟨#[]⟩,.int .i64 0,.slice none 0 0,.slice none 0 0]:=by kernel_rfl
theorem kT_38:kT Tryz.prog 38=8:=by kernel_rfl
theorem zeroT_38:zeroT Tryz.prog 38=some [.string ⟨#[]⟩,.string ⟨#[]⟩,.slice none 0 0,.slice none 0 0,.slice none 0 0,.slice none 0 0]:=by kernel_rfl
theorem fieldsT_38:fieldsT Tryz.prog 38=some [(0,1),(1,1),(2,1),(3,1),(4,1),(5,1)]:=by kernel_rfl
theorem elT_36:elT Tryz.prog 36=some (6,128):=by kernel_rfl
theorem elZ_36:elZ Tryz.prog 36=some [.string ⟨#[]⟩,.string ⟨#[]⟩,.slice none 0 0,.slice none 0 0,.slice none 0 0,.slice none 0 0]:=by kernel_rfl
theorem kT_70:kT Tryz.prog 70=8:=by kernel_rfl
theorem zeroT_70:zeroT Tryz.prog 70=some [.int .i64 0,.slice none 0 0,.string ⟨#[]⟩,.string ⟨#[]⟩,.slice none 0 0,.slice none 0 0,.slice none 0 0,.slice none 0 0,.string ⟨#[]⟩,.slice none 0 0,.string ⟨#[]⟩,.string ⟨#[]⟩,.int .i64 0,.slice none 0 0,.slice none 0 0]:=by kernel_rfl
theorem fieldsT_70:fieldsT Tryz.prog 70=some [(0,1),(1,1),(2,6),(8,1),(9,1),(10,5)]:=by kernel_rfl
theorem elT_43:elT Tryz.prog 43=some (15,288):=by kernel_rfl
theorem elZ_43:elZ Tryz.prog 43=some [.int .i64 0,.slice none 0 0,.string ⟨#[]⟩,.string ⟨#[]⟩,.slice none 0 0,.slice none 0 0,.slice none 0 0,.slice none 0 0,.string ⟨#[]⟩,.slice none 0 0,.string ⟨#[]⟩,.string ⟨#[]⟩,.int .i64 0,.slice none 0 0,.slice none 0 0]:=by kernel_rfl
theorem kT_45:kT Tryz.prog 45=8:=by kernel_rfl
theorem zeroT_45:zeroT Tryz.prog 45=some [.string ⟨#[]⟩,.slice none 0 0,.int .i64 0,.string ⟨#[]⟩,.string ⟨#[]⟩,.slice none 0 0,.slice none 0 0,.slice none 0 0,.slice none 0 0,.slice none 0 0]:=by kernel_rfl
theorem fieldsT_45:fieldsT Tryz.prog 45=some [(0,1),(1,1),(2,1),(3,6),(9,1)]:=by kernel_rfl
theorem elZ_28:elZ Tryz.prog 28=some [.string ⟨#[]⟩,.slice none 0 0,.int .i64 0,.string ⟨#[]⟩,.string ⟨#[]⟩,.slice none 0 0,.slice none 0 0,.slice none 0 0,.slice none 0 0,.slice none 0 0]:=by kernel_rfl
theorem kT_31:kT Tryz.prog 31=8:=by kernel_rfl
theorem fieldsT_31:fieldsT Tryz.prog 31=some [(0,1),(1,1),(2,1),(3,1),(4,1),(5,1),(6,1)]:=by kernel_rfl
theorem elT_32:elT Tryz.prog 32=some (2,40):=by kernel_rfl
theorem elZ_32:elZ Tryz.prog 32=some [.string ⟨#[]⟩,.slice none 0 0]:=by kernel_rfl
theorem kT_40:kT Tryz.prog 40=8:=by kernel_rfl
theorem fieldsT_40:fieldsT Tryz.prog 40=some [(0,1),(1,1),(2,1),(3,1),(4,1),(5,6)]:=by kernel_rfl
theorem kT_9:kT Tryz.prog 9=3:=by kernel_rfl
theorem kT_72:kT Tryz.prog 72=7:=by kernel_rfl
theorem kT_52:kT Tryz.prog 52=8:=by kernel_rfl
theorem zeroT_52:zeroT Tryz.prog 52=some [.string ⟨#[]⟩,.slice none 0 0,.int .i64 0,.string ⟨#[]⟩,.string ⟨#[]⟩,.slice none 0 0,.slice none 0 0,.slice none 0 0,.slice none 0 0,.string ⟨#[]⟩,.string ⟨#[]⟩,.slice none 0 0,.slice none 0 0,.slice none 0 0,.slice none 0 0,.string ⟨#[]⟩,.string ⟨#[]⟩,.slice none 0 0,.slice none 0 0,.slice none 0 0,.slice none 0 0,.slice none 0 0,.slice none 0 0]:=by kernel_rfl
theorem fieldsT_52:fieldsT Tryz.prog 52=some [(0,1),(1,1),(2,1),(3,6),(9,6),(15,6),(21,1),(22,1)]:=by kernel_rfl
theorem elZ_29:elZ Tryz.prog 29=some [.string ⟨#[]⟩,.slice none 0 0,.int .i64 0,.string ⟨#[]⟩,.string ⟨#[]⟩,.slice none 0 0,.slice none 0 0,.slice none 0 0,.slice none 0 0,.string ⟨#[]⟩,.string ⟨#[]⟩,.slice none 0 0,.slice none 0 0,.slice none 0 0,.slice none 0 0,.string ⟨#[]⟩,.string ⟨#[]⟩,.slice none 0 0,.slice none 0 0,.slice none 0 0,.slice none 0 0,.slice none 0 0,.slice none 0 0]:=by kernel_rfl
theorem zeroT_78:zeroT Tryz.prog 78=some [.int .i64 0,.int .i64 0,.int .i64 0,.int .i64 0,.string ⟨#[]⟩,.slice none 0 0]:=by kernel_rfl
theorem szT_78:szT Tryz.prog 78=some 6:=by kernel_rfl
theorem aggB_78:aggB Tryz.prog 78=true:=by kernel_rfl
theorem kT_47:kT Tryz.prog 47=2:=by kernel_rfl
theorem kT_89:kT Tryz.prog 89=8:=by kernel_rfl
theorem zeroT_89:zeroT Tryz.prog 89=some [.string ⟨#[]⟩,.slice none 0 0,.slice none 0 0,.slice none 0 0,.slice none 0 0,.slice none 0 0,.slice none 0 0,.string ⟨#[]⟩,.string ⟨#[]⟩,.slice none 0 0,.slice none 0 0,.slice none 0 0,.string ⟨#[]⟩,.string ⟨#[]⟩,.slice none 0 0,.slice none 0 0,.slice none 0 0,.slice none 0 0,.pointer none,.map none,.map none,.map none,.slice none 0 0]:=by kernel_rfl
theorem fieldsT_89:fieldsT Tryz.prog 89=some [(0,7),(7,11),(18,1),(19,1),(20,1),(21,1),(22,1)]:=by kernel_rfl
theorem fldT_89_2:fldT Tryz.prog 89 2=some (18,1,false):=by kernel_rfl
theorem szT_84:szT Tryz.prog 84=some 1:=by kernel_rfl
theorem aggB_84:aggB Tryz.prog 84=false:=by kernel_rfl
theorem elT_92:elT Tryz.prog 92=some (1,8):=by kernel_rfl
theorem elZ_92:elZ Tryz.prog 92=some [.int .i64 0]:=by kernel_rfl
theorem kT_92:kT Tryz.prog 92=5:=by kernel_rfl
theorem kT_97:kT Tryz.prog 97=8:=by kernel_rfl
theorem zeroT_97:zeroT Tryz.prog 97=some [.bool false]:=by kernel_rfl
theorem fieldsT_97:fieldsT Tryz.prog 97=some [(0,1)]:=by kernel_rfl
theorem fldT_31_0:fldT Tryz.prog 31 0=some (0,1,false):=by kernel_rfl
theorem elT_76:elT Tryz.prog 76=some (6,72):=by kernel_rfl
theorem elZ_76:elZ Tryz.prog 76=some [.int .i64 0,.int .i64 0,.int .i64 0,.int .i64 0,.string ⟨#[]⟩,.slice none 0 0]:=by kernel_rfl
theorem fldT_31_1:fldT Tryz.prog 31 1=some (1,1,false):=by kernel_rfl
theorem fldT_31_2:fldT Tryz.prog 31 2=some (2,1,false):=by kernel_rfl
theorem fldT_31_3:fldT Tryz.prog 31 3=some (3,1,false):=by kernel_rfl
theorem szT_26:szT Tryz.prog 26=some 1:=by kernel_rfl
theorem aggB_26:aggB Tryz.prog 26=false:=by kernel_rfl
theorem kT_26:kT Tryz.prog 26=5:=by kernel_rfl
theorem szT_67:szT Tryz.prog 67=some 2:=by kernel_rfl
theorem aggB_67:aggB Tryz.prog 67=true:=by kernel_rfl
theorem fldT_67_0:fldT Tryz.prog 67 0=some (0,1,false):=by kernel_rfl
theorem fldT_67_1:fldT Tryz.prog 67 1=some (1,1,false):=by kernel_rfl
theorem kT_76:kT Tryz.prog 76=5:=by kernel_rfl
theorem szT_50:szT Tryz.prog 50=some 4:=by kernel_rfl
theorem aggB_50:aggB Tryz.prog 50=true:=by kernel_rfl
theorem fldT_50_0:fldT Tryz.prog 50 0=some (0,1,false):=by kernel_rfl
theorem fldT_50_1:fldT Tryz.prog 50 1=some (1,1,false):=by kernel_rfl
theorem szT_45:szT Tryz.prog 45=some 10:=by kernel_rfl
theorem aggB_45:aggB Tryz.prog 45=true:=by kernel_rfl
theorem fldT_78_5:fldT Tryz.prog 78 5=some (5,1,false):=by kernel_rfl
theorem szT_76:szT Tryz.prog 76=some 1:=by kernel_rfl
theorem aggB_76:aggB Tryz.prog 76=false:=by kernel_rfl
theorem szT_52:szT Tryz.prog 52=some 23:=by kernel_rfl
theorem aggB_52:aggB Tryz.prog 52=true:=by kernel_rfl
theorem fldT_97_0:fldT Tryz.prog 97 0=some (0,1,false):=by kernel_rfl
theorem hb_30:hasBody Tryz.prog 30=true:=by kernel_rfl
theorem kT_78:kT Tryz.prog 78=8:=by kernel_rfl
theorem fieldsT_78:fieldsT Tryz.prog 78=some [(0,1),(1,1),(2,1),(3,1),(4,1),(5,1)]:=by kernel_rfl
theorem fldT_40_0:fldT Tryz.prog 40 0=some (0,1,false):=by kernel_rfl
theorem fldT_40_1:fldT Tryz.prog 40 1=some (1,1,false):=by kernel_rfl
theorem fldT_40_3:fldT Tryz.prog 40 3=some (3,1,false):=by kernel_rfl
theorem szT_32:szT Tryz.prog 32=some 1:=by kernel_rfl
theorem aggB_32:aggB Tryz.prog 32=false:=by kernel_rfl
theorem kT_32:kT Tryz.prog 32=5:=by kernel_rfl
theorem szT_59:szT Tryz.prog 59=some 2:=by kernel_rfl
theorem aggB_59:aggB Tryz.prog 59=true:=by kernel_rfl
theorem szT_61:szT Tryz.prog 61=some 3:=by kernel_rfl
theorem aggB_61:aggB Tryz.prog 61=true:=by kernel_rfl
theorem fldT_61_0:fldT Tryz.prog 61 0=some (0,2,true):=by kernel_rfl
theorem fldT_61_1:fldT Tryz.prog 61 1=some (2,1,false):=by kernel_rfl
theorem fldT_38_0:fldT Tryz.prog 38 0=some (0,1,false):=by kernel_rfl
theorem fldT_38_5:fldT Tryz.prog 38 5=some (5,1,false):=by kernel_rfl
theorem szT_36:szT Tryz.prog 36=some 1:=by kernel_rfl
theorem aggB_36:aggB Tryz.prog 36=false:=by kernel_rfl
theorem kT_36:kT Tryz.prog 36=5:=by kernel_rfl
theorem fldT_89_0:fldT Tryz.prog 89 0=some (0,7,true):=by kernel_rfl
theorem fldT_89_6:fldT Tryz.prog 89 6=some (22,1,false):=by kernel_rfl
theorem zeroT_112:zeroT Tryz.prog 112=some [.nilFunc]:=by kernel_rfl
theorem szT_112:szT Tryz.prog 112=some 1:=by kernel_rfl
theorem aggB_112:aggB Tryz.prog 112=false:=by kernel_rfl
theorem fldT_89_1:fldT Tryz.prog 89 1=some (7,11,true):=by kernel_rfl
theorem zvT_47:zvT Tryz.prog 47=some (.int .i64 0):=by kernel_rfl
theorem hb_61:hasBody Tryz.prog 61=true:=by kernel_rfl
theorem szT_56:szT Tryz.prog 56=some 2:=by kernel_rfl
theorem aggB_56:aggB Tryz.prog 56=true:=by kernel_rfl
theorem fldT_56_0:fldT Tryz.prog 56 0=some (0,1,false):=by kernel_rfl
theorem hb_62:hasBody Tryz.prog 62=true:=by kernel_rfl
theorem fldT_56_1:fldT Tryz.prog 56 1=some (1,1,false):=by kernel_rfl
theorem fldT_45_0:fldT Tryz.prog 45 0=some (0,1,false):=by kernel_rfl
theorem fldT_45_1:fldT Tryz.prog 45 1=some (1,1,false):=by kernel_rfl
theorem fldT_45_3:fldT Tryz.prog 45 3=some (3,6,true):=by kernel_rfl
theorem fldT_45_4:fldT Tryz.prog 45 4=some (9,1,false):=by kernel_rfl
theorem szT_43:szT Tryz.prog 43=some 1:=by kernel_rfl
theorem aggB_43:aggB Tryz.prog 43=false:=by kernel_rfl
theorem kT_43:kT Tryz.prog 43=5:=by kernel_rfl
theorem fldT_52_0:fldT Tryz.prog 52 0=some (0,1,false):=by kernel_rfl
theorem fldT_52_1:fldT Tryz.prog 52 1=some (1,1,false):=by kernel_rfl
theorem fldT_52_3:fldT Tryz.prog 52 3=some (3,6,true):=by kernel_rfl
theorem fldT_52_4:fldT Tryz.prog 52 4=some (9,6,true):=by kernel_rfl
theorem fldT_52_5:fldT Tryz.prog 52 5=some (15,6,true):=by kernel_rfl
theorem fldT_52_6:fldT Tryz.prog 52 6=some (21,1,false):=by kernel_rfl
theorem fldT_52_7:fldT Tryz.prog 52 7=some (22,1,false):=by kernel_rfl
theorem zeroT_3:zeroT Tryz.prog 3=some [.int .i64 0]:=by kernel_rfl
theorem hb_68:hasBody Tryz.prog 68=true:=by kernel_rfl
theorem fldT_59_0:fldT Tryz.prog 59 0=some (0,1,false):=by kernel_rfl
theorem fldT_59_1:fldT Tryz.prog 59 1=some (1,1,false):=by kernel_rfl
theorem szT_34:szT Tryz.prog 34=some 1:=by kernel_rfl
theorem aggB_34:aggB Tryz.prog 34=false:=by kernel_rfl
theorem fldT_38_3:fldT Tryz.prog 38 3=some (3,1,false):=by kernel_rfl
theorem hb_82:hasBody Tryz.prog 82=true:=by kernel_rfl
theorem kT_147:kT Tryz.prog 147=8:=by kernel_rfl
theorem zeroT_147:zeroT Tryz.prog 147=some [.map none]:=by kernel_rfl
theorem fieldsT_147:fieldsT Tryz.prog 147=some [(0,1)]:=by kernel_rfl
theorem fldT_147_0:fldT Tryz.prog 147 0=some (0,1,false):=by kernel_rfl
theorem szT_87:szT Tryz.prog 87=some 1:=by kernel_rfl
theorem aggB_87:aggB Tryz.prog 87=false:=by kernel_rfl
theorem mapT_87:mapT Tryz.prog 87=some (3,(.string ⟨#[]⟩)):=by kernel_rfl
theorem zeroT_150:zeroT Tryz.prog 150=some [.slice none 0 0,.slice none 0 0,.slice none 0 0]:=by kernel_rfl
theorem kT_150:kT Tryz.prog 150=9:=by kernel_rfl
theorem arT_150:arT Tryz.prog 150=some (3,1):=by kernel_rfl
theorem szT_149:szT Tryz.prog 149=some 1:=by kernel_rfl
theorem aggB_149:aggB Tryz.prog 149=false:=by kernel_rfl
theorem kT_152:kT Tryz.prog 152=8:=by kernel_rfl
theorem zeroT_152:zeroT Tryz.prog 152=some [.string ⟨#[]⟩,.string ⟨#[]⟩]:=by kernel_rfl
theorem fieldsT_152:fieldsT Tryz.prog 152=some [(0,1),(1,1)]:=by kernel_rfl
theorem elT_149:elT Tryz.prog 149=some (2,32):=by kernel_rfl
theorem elZ_149:elZ Tryz.prog 149=some [.string ⟨#[]⟩,.string ⟨#[]⟩]:=by kernel_rfl
theorem kT_149:kT Tryz.prog 149=5:=by kernel_rfl
theorem szT_150:szT Tryz.prog 150=some 3:=by kernel_rfl
theorem aggB_150:aggB Tryz.prog 150=true:=by kernel_rfl
theorem mapT_154:mapT Tryz.prog 154=some (3,(.bool false)):=by kernel_rfl
theorem fldT_89_3:fldT Tryz.prog 89 3=some (19,1,false):=by kernel_rfl
theorem szT_85:szT Tryz.prog 85=some 1:=by kernel_rfl
theorem aggB_85:aggB Tryz.prog 85=false:=by kernel_rfl
theorem fldT_89_4:fldT Tryz.prog 89 4=some (20,1,false):=by kernel_rfl
theorem szT_86:szT Tryz.prog 86=some 1:=by kernel_rfl
theorem aggB_86:aggB Tryz.prog 86=false:=by kernel_rfl
theorem fldT_89_5:fldT Tryz.prog 89 5=some (21,1,false):=by kernel_rfl
theorem mapT_85:mapT Tryz.prog 85=some (3,(.slice none 0 0)):=by kernel_rfl
theorem mapT_86:mapT Tryz.prog 86=some (3,(.agg #[.string ⟨#[]⟩,.slice none 0 0,.int .i64 0,.int .i64 0])):=by kernel_rfl
theorem elT_157:elT Tryz.prog 157=some (1,24):=by kernel_rfl
theorem elZ_157:elZ Tryz.prog 157=some [.slice none 0 0]:=by kernel_rfl
theorem kT_157:kT Tryz.prog 157=5:=by kernel_rfl
theorem hb_94:hasBody Tryz.prog 94=true:=by kernel_rfl
theorem hb_93:hasBody Tryz.prog 93=true:=by kernel_rfl
theorem fldT_38_1:fldT Tryz.prog 38 1=some (1,1,false):=by kernel_rfl
theorem fldT_38_2:fldT Tryz.prog 38 2=some (2,1,false):=by kernel_rfl
theorem fldT_38_4:fldT Tryz.prog 38 4=some (4,1,false):=by kernel_rfl
theorem szT_35:szT Tryz.prog 35=some 1:=by kernel_rfl
theorem aggB_35:aggB Tryz.prog 35=false:=by kernel_rfl
theorem szT_70:szT Tryz.prog 70=some 15:=by kernel_rfl
theorem aggB_70:aggB Tryz.prog 70=true:=by kernel_rfl
theorem fldT_78_0:fldT Tryz.prog 78 0=some (0,1,false):=by kernel_rfl
theorem fldT_78_4:fldT Tryz.prog 78 4=some (4,1,false):=by kernel_rfl
theorem hb_101:hasBody Tryz.prog 101=true:=by kernel_rfl
theorem hb_102:hasBody Tryz.prog 102=true:=by kernel_rfl
theorem fldT_78_1:fldT Tryz.prog 78 1=some (1,1,false):=by kernel_rfl
theorem kT_173:kT Tryz.prog 173=8:=by kernel_rfl
theorem zeroT_173:zeroT Tryz.prog 173=some [.int .i64 0]:=by kernel_rfl
theorem fieldsT_173:fieldsT Tryz.prog 173=some [(0,1)]:=by kernel_rfl
theorem kT_35:kT Tryz.prog 35=5:=by kernel_rfl
theorem fldT_70_1:fldT Tryz.prog 70 1=some (1,1,false):=by kernel_rfl
theorem fldT_70_2:fldT Tryz.prog 70 2=some (2,6,true):=by kernel_rfl
theorem hb_112:hasBody Tryz.prog 112=true:=by kernel_rfl
theorem hb_113:hasBody Tryz.prog 113=true:=by kernel_rfl
theorem kT_84:kT Tryz.prog 84=4:=by kernel_rfl
theorem kT_87:kT Tryz.prog 87=6:=by kernel_rfl
theorem szT_152:szT Tryz.prog 152=some 2:=by kernel_rfl
theorem aggB_152:aggB Tryz.prog 152=true:=by kernel_rfl
theorem fldT_152_0:fldT Tryz.prog 152 0=some (0,1,false):=by kernel_rfl
theorem fldT_152_1:fldT Tryz.prog 152 1=some (1,1,false):=by kernel_rfl
theorem hb_122:hasBody Tryz.prog 122=true:=by kernel_rfl
theorem strsT_56:strsT Tryz.prog 56=some 2:=by kernel_rfl
theorem fldT_65_0:fldT Tryz.prog 65 0=some (0,1,false):=by kernel_rfl
theorem fldT_65_1:fldT Tryz.prog 65 1=some (1,1,false):=by kernel_rfl
theorem fldT_65_2:fldT Tryz.prog 65 2=some (2,1,false):=by kernel_rfl
theorem fldT_65_3:fldT Tryz.prog 65 3=some (3,1,false):=by kernel_rfl
theorem fldT_65_4:fldT Tryz.prog 65 4=some (4,1,false):=by kernel_rfl
theorem fldT_70_3:fldT Tryz.prog 70 3=some (8,1,false):=by kernel_rfl
theorem fldT_70_4:fldT Tryz.prog 70 4=some (9,1,false):=by kernel_rfl
theorem fldT_70_0:fldT Tryz.prog 70 0=some (0,1,false):=by kernel_rfl
theorem fldT_70_5:fldT Tryz.prog 70 5=some (10,5,true):=by kernel_rfl
theorem intT_9:intT Tryz.prog 9=none:=by kernel_rfl
theorem intT_54:intT Tryz.prog 54=none:=by kernel_rfl
theorem u8T_54:u8T Tryz.prog 54=true:=by kernel_rfl
theorem hb_126:hasBody Tryz.prog 126=true:=by kernel_rfl
theorem hb_127:hasBody Tryz.prog 127=true:=by kernel_rfl
theorem hb_128:hasBody Tryz.prog 128=true:=by kernel_rfl
theorem zeroT_200:zeroT Tryz.prog 200=some [.pointer none,.slice none 0 0]:=by kernel_rfl
theorem hb_145:hasBody Tryz.prog 145=true:=by kernel_rfl
theorem hb_146:hasBody Tryz.prog 146=true:=by kernel_rfl
theorem fldT_173_0:fldT Tryz.prog 173 0=some (0,1,false):=by kernel_rfl
theorem hb_149:hasBody Tryz.prog 149=true:=by kernel_rfl
theorem fldT_200_1:fldT Tryz.prog 200 1=some (1,1,false):=by kernel_rfl
theorem szT_54:szT Tryz.prog 54=some 1:=by kernel_rfl
theorem aggB_54:aggB Tryz.prog 54=false:=by kernel_rfl
theorem fldT_200_0:fldT Tryz.prog 200 0=some (0,1,false):=by kernel_rfl
theorem szT_198:szT Tryz.prog 198=some 1:=by kernel_rfl
theorem aggB_198:aggB Tryz.prog 198=false:=by kernel_rfl
theorem kT_198:kT Tryz.prog 198=4:=by kernel_rfl
theorem intT_198:intT Tryz.prog 198=none:=by kernel_rfl
theorem intT_209:intT Tryz.prog 209=none:=by kernel_rfl
theorem kT_209:kT Tryz.prog 209=11:=by kernel_rfl
theorem kT_214:kT Tryz.prog 214=2:=by kernel_rfl
theorem intT_214:intT Tryz.prog 214=some .u32:=by kernel_rfl
theorem hb_3:hasBody Tryz.prog 3=true:=by kernel_rfl
set_option maxRecDepth 20000
theorem all:type_of% (And.intro kT_22 (And.intro arT_22 (And.intro szT_3 (And.intro aggB_3 (And.intro zeroT_31 (And.intro zeroT_40 (And.intro szT_31 (And.intro aggB_31 (And.intro szT_40 (And.intro aggB_40 (And.intro fldT_31_5 (And.intro szT_28 (And.intro aggB_28 (And.intro kT_28 (And.intro elT_28 (And.intro fldT_45_2 (And.intro kT_3 (And.intro kT_4 (And.intro fldT_31_4 (And.intro szT_27 (And.intro aggB_27 (And.intro kT_27 (And.intro elT_27 (And.intro fldT_50_2 (And.intro fldT_50_3 (And.intro fldT_31_6 (And.intro szT_29 (And.intro aggB_29 (And.intro kT_29 (And.intro elT_29 (And.intro fldT_52_2 (And.intro kT_54 (And.intro intT_5 (And.intro intT_3 (And.intro kT_5 (And.intro elT_34 (And.intro elZ_34 (And.intro fldT_40_2 (And.intro szT_25 (And.intro aggB_25 (And.intro kT_34 (And.intro szT_9 (And.intro aggB_9 (And.intro kT_56 (And.intro zeroT_56 (And.intro fieldsT_56 (And.intro elT_25 (And.intro elZ_25 (And.intro kT_25 (And.intro fldT_40_4 (And.intro szT_33 (And.intro aggB_33 (And.intro elT_57 (And.intro elZ_57 (And.intro elT_54 (And.intro szT_5 (And.intro aggB_5 (And.intro kT_59 (And.intro zeroT_59 (And.intro fieldsT_59 (And.intro kT_61 (And.intro zeroT_61 (And.intro fieldsT_61 (And.intro elT_33 (And.intro elZ_33 (And.intro kT_33 (And.intro kT_57 (And.intro szT_4 (And.intro aggB_4 (And.intro fldT_40_5 (And.intro szT_38 (And.intro aggB_38 (And.intro kT_65 (And.intro zeroT_65 (And.intro fieldsT_65 (And.intro szT_65 (And.intro aggB_65 (And.intro kT_67 (And.intro zeroT_67 (And.intro fieldsT_67 (And.intro elT_26 (And.intro elZ_26 (And.intro kT_50 (And.intro zeroT_50 (And.intro fieldsT_50 (And.intro elZ_27 (And.intro elT_35 (And.intro elZ_35 (And.intro kT_38 (And.intro zeroT_38 (And.intro fieldsT_38 (And.intro elT_36 (And.intro elZ_36 (And.intro kT_70 (And.intro zeroT_70 (And.intro fieldsT_70 (And.intro elT_43 (And.intro elZ_43 (And.intro kT_45 (And.intro zeroT_45 (And.intro fieldsT_45 (And.intro elZ_28 (And.intro kT_31 (And.intro fieldsT_31 (And.intro elT_32 (And.intro elZ_32 (And.intro kT_40 (And.intro fieldsT_40 (And.intro kT_9 (And.intro kT_72 (And.intro kT_52 (And.intro zeroT_52 (And.intro fieldsT_52 (And.intro elZ_29 (And.intro zeroT_78 (And.intro szT_78 (And.intro aggB_78 (And.intro kT_47 (And.intro kT_89 (And.intro zeroT_89 (And.intro fieldsT_89 (And.intro fldT_89_2 (And.intro szT_84 (And.intro aggB_84 (And.intro elT_92 (And.intro elZ_92 (And.intro kT_92 (And.intro kT_97 (And.intro zeroT_97 (And.intro fieldsT_97 (And.intro fldT_31_0 (And.intro elT_76 (And.intro elZ_76 (And.intro fldT_31_1 (And.intro fldT_31_2 (And.intro fldT_31_3 (And.intro szT_26 (And.intro aggB_26 (And.intro kT_26 (And.intro szT_67 (And.intro aggB_67 (And.intro fldT_67_0 (And.intro fldT_67_1 (And.intro kT_76 (And.intro szT_50 (And.intro aggB_50 (And.intro fldT_50_0 (And.intro fldT_50_1 (And.intro szT_45 (And.intro aggB_45 (And.intro fldT_78_5 (And.intro szT_76 (And.intro aggB_76 (And.intro szT_52 (And.intro aggB_52 (And.intro fldT_97_0 (And.intro kT_78 (And.intro fieldsT_78 (And.intro fldT_40_0 (And.intro fldT_40_1 (And.intro fldT_40_3 (And.intro szT_32 (And.intro aggB_32 (And.intro kT_32 (And.intro szT_59 (And.intro aggB_59 (And.intro szT_61 (And.intro aggB_61 (And.intro fldT_61_0 (And.intro fldT_61_1 (And.intro fldT_38_0 (And.intro fldT_38_5 (And.intro szT_36 (And.intro aggB_36 (And.intro kT_36 (And.intro fldT_89_0 (And.intro fldT_89_6 (And.intro zeroT_112 (And.intro szT_112 (And.intro aggB_112 (And.intro fldT_89_1 (And.intro zvT_47 (And.intro szT_56 (And.intro aggB_56 (And.intro fldT_56_0 (And.intro fldT_56_1 (And.intro fldT_45_0 (And.intro fldT_45_1 (And.intro fldT_45_3 (And.intro fldT_45_4 (And.intro szT_43 (And.intro aggB_43 (And.intro kT_43 (And.intro fldT_52_0 (And.intro fldT_52_1 (And.intro fldT_52_3 (And.intro fldT_52_4 (And.intro fldT_52_5 (And.intro fldT_52_6 (And.intro fldT_52_7 (And.intro zeroT_3 (And.intro fldT_59_0 (And.intro fldT_59_1 (And.intro szT_34 (And.intro aggB_34 (And.intro fldT_38_3 (And.intro kT_147 (And.intro zeroT_147 (And.intro fieldsT_147 (And.intro fldT_147_0 (And.intro szT_87 (And.intro aggB_87 (And.intro mapT_87 (And.intro zeroT_150 (And.intro kT_150 (And.intro arT_150 (And.intro szT_149 (And.intro aggB_149 (And.intro kT_152 (And.intro zeroT_152 (And.intro fieldsT_152 (And.intro elT_149 (And.intro elZ_149 (And.intro kT_149 (And.intro szT_150 (And.intro aggB_150 (And.intro mapT_154 (And.intro fldT_89_3 (And.intro szT_85 (And.intro aggB_85 (And.intro fldT_89_4 (And.intro szT_86 (And.intro aggB_86 (And.intro fldT_89_5 (And.intro mapT_85 (And.intro mapT_86 (And.intro elT_157 (And.intro elZ_157 (And.intro kT_157 (And.intro fldT_38_1 (And.intro fldT_38_2 (And.intro fldT_38_4 (And.intro szT_35 (And.intro aggB_35 (And.intro szT_70 (And.intro aggB_70 (And.intro fldT_78_0 (And.intro fldT_78_4 (And.intro fldT_78_1 (And.intro kT_173 (And.intro zeroT_173 (And.intro fieldsT_173 (And.intro kT_35 (And.intro fldT_70_1 (And.intro fldT_70_2 (And.intro kT_84 (And.intro kT_87 (And.intro szT_152 (And.intro aggB_152 (And.intro fldT_152_0 (And.intro fldT_152_1 (And.intro strsT_56 (And.intro fldT_65_0 (And.intro fldT_65_1 (And.intro fldT_65_2 (And.intro fldT_65_3 (And.intro fldT_65_4 (And.intro fldT_70_3 (And.intro fldT_70_4 (And.intro fldT_70_0 (And.intro fldT_70_5 (And.intro intT_9 (And.intro intT_54 (And.intro u8T_54 (And.intro zeroT_200 (And.intro fldT_173_0 (And.intro fldT_200_1 (And.intro szT_54 (And.intro aggB_54 (And.intro fldT_200_0 (And.intro szT_198 (And.intro aggB_198 (And.intro kT_198 (And.intro intT_198 (And.intro intT_209 (And.intro kT_209 (And.intro kT_214 (intT_214)))))))))))))))))))))))))))))))))))))))))))))))))))))))))))))))))))))))))))))))))))))))))))))))))))))))))))))))))))))))))))))))))))))))))))))))))))))))))))))))))))))))))))))))))))))))))))))))))))))))))))))))))))))))))))))))))))))))))))))))))))))))))))))))))))))))))))))))))))))))))))))))):=And.intro kT_22 (And.intro arT_22 (And.intro szT_3 (And.intro aggB_3 (And.intro zeroT_31 (And.intro zeroT_40 (And.intro szT_31 (And.intro aggB_31 (And.intro szT_40 (And.intro aggB_40 (And.intro fldT_31_5 (And.intro szT_28 (And.intro aggB_28 (And.intro kT_28 (And.intro elT_28 (And.intro fldT_45_2 (And.intro kT_3 (And.intro kT_4 (And.intro fldT_31_4 (And.intro szT_27 (And.intro aggB_27 (And.intro kT_27 (And.intro elT_27 (And.intro fldT_50_2 (And.intro fldT_50_3 (And.intro fldT_31_6 (And.intro szT_29 (And.intro aggB_29 (And.intro kT_29 (And.intro elT_29 (And.intro fldT_52_2 (And.intro kT_54 (And.intro intT_5 (And.intro intT_3 (And.intro kT_5 (And.intro elT_34 (And.intro elZ_34 (And.intro fldT_40_2 (And.intro szT_25 (And.intro aggB_25 (And.intro kT_34 (And.intro szT_9 (And.intro aggB_9 (And.intro kT_56 (And.intro zeroT_56 (And.intro fieldsT_56 (And.intro elT_25 (And.intro elZ_25 (And.intro kT_25 (And.intro fldT_40_4 (And.intro szT_33 (And.intro aggB_33 (And.intro elT_57 (And.intro elZ_57 (And.intro elT_54 (And.intro szT_5 (And.intro aggB_5 (And.intro kT_59 (And.intro zeroT_59 (And.intro fieldsT_59 (And.intro kT_61 (And.intro zeroT_61 (And.intro fieldsT_61 (And.intro elT_33 (And.intro elZ_33 (And.intro kT_33 (And.intro kT_57 (And.intro szT_4 (And.intro aggB_4 (And.intro fldT_40_5 (And.intro szT_38 (And.intro aggB_38 (And.intro kT_65 (And.intro zeroT_65 (And.intro fieldsT_65 (And.intro szT_65 (And.intro aggB_65 (And.intro kT_67 (And.intro zeroT_67 (And.intro fieldsT_67 (And.intro elT_26 (And.intro elZ_26 (And.intro kT_50 (And.intro zeroT_50 (And.intro fieldsT_50 (And.intro elZ_27 (And.intro elT_35 (And.intro elZ_35 (And.intro kT_38 (And.intro zeroT_38 (And.intro fieldsT_38 (And.intro elT_36 (And.intro elZ_36 (And.intro kT_70 (And.intro zeroT_70 (And.intro fieldsT_70 (And.intro elT_43 (And.intro elZ_43 (And.intro kT_45 (And.intro zeroT_45 (And.intro fieldsT_45 (And.intro elZ_28 (And.intro kT_31 (And.intro fieldsT_31 (And.intro elT_32 (And.intro elZ_32 (And.intro kT_40 (And.intro fieldsT_40 (And.intro kT_9 (And.intro kT_72 (And.intro kT_52 (And.intro zeroT_52 (And.intro fieldsT_52 (And.intro elZ_29 (And.intro zeroT_78 (And.intro szT_78 (And.intro aggB_78 (And.intro kT_47 (And.intro kT_89 (And.intro zeroT_89 (And.intro fieldsT_89 (And.intro fldT_89_2 (And.intro szT_84 (And.intro aggB_84 (And.intro elT_92 (And.intro elZ_92 (And.intro kT_92 (And.intro kT_97 (And.intro zeroT_97 (And.intro fieldsT_97 (And.intro fldT_31_0 (And.intro elT_76 (And.intro elZ_76 (And.intro fldT_31_1 (And.intro fldT_31_2 (And.intro fldT_31_3 (And.intro szT_26 (And.intro aggB_26 (And.intro kT_26 (And.intro szT_67 (And.intro aggB_67 (And.intro fldT_67_0 (And.intro fldT_67_1 (And.intro kT_76 (And.intro szT_50 (And.intro aggB_50 (And.intro fldT_50_0 (And.intro fldT_50_1 (And.intro szT_45 (And.intro aggB_45 (And.intro fldT_78_5 (And.intro szT_76 (And.intro aggB_76 (And.intro szT_52 (And.intro aggB_52 (And.intro fldT_97_0 (And.intro kT_78 (And.intro fieldsT_78 (And.intro fldT_40_0 (And.intro fldT_40_1 (And.intro fldT_40_3 (And.intro szT_32 (And.intro aggB_32 (And.intro kT_32 (And.intro szT_59 (And.intro aggB_59 (And.intro szT_61 (And.intro aggB_61 (And.intro fldT_61_0 (And.intro fldT_61_1 (And.intro fldT_38_0 (And.intro fldT_38_5 (And.intro szT_36 (And.intro aggB_36 (And.intro kT_36 (And.intro fldT_89_0 (And.intro fldT_89_6 (And.intro zeroT_112 (And.intro szT_112 (And.intro aggB_112 (And.intro fldT_89_1 (And.intro zvT_47 (And.intro szT_56 (And.intro aggB_56 (And.intro fldT_56_0 (And.intro fldT_56_1 (And.intro fldT_45_0 (And.intro fldT_45_1 (And.intro fldT_45_3 (And.intro fldT_45_4 (And.intro szT_43 (And.intro aggB_43 (And.intro kT_43 (And.intro fldT_52_0 (And.intro fldT_52_1 (And.intro fldT_52_3 (And.intro fldT_52_4 (And.intro fldT_52_5 (And.intro fldT_52_6 (And.intro fldT_52_7 (And.intro zeroT_3 (And.intro fldT_59_0 (And.intro fldT_59_1 (And.intro szT_34 (And.intro aggB_34 (And.intro fldT_38_3 (And.intro kT_147 (And.intro zeroT_147 (And.intro fieldsT_147 (And.intro fldT_147_0 (And.intro szT_87 (And.intro aggB_87 (And.intro mapT_87 (And.intro zeroT_150 (And.intro kT_150 (And.intro arT_150 (And.intro szT_149 (And.intro aggB_149 (And.intro kT_152 (And.intro zeroT_152 (And.intro fieldsT_152 (And.intro elT_149 (And.intro elZ_149 (And.intro kT_149 (And.intro szT_150 (And.intro aggB_150 (And.intro mapT_154 (And.intro fldT_89_3 (And.intro szT_85 (And.intro aggB_85 (And.intro fldT_89_4 (And.intro szT_86 (And.intro aggB_86 (And.intro fldT_89_5 (And.intro mapT_85 (And.intro mapT_86 (And.intro elT_157 (And.intro elZ_157 (And.intro kT_157 (And.intro fldT_38_1 (And.intro fldT_38_2 (And.intro fldT_38_4 (And.intro szT_35 (And.intro aggB_35 (And.intro szT_70 (And.intro aggB_70 (And.intro fldT_78_0 (And.intro fldT_78_4 (And.intro fldT_78_1 (And.intro kT_173 (And.intro zeroT_173 (And.intro fieldsT_173 (And.intro kT_35 (And.intro fldT_70_1 (And.intro fldT_70_2 (And.intro kT_84 (And.intro kT_87 (And.intro szT_152 (And.intro aggB_152 (And.intro fldT_152_0 (And.intro fldT_152_1 (And.intro strsT_56 (And.intro fldT_65_0 (And.intro fldT_65_1 (And.intro fldT_65_2 (And.intro fldT_65_3 (And.intro fldT_65_4 (And.intro fldT_70_3 (And.intro fldT_70_4 (And.intro fldT_70_0 (And.intro fldT_70_5 (And.intro intT_9 (And.intro intT_54 (And.intro u8T_54 (And.intro zeroT_200 (And.intro fldT_173_0 (And.intro fldT_200_1 (And.intro szT_54 (And.intro aggB_54 (And.intro fldT_200_0 (And.intro szT_198 (And.intro aggB_198 (And.intro kT_198 (And.intro intT_198 (And.intro intT_209 (And.intro kT_209 (And.intro kT_214 (intT_214)))))))))))))))))))))))))))))))))))))))))))))))))))))))))))))))))))))))))))))))))))))))))))))))))))))))))))))))))))))))))))))))))))))))))))))))))))))))))))))))))))))))))))))))))))))))))))))))))))))))))))))))))))))))))))))))))))))))))))))))))))))))))))))))))))))))))))))))))))))))))))))))
theorem w:type_of% (And.intro @w0 @all):=And.intro @w0 @all
end Ty
end Go.Proofs.YtjgkmmjnbcbmpaaGreat
namespace Go.AM
abbrev sPV(s:ByteArray):PV:= .sc (.string s)
def strRows(l:List ByteArray):List (List PV):=l.map fun s=>[sPV s]
def bEq(a b:ByteArray):Bool:=a.data.toList==b.data.toList
def bigN:Nat:=1152921504606846976
structure Grow(h h':Heap):Prop where
 le:h.next≤h'.next
 old: ∀ id,id<h.next→h'.obj id=h.obj id
theorem Grow.refl(h:Heap):Grow h h:=⟨Nat.le_refl _,fun _ _=>rfl⟩
theorem Grow.new{h h':Heap}(g:Grow h h')(o:AObj):Grow h (h'.new o):=
 ⟨Nat.le_trans g.le (by simp[Heap.new]),fun id hid=>by simp only[Heap.new];rw[if_neg (by have:=g.le;omega)];exact g.old id hid⟩
theorem Grow.set{h h':Heap}(g:Grow h h'){id:Nat}(hid:h.next≤id)(o:AObj):Grow h (h'.set id o):=
 ⟨g.le,fun i hi=>by simp only[Heap.set];rw[if_neg (by omega)];exact g.old i hi⟩
theorem PCall.quiet{P:Program}{f:FuncId}{args:List PV}{h:Heap}{v:Value}(hb:hasBody P f=true)(hc:PCall P f args h fun r h'=>r= .sc v∧Grow h h'):PCall P f args h fun r h'=>r= .sc v∧h'=h:=by
 refine pcall_wf hb fun hw=>PCall.drop (hc.mono ?_);rintro r h' ⟨rfl,g⟩;refine⟨.sc v,h,⟨rfl,rfl⟩,by simp only[FrzTo],Nat.le_refl _,fun id o ho=>?_⟩;have hid:=hw id (by rw[ho];try rfl);exact⟨by rw[g.old id hid];exact ho,hid,.inl ho⟩
end Go.AM
namespace Go.Proofs.YtjgkmmjnbcbmpaaGreat
open Go.AM
set_option maxHeartbeats 2000000
set_option maxRecDepth 20000
def words:List ByteArray:=[⟨#[97,110,100]⟩,⟨#[111,114]⟩,⟨#[110,111,116]⟩,⟨#[105,109,112,108,121]⟩,⟨#[102,111,114,97,108,108]⟩,⟨#[101,120,105,115,116,115]⟩,⟨#[119,104,101,110]⟩,⟨#[97,115,115,105,103,110]⟩,⟨#[105,110,99,114,101,97,115,101]⟩,⟨#[100,101,99,114,101,97,115,101]⟩,⟨#[111,98,106,101,99,116]⟩]
theorem words_len:words.length=11:=rfl
def idxM(l:List ByteArray)(s:ByteArray):Int:=match l.findIdx? (fun w=>bEq s w)with
 |some i=>i
 |none=> -1
theorem strRows_get{l:List ByteArray}{i:Nat}{w:ByteArray}(h:l[i]? =some w):(strRows l)[i]? =some [sPV w]:=by simp[strRows,h]
theorem strRows_len(l:List ByteArray):(strRows l).length=l.length:=by simp[strRows]
theorem index_c{h:Heap}{l:List ByteArray}{s:ByteArray}(hl:l.length≤9223372036854775807):PCall Tryz.prog 122 [.imm 1 (strRows l),sPV s] h fun r h'=>r= .sc (.int .i64 (idxM l s))∧h'=h:=by
 have hlen:=strRows_len l;refine pcall_body (ow:=fun _=>false) (wf:=fun _=>false) Ty.mixed Tryz.func122 rfl Ty.hb_122 (by rw[Tryz.ntmps122];simp) ?_;rw[Tryz.ntmps122,Tryz.results122];repeat'(first|refine a_seq fun K hK=>?_|(refine a_block ?_)|((first|refine a_regionS ?_|refine a_region (fun K hK=>?_)|refine a_ret ?_);simp(maxSteps:=2000000) only[Ty.w,simprocAttr,hlen])|((first|refine a_skip ?_|refine a_exit ?_);try simp only[pst0,simprocAttr])|(refine a_cond _ (by(try simp(maxSteps:=2000000) only[Ty.w,simprocAttr,hlen]);rfl) (fun hb=>?_) (fun hb=>?_)<;>(try simp only[hb0,decide_eq_true_eq,decide_eq_false_iff_not,simprocAttr]at hb)<;>(try(exfalso;omega)))|(with_reducible refine ite_in (fun hb=>?_) (fun hb=>?_)<;>(try simp only[Decidable.not_not]at hb)<;>(try simp only[hb,if_true,if_false,not_false_eq_true,not_true_eq_false, ↓reduceIte])<;>(try simp only[hb0,decide_eq_true_eq,decide_eq_false_iff_not,simprocAttr]at hb)<;>(try(exfalso;omega)))|((first|refine hK _ _ ?_|(clear hK;refine hK _ _ ?_)|(clear hK;clear hK;refine hK _ _ ?_)|(clear hK;clear hK;clear hK;refine hK _ _ ?_));clear hK;try simp only[pst0,simprocAttr])|(rw[if_pos];rotate_left 1;omega;simp(maxSteps:=2000000) only[Ty.w,simprocAttr,hlen]))
 refine a_loop (fun m S h'=>h'=h∧S 0= .imm 1 (strRows l)∧S 1=sPV s∧S 7= .sc (.int .i64 l.length)∧ ∃ k:Nat,S 8= .sc (.int .i64 k)∧k≤l.length∧m=l.length-k∧ ∀ (i:Nat)(w:ByteArray),i<k→l[i]? =some w→bEq s w=false) l.length ?_ ?_
 ·simp only[Ty.w,simprocAttr];exact⟨0,rfl,by omega,rfl,by omega⟩
 ·rintro m S h' ⟨rfl,g0,g1,g7,k,g8,hk,rfl,hall⟩;by_cases hlt:k<l.length
  ·have hd:decide ((k:Int)<(l.length:Int))=true:=(by simp;omega);have w7:IntKind.i64.wrap ((k:Int)+1)=k+1:=(by rw[wrap64 (by omega) (by omega)]);obtain⟨w,hx⟩: ∃ w,l[k]? =some w:=⟨l[k],List.getElem?_eq_getElem hlt⟩;have hr:=strRows_get hx;cases he:bEq s w with
   |true=>
    have he':=he;unfold bEq at he';(repeat'(first|refine a_seq fun K hK=>?_|(refine a_block ?_)|((first|refine a_regionS ?_|refine a_region (fun K hK=>?_)|refine a_ret ?_);simp(maxSteps:=2000000) only[Ty.w,simprocAttr,g0,g1,g7,g8,hd,hr,he'])|((first|refine a_skip ?_|refine a_exit ?_);try simp only[pst0,simprocAttr])|(refine a_cond _ (by(try simp(maxSteps:=2000000) only[Ty.w,simprocAttr,g0,g1,g7,g8,hd,hr,he']);rfl) (fun hb=>?_) (fun hb=>?_)<;>(try simp only[hb0,decide_eq_true_eq,decide_eq_false_iff_not,simprocAttr]at hb)<;>(try(exfalso;omega)))|(with_reducible refine ite_in (fun hb=>?_) (fun hb=>?_)<;>(try simp only[Decidable.not_not]at hb)<;>(try simp only[hb,if_true,if_false,not_false_eq_true,not_true_eq_false, ↓reduceIte])<;>(try simp only[hb0,decide_eq_true_eq,decide_eq_false_iff_not,simprocAttr]at hb)<;>(try(exfalso;omega)))|((first|refine hK _ _ ?_|(clear hK;refine hK _ _ ?_)|(clear hK;clear hK;refine hK _ _ ?_)|(clear hK;clear hK;clear hK;refine hK _ _ ?_));clear hK;try simp only[pst0,simprocAttr])|(rw[if_pos];rotate_left 1;omega;simp(maxSteps:=2000000) only[Ty.w,simprocAttr,g0,g1,g7,g8,hd,hr,he'])));have:l.findIdx? (fun w=>bEq s w)=some k:=by
     rw[List.findIdx?_eq_some_iff_getElem];refine⟨hlt,?_,fun j hj=>?_⟩
     ·rw [List.getElem?_eq_getElem hlt]at hx;simp only[Option.some.injEq]at hx;rw[hx];exact he
     ·rw [hall j l[j] hj (List.getElem?_eq_getElem (by omega))];simp
    simp only[idxM,this]
   |false=>
    have he':=he;unfold bEq at he';(repeat'(first|refine a_seq fun K hK=>?_|(refine a_block ?_)|((first|refine a_regionS ?_|refine a_region (fun K hK=>?_)|refine a_ret ?_);simp(maxSteps:=2000000) only[Ty.w,simprocAttr,g0,g1,g7,g8,hd,hr,he',w7])|((first|refine a_skip ?_|refine a_exit ?_);try simp only[pst0,simprocAttr])|(refine a_cond _ (by(try simp(maxSteps:=2000000) only[Ty.w,simprocAttr,g0,g1,g7,g8,hd,hr,he',w7]);rfl) (fun hb=>?_) (fun hb=>?_)<;>(try simp only[hb0,decide_eq_true_eq,decide_eq_false_iff_not,simprocAttr]at hb)<;>(try(exfalso;omega)))|(with_reducible refine ite_in (fun hb=>?_) (fun hb=>?_)<;>(try simp only[Decidable.not_not]at hb)<;>(try simp only[hb,if_true,if_false,not_false_eq_true,not_true_eq_false, ↓reduceIte])<;>(try simp only[hb0,decide_eq_true_eq,decide_eq_false_iff_not,simprocAttr]at hb)<;>(try(exfalso;omega)))|((first|refine hK _ _ ?_|(clear hK;refine hK _ _ ?_)|(clear hK;clear hK;refine hK _ _ ?_)|(clear hK;clear hK;clear hK;refine hK _ _ ?_));clear hK;try simp only[pst0,simprocAttr])|(rw[if_pos];rotate_left 1;omega;simp(maxSteps:=2000000) only[Ty.w,simprocAttr,g0,g1,g7,g8,hd,hr,he',w7])));refine⟨l.length-(k+1),by omega,k+1,by simp,by omega,rfl,fun i w2 hi hw=>?_⟩;by_cases hik:i=k
    ·subst hik;rw[hx]at hw;simp at hw;rw[← hw];exact he
    ·exact hall i w2 (by omega) hw
  ·have hd:decide ((k:Int)<(l.length:Int))=false:=(by simp;omega);(repeat'(first|refine a_seq fun K hK=>?_|(refine a_block ?_)|((first|refine a_regionS ?_|refine a_region (fun K hK=>?_)|refine a_ret ?_);simp(maxSteps:=2000000) only[Ty.w,simprocAttr,g0,g1,g7,g8,hd])|((first|refine a_skip ?_|refine a_exit ?_);try simp only[pst0,simprocAttr])|(refine a_cond _ (by(try simp(maxSteps:=2000000) only[Ty.w,simprocAttr,g0,g1,g7,g8,hd]);rfl) (fun hb=>?_) (fun hb=>?_)<;>(try simp only[hb0,decide_eq_true_eq,decide_eq_false_iff_not,simprocAttr]at hb)<;>(try(exfalso;omega)))|(with_reducible refine ite_in (fun hb=>?_) (fun hb=>?_)<;>(try simp only[Decidable.not_not]at hb)<;>(try simp only[hb,if_true,if_false,not_false_eq_true,not_true_eq_false, ↓reduceIte])<;>(try simp only[hb0,decide_eq_true_eq,decide_eq_false_iff_not,simprocAttr]at hb)<;>(try(exfalso;omega)))|((first|refine hK _ _ ?_|(clear hK;refine hK _ _ ?_)|(clear hK;clear hK;refine hK _ _ ?_)|(clear hK;clear hK;clear hK;refine hK _ _ ?_));clear hK;try simp only[pst0,simprocAttr])|(rw[if_pos];rotate_left 1;omega;simp(maxSteps:=2000000) only[Ty.w,simprocAttr,g0,g1,g7,g8,hd])));have:l.findIdx? (fun w=>bEq s w)=none:=by
    rw[List.findIdx?_eq_none_iff];intro w hw;obtain⟨i,hi⟩:=List.getElem?_of_mem hw;have:i<l.length:=(List.getElem?_eq_some_iff.1 hi).1;exact hall i w (by omega) hi
   simp only[idxM,this]
theorem idxM_any(l:List ByteArray)(s:ByteArray):decide (idxM l s≥0)=l.any (fun w=>bEq s w):=by
 unfold idxM;cases h:l.findIdx? (fun w=>bEq s w)with
 |none=>
  rw[List.findIdx?_eq_none_iff]at h;have:l.any (fun w=>bEq s w)=false:=by simpa using h
  rw[this];try rfl
 |some i=>
  rw[List.findIdx?_eq_some_iff_getElem]at h;obtain⟨hi,h1,_⟩:=h;have:l.any (fun w=>bEq s w)=true:=List.any_eq_true.2 ⟨l[i],List.getElem_mem hi,h1⟩;rw[this];simp
theorem contains_c{h:Heap}{l:List ByteArray}{s:ByteArray}(hl:l.length≤9223372036854775807):PCall Tryz.prog 93 [.imm 1 (strRows l),sPV s] h fun r h'=>r= .sc (.bool (l.any fun w=>bEq s w))∧h'=h:=by
 refine pcall_body (ow:=fun _=>false) (wf:=fun _=>false) Ty.mixed Tryz.func93 rfl Ty.hb_93 (by rw[Tryz.ntmps93];simp) ?_;rw[Tryz.ntmps93,Tryz.results93];repeat'(first|refine a_seq fun K hK=>?_|(refine a_block ?_)|((first|refine a_regionS ?_|refine a_region (fun K hK=>?_)|refine a_ret ?_);simp(maxSteps:=2000000) only[Ty.w,simprocAttr])|((first|refine a_skip ?_|refine a_exit ?_);try simp only[pst0,simprocAttr])|(refine a_cond _ (by(try simp(maxSteps:=2000000) only[Ty.w,simprocAttr]);rfl) (fun hb=>?_) (fun hb=>?_)<;>(try simp only[hb0,decide_eq_true_eq,decide_eq_false_iff_not,simprocAttr]at hb)<;>(try(exfalso;omega)))|(with_reducible refine ite_in (fun hb=>?_) (fun hb=>?_)<;>(try simp only[Decidable.not_not]at hb)<;>(try simp only[hb,if_true,if_false,not_false_eq_true,not_true_eq_false, ↓reduceIte])<;>(try simp only[hb0,decide_eq_true_eq,decide_eq_false_iff_not,simprocAttr]at hb)<;>(try(exfalso;omega)))|((first|refine hK _ _ ?_|(clear hK;refine hK _ _ ?_)|(clear hK;clear hK;refine hK _ _ ?_)|(clear hK;clear hK;clear hK;refine hK _ _ ?_));clear hK;try simp only[pst0,simprocAttr])|(rw[if_pos];rotate_left 1;omega;simp(maxSteps:=2000000) only[Ty.w,simprocAttr]))
 refine owp_useQ (index_c (l:=l) (s:=s) hl) (by(try simp only[Ty.w,simprocAttr,]);try rfl) ?_;simp(maxSteps:=2000000) only[Ty.w,simprocAttr,];repeat'(first|refine a_seq fun K hK=>?_|(refine a_block ?_)|((first|refine a_regionS ?_|refine a_region (fun K hK=>?_)|refine a_ret ?_);simp(maxSteps:=2000000) only[Ty.w,simprocAttr])|((first|refine a_skip ?_|refine a_exit ?_);try simp only[pst0,simprocAttr])|(refine a_cond _ (by(try simp(maxSteps:=2000000) only[Ty.w,simprocAttr]);rfl) (fun hb=>?_) (fun hb=>?_)<;>(try simp only[hb0,decide_eq_true_eq,decide_eq_false_iff_not,simprocAttr]at hb)<;>(try(exfalso;omega)))|(with_reducible refine ite_in (fun hb=>?_) (fun hb=>?_)<;>(try simp only[Decidable.not_not]at hb)<;>(try simp only[hb,if_true,if_false,not_false_eq_true,not_true_eq_false, ↓reduceIte])<;>(try simp only[hb0,decide_eq_true_eq,decide_eq_false_iff_not,simprocAttr]at hb)<;>(try(exfalso;omega)))|((first|refine hK _ _ ?_|(clear hK;refine hK _ _ ?_)|(clear hK;clear hK;refine hK _ _ ?_)|(clear hK;clear hK;clear hK;refine hK _ _ ?_));clear hK;try simp only[pst0,simprocAttr])|(rw[if_pos];rotate_left 1;omega;simp(maxSteps:=2000000) only[Ty.w,simprocAttr]))
 rw[← idxM_any]
theorem reserved_c{h:Heap}:PCall Tryz.prog 94 [] h fun r h'=>r= .imm 1 (strRows words)∧h'=h:=by
 refine pcall_body (ow:=fun _=>false) (wf:=fun _=>false) Ty.mixed Tryz.func94 rfl Ty.hb_94 (by rw[Tryz.ntmps94];simp) ?_;rw[Tryz.ntmps94,Tryz.results94];repeat'(first|refine a_seq fun K hK=>?_|(refine a_block ?_)|((first|refine a_regionS ?_|refine a_region (fun K hK=>?_)|refine a_ret ?_);simp(maxSteps:=2000000) only[Ty.w,simprocAttr])|((first|refine a_skip ?_|refine a_exit ?_);try simp only[pst0,simprocAttr])|(refine a_cond _ (by(try simp(maxSteps:=2000000) only[Ty.w,simprocAttr]);rfl) (fun hb=>?_) (fun hb=>?_)<;>(try simp only[hb0,decide_eq_true_eq,decide_eq_false_iff_not,simprocAttr]at hb)<;>(try(exfalso;omega)))|(with_reducible refine ite_in (fun hb=>?_) (fun hb=>?_)<;>(try simp only[Decidable.not_not]at hb)<;>(try simp only[hb,if_true,if_false,not_false_eq_true,not_true_eq_false, ↓reduceIte])<;>(try simp only[hb0,decide_eq_true_eq,decide_eq_false_iff_not,simprocAttr]at hb)<;>(try(exfalso;omega)))|((first|refine hK _ _ ?_|(clear hK;refine hK _ _ ?_)|(clear hK;clear hK;refine hK _ _ ?_)|(clear hK;clear hK;clear hK;refine hK _ _ ?_));clear hK;try simp only[pst0,simprocAttr])|(rw[if_pos];rotate_left 1;omega;simp(maxSteps:=2000000) only[Ty.w,simprocAttr]))
 rfl
def letB(c:UInt8):Bool:=decide (97≤c.toNat)&&decide (c.toNat≤122)
def midB(c:UInt8):Bool:=letB c||(decide (48≤c.toNat)&&decide (c.toNat≤57))||decide (c.toNat=45)||decide (c.toNat=95)
def okAt(i:Nat)(c:UInt8):Bool:=letB c||(decide (i≠0)&&midB c)
def bytesOkB:List UInt8→Bool
 |[]=>true
 |c::l=>letB c&&l.all midB
def nameB(s:ByteArray):Bool:=bytesOkB s.data.toList&&decide (0<s.size)&&decide (s.size≤32)&&!(words.any fun w=>bEq s w)
def varB(s:ByteArray):Bool:=decide (2≤s.size)&&decide (s.size≤32)&&(match s.data.toList[0]? with|some c=>decide (c.toNat=63)|none=>false)&&nameB (s.extract 1 s.size)
theorem ba_get(s:ByteArray)(i:Nat):s[i]? =s.data.toList[i]?:=by
 rw[getElem?_def];by_cases hi:i<s.size
 ·rw [dif_pos hi,List.getElem?_eq_getElem (by simpa using hi)];rfl
 ·rw [dif_neg hi,List.getElem?_eq_none (by simp;omega)]
theorem letB_mid{c:UInt8}(h:letB c=true):midB c=true:=by simp[midB,h]
theorem bytesOk_true{l:List UInt8}(h: ∀ (j:Nat)(c:UInt8),l[j]? =some c→okAt j c=true):bytesOkB l=true:=by
 cases l with
 |nil=>rfl
 |cons c l=>
  simp only[bytesOkB,Bool.and_eq_true,List.all_eq_true];refine⟨by simpa[okAt]using h 0 c rfl,fun x hx=>?_⟩;obtain⟨i,hi⟩:=List.getElem?_of_mem hx;have:=h (i+1) x (by simpa using hi);simp only[okAt,Bool.or_eq_true,Bool.and_eq_true]at this;exact this.elim letB_mid (·.2)
theorem bytesOk_false{l:List UInt8}{j:Nat}{c:UInt8}(hj:l[j]? =some c)(h:okAt j c=false):bytesOkB l=false:=by
 cases l with
 |nil=>simp at hj
 |cons d l=>
  cases j with
  |zero=>
   simp at hj;subst hj;simp only[okAt]at h;simp at h;simp[bytesOkB,h]
  |succ j=>
   simp at hj;have hm:midB c=false:=(by simp[okAt]at h;exact h.2);have:l.all midB=false:=(by rw[List.all_eq_false];exact⟨c,List.mem_of_getElem? hj,by simp[hm]⟩);simp[bytesOkB,this]
set_option maxHeartbeats 800000
theorem byte_cls(c:UInt8):(letB c=true∧decide ((c.toNat:Int)≥97)=true∧decide ((c.toNat:Int)≤122)=true)∨
  (letB c=false∧decide ((c.toNat:Int)≥97)=false)∨(letB c=false∧midB c=false∧decide ((c.toNat:Int)≥97)=true∧decide ((c.toNat:Int)≤122)=false∧decide ((c.toNat:Int)<48)=false∧decide ((c.toNat:Int)>57)=true∧((c.toNat:Int) !=45)=true∧((c.toNat:Int) !=95)=true):=by
 by_cases h1:97≤c.toNat
 ·by_cases h2:c.toNat≤122
  ·exact .inl ⟨by simp[letB,h1,h2],by simp;omega,by simp;omega⟩
  ·refine .inr (.inr ⟨by simp[letB,h1,h2],by simp[midB,letB];omega,by simp;omega,by simp;omega,by simp;omega,by simp;omega,by simp;omega,by simp;omega⟩)
 ·exact .inr (.inl ⟨by simp[letB,h1],by simp;omega⟩)
theorem byte_cls2{c:UInt8}(h:decide ((c.toNat:Int)≥97)=false):
  (midB c=true∧decide ((c.toNat:Int)<48)=true∧((c.toNat:Int) !=45)=false)∨
  (midB c=false∧decide ((c.toNat:Int)<48)=true∧((c.toNat:Int) !=45)=true∧((c.toNat:Int) !=95)=true)∨
  (midB c=true∧decide ((c.toNat:Int)<48)=false∧decide ((c.toNat:Int)>57)=false)∨
  (midB c=true∧decide ((c.toNat:Int)<48)=false∧decide ((c.toNat:Int)>57)=true∧((c.toNat:Int) !=45)=true∧((c.toNat:Int) !=95)=false)∨
  (midB c=false∧decide ((c.toNat:Int)<48)=false∧decide ((c.toNat:Int)>57)=true∧((c.toNat:Int) !=45)=true∧((c.toNat:Int) !=95)=true):=by
 simp at h;by_cases h1:c.toNat<48
 ·by_cases h2:c.toNat=45
  ·exact .inl ⟨by simp[midB,h2],by simp;omega,by simp;omega⟩
  ·exact .inr (.inl ⟨by simp[midB,letB];omega,by simp;omega,by simp;omega,by simp;omega⟩)
 ·by_cases h2:c.toNat≤57
  ·exact .inr (.inr (.inl ⟨by simp[midB,letB];omega,by simp;omega,by simp;omega⟩))
  ·by_cases h3:c.toNat=95
   ·exact .inr (.inr (.inr (.inl ⟨by simp[midB,h3],by simp;omega,by simp;omega,by simp;omega,by simp;omega⟩)))
   ·exact .inr (.inr (.inr (.inr ⟨by simp[midB,letB];omega,by simp;omega,by simp;omega,by simp;omega,by simp;omega⟩)))
theorem fname_c{h:Heap}{s:ByteArray}(hs:s.size≤9223372036854775807):PCall Tryz.prog 61 [sPV s] h fun r h'=>r= .sc (.bool (nameB s))∧h'=h:=by
 have hsl:s.data.toList.length=s.size:=by rw[Array.length_toList];try rfl
 refine pcall_body (ow:=fun _=>false) (wf:=fun _=>false) Ty.mixed Tryz.func61 rfl Ty.hb_61 (by rw[Tryz.ntmps61];simp) ?_;rw[Tryz.ntmps61,Tryz.results61];repeat'(first|refine a_seq fun K hK=>?_|(refine a_block ?_)|((first|refine a_regionS ?_|refine a_region (fun K hK=>?_)|refine a_ret ?_);simp(maxSteps:=2000000) only[Ty.w,simprocAttr])|((first|refine a_skip ?_|refine a_exit ?_);try simp only[pst0,simprocAttr])|(refine a_cond _ (by(try simp(maxSteps:=2000000) only[Ty.w,simprocAttr]);rfl) (fun hb=>?_) (fun hb=>?_)<;>(try simp only[hb0,decide_eq_true_eq,decide_eq_false_iff_not,simprocAttr]at hb)<;>(try(exfalso;omega)))|(with_reducible refine ite_in (fun hb=>?_) (fun hb=>?_)<;>(try simp only[Decidable.not_not]at hb)<;>(try simp only[hb,if_true,if_false,not_false_eq_true,not_true_eq_false, ↓reduceIte])<;>(try simp only[hb0,decide_eq_true_eq,decide_eq_false_iff_not,simprocAttr]at hb)<;>(try(exfalso;omega)))|((first|refine hK _ _ ?_|(clear hK;refine hK _ _ ?_)|(clear hK;clear hK;refine hK _ _ ?_)|(clear hK;clear hK;clear hK;refine hK _ _ ?_));clear hK;try simp only[pst0,simprocAttr])|(rw[if_pos];rotate_left 1;omega;simp(maxSteps:=2000000) only[Ty.w,simprocAttr]))
 refine a_loop (fun m S h'=>h'=h∧S 0=sPV s∧S 7= .sc (.int .i64 s.size)∧ ∃ k:Nat,S 8= .sc (.int .i64 k)∧k≤s.size∧m=s.size-k∧ ∀ (i:Nat)(c:UInt8),i<k→s.data.toList[i]? =some c→okAt i c=true) s.size ?_ ?_
 ·simp only[Ty.w,simprocAttr];exact⟨0,rfl,by omega,rfl,by omega⟩
 ·rintro m S h' ⟨rfl,g0,g7,k,g8,hk,rfl,hall⟩;by_cases hlt:k<s.size
  ·have hd:decide ((k:Int)<(s.size:Int))=true:=(by simp;omega);have w7:IntKind.i64.wrap ((k:Int)+1)=k+1:=(by rw[wrap64 (by omega) (by omega)]);obtain⟨c,hx⟩: ∃ c,s.data.toList[k]? =some c:=⟨_,List.getElem?_eq_getElem (by omega)⟩;have hr:s[k]? =some c:=(by rw[ba_get];exact hx);have bad:okAt k c=false→nameB s=false:=fun e=>(by simp[nameB,bytesOk_false hx e]);have good:okAt k c=true→ ∃ m',m'<s.size-k∧ ∃ k':Nat,(k:Int)+1=k'∧k'≤s.size∧m'=s.size-k'∧ ∀ (i:Nat)(c:UInt8),i<k'→s.data.toList[i]? =some c→okAt i c=true:=fun e=>by
    refine⟨s.size-(k+1),by omega,k+1,by simp,by omega,rfl,fun i c2 hi hw=>?_⟩;by_cases hik:i=k
    ·subst hik;rw[hx]at hw;simp at hw;rw[← hw];exact e
    ·exact hall i c2 (by omega) hw
   clear hall;have fin1: ∀ {e:Bool},okAt k c=false→e=false→PV.sc (.bool e)= .sc (.bool (nameB s)):=fun h1 h2=>(by rw[h2,bad h1]);rcases byte_cls c with⟨l1,c1,c2⟩|⟨l1,c1⟩|⟨l1,m1,c1,c2,c3,c4,c5,c6⟩
   ·(repeat' (first|refine a_seq fun K hK=>?_|(refine a_block ?_)|((first|refine a_regionS ?_|refine a_region (fun K hK=>?_)|refine a_ret ?_);simp(maxSteps:=2000000) only[Ty.w,simprocAttr,g0,g7,g8,hd,hr,w7,c1,c2])|((first|refine a_skip ?_|refine a_exit ?_);try simp only[pst0,simprocAttr])|(refine a_cond _ (by(try simp(maxSteps:=2000000) only[Ty.w,simprocAttr,g0,g7,g8,hd,hr,w7,c1,c2]);rfl) (fun hb=>?_) (fun hb=>?_)<;>(try simp only[hb0,decide_eq_true_eq,decide_eq_false_iff_not,simprocAttr]at hb)<;>(try(exfalso;omega)))|(with_reducible refine ite_in (fun hb=>?_) (fun hb=>?_)<;>(try simp only[Decidable.not_not]at hb)<;>(try simp only[hb,if_true,if_false,not_false_eq_true,not_true_eq_false, ↓reduceIte])<;>(try simp only[hb0,decide_eq_true_eq,decide_eq_false_iff_not,simprocAttr]at hb)<;>(try(exfalso;omega)))|((first|refine hK _ _ ?_|(clear hK;refine hK _ _ ?_)|(clear hK;clear hK;refine hK _ _ ?_)|(clear hK;clear hK;clear hK;refine hK _ _ ?_));clear hK;try simp only[pst0,simprocAttr])|(rw[if_pos];rotate_left 1;omega;simp(maxSteps:=2000000) only[Ty.w,simprocAttr,g0,g7,g8,hd,hr,w7,c1,c2])));have:=good (by simp[okAt,l1]);simpa using this
   ·cases k0:((k:Int)==0)with
    |true=>
     have hk0:k=0:=(by simpa using k0);have hbad:=bad (by simp[okAt,l1,hk0]);(repeat'(first|refine a_seq fun K hK=>?_|(refine a_block ?_)|((first|refine a_regionS ?_|refine a_region (fun K hK=>?_)|refine a_ret ?_);simp(maxSteps:=2000000) only[Ty.w,simprocAttr,g0,g7,g8,hd,hr,w7,c1,k0])|((first|refine a_skip ?_|refine a_exit ?_);try simp only[pst0,simprocAttr])|(refine a_cond _ (by(try simp(maxSteps:=2000000) only[Ty.w,simprocAttr,g0,g7,g8,hd,hr,w7,c1,k0]);rfl) (fun hb=>?_) (fun hb=>?_)<;>(try simp only[hb0,decide_eq_true_eq,decide_eq_false_iff_not,simprocAttr]at hb)<;>(try(exfalso;omega)))|(with_reducible refine ite_in (fun hb=>?_) (fun hb=>?_)<;>(try simp only[Decidable.not_not]at hb)<;>(try simp only[hb,if_true,if_false,not_false_eq_true,not_true_eq_false, ↓reduceIte])<;>(try simp only[hb0,decide_eq_true_eq,decide_eq_false_iff_not,simprocAttr]at hb)<;>(try(exfalso;omega)))|((first|refine hK _ _ ?_|(clear hK;refine hK _ _ ?_)|(clear hK;clear hK;refine hK _ _ ?_)|(clear hK;clear hK;clear hK;refine hK _ _ ?_));clear hK;try simp only[pst0,simprocAttr])|(rw[if_pos];rotate_left 1;omega;simp(maxSteps:=2000000) only[Ty.w,simprocAttr,g0,g7,g8,hd,hr,w7,c1,k0])));rw[hbad]
    |false=>
     have hk0:k≠0:=(by simpa using k0);rcases byte_cls2 c1 with⟨m1,c3,c5⟩|⟨m1,c3,c5,c6⟩|⟨m1,c3,c4⟩|⟨m1,c3,c4,c5,c6⟩|⟨m1,c3,c4,c5,c6⟩
     ·(repeat' (first|refine a_seq fun K hK=>?_|(refine a_block ?_)|((first|refine a_regionS ?_|refine a_region (fun K hK=>?_)|refine a_ret ?_);simp(maxSteps:=2000000) only[Ty.w,simprocAttr,g0,g7,g8,hd,hr,w7,c1,k0,c3,c5])|((first|refine a_skip ?_|refine a_exit ?_);try simp only[pst0,simprocAttr])|(refine a_cond _ (by(try simp(maxSteps:=2000000) only[Ty.w,simprocAttr,g0,g7,g8,hd,hr,w7,c1,k0,c3,c5]);rfl) (fun hb=>?_) (fun hb=>?_)<;>(try simp only[hb0,decide_eq_true_eq,decide_eq_false_iff_not,simprocAttr]at hb)<;>(try(exfalso;omega)))|(with_reducible refine ite_in (fun hb=>?_) (fun hb=>?_)<;>(try simp only[Decidable.not_not]at hb)<;>(try simp only[hb,if_true,if_false,not_false_eq_true,not_true_eq_false, ↓reduceIte])<;>(try simp only[hb0,decide_eq_true_eq,decide_eq_false_iff_not,simprocAttr]at hb)<;>(try(exfalso;omega)))|((first|refine hK _ _ ?_|(clear hK;refine hK _ _ ?_)|(clear hK;clear hK;refine hK _ _ ?_)|(clear hK;clear hK;clear hK;refine hK _ _ ?_));clear hK;try simp only[pst0,simprocAttr])|(rw[if_pos];rotate_left 1;omega;simp(maxSteps:=2000000) only[Ty.w,simprocAttr,g0,g7,g8,hd,hr,w7,c1,k0,c3,c5])));have:=good (by simp[okAt,m1,hk0]);simpa using this
     ·have hbad:=bad (by simp[okAt,l1,m1]);(repeat'(first|refine a_seq fun K hK=>?_|(refine a_block ?_)|((first|refine a_regionS ?_|refine a_region (fun K hK=>?_)|refine a_ret ?_);simp(maxSteps:=2000000) only[Ty.w,simprocAttr,g0,g7,g8,hd,hr,w7,c1,k0,c3,c5,c6])|((first|refine a_skip ?_|refine a_exit ?_);try simp only[pst0,simprocAttr])|(refine a_cond _ (by(try simp(maxSteps:=2000000) only[Ty.w,simprocAttr,g0,g7,g8,hd,hr,w7,c1,k0,c3,c5,c6]);rfl) (fun hb=>?_) (fun hb=>?_)<;>(try simp only[hb0,decide_eq_true_eq,decide_eq_false_iff_not,simprocAttr]at hb)<;>(try(exfalso;omega)))|(with_reducible refine ite_in (fun hb=>?_) (fun hb=>?_)<;>(try simp only[Decidable.not_not]at hb)<;>(try simp only[hb,if_true,if_false,not_false_eq_true,not_true_eq_false, ↓reduceIte])<;>(try simp only[hb0,decide_eq_true_eq,decide_eq_false_iff_not,simprocAttr]at hb)<;>(try(exfalso;omega)))|((first|refine hK _ _ ?_|(clear hK;refine hK _ _ ?_)|(clear hK;clear hK;refine hK _ _ ?_)|(clear hK;clear hK;clear hK;refine hK _ _ ?_));clear hK;try simp only[pst0,simprocAttr])|(rw[if_pos];rotate_left 1;omega;simp(maxSteps:=2000000) only[Ty.w,simprocAttr,g0,g7,g8,hd,hr,w7,c1,k0,c3,c5,c6])));rw[hbad]
     ·(repeat' (first|refine a_seq fun K hK=>?_|(refine a_block ?_)|((first|refine a_regionS ?_|refine a_region (fun K hK=>?_)|refine a_ret ?_);simp(maxSteps:=2000000) only[Ty.w,simprocAttr,g0,g7,g8,hd,hr,w7,c1,k0,c3,c4])|((first|refine a_skip ?_|refine a_exit ?_);try simp only[pst0,simprocAttr])|(refine a_cond _ (by(try simp(maxSteps:=2000000) only[Ty.w,simprocAttr,g0,g7,g8,hd,hr,w7,c1,k0,c3,c4]);rfl) (fun hb=>?_) (fun hb=>?_)<;>(try simp only[hb0,decide_eq_true_eq,decide_eq_false_iff_not,simprocAttr]at hb)<;>(try(exfalso;omega)))|(with_reducible refine ite_in (fun hb=>?_) (fun hb=>?_)<;>(try simp only[Decidable.not_not]at hb)<;>(try simp only[hb,if_true,if_false,not_false_eq_true,not_true_eq_false, ↓reduceIte])<;>(try simp only[hb0,decide_eq_true_eq,decide_eq_false_iff_not,simprocAttr]at hb)<;>(try(exfalso;omega)))|((first|refine hK _ _ ?_|(clear hK;refine hK _ _ ?_)|(clear hK;clear hK;refine hK _ _ ?_)|(clear hK;clear hK;clear hK;refine hK _ _ ?_));clear hK;try simp only[pst0,simprocAttr])|(rw[if_pos];rotate_left 1;omega;simp(maxSteps:=2000000) only[Ty.w,simprocAttr,g0,g7,g8,hd,hr,w7,c1,k0,c3,c4])));have:=good (by simp[okAt,m1,hk0]);simpa using this
     ·(repeat' (first|refine a_seq fun K hK=>?_|(refine a_block ?_)|((first|refine a_regionS ?_|refine a_region (fun K hK=>?_)|refine a_ret ?_);simp(maxSteps:=2000000) only[Ty.w,simprocAttr,g0,g7,g8,hd,hr,w7,c1,k0,c3,c4,c5,c6])|((first|refine a_skip ?_|refine a_exit ?_);try simp only[pst0,simprocAttr])|(refine a_cond _ (by(try simp(maxSteps:=2000000) only[Ty.w,simprocAttr,g0,g7,g8,hd,hr,w7,c1,k0,c3,c4,c5,c6]);rfl) (fun hb=>?_) (fun hb=>?_)<;>(try simp only[hb0,decide_eq_true_eq,decide_eq_false_iff_not,simprocAttr]at hb)<;>(try(exfalso;omega)))|(with_reducible refine ite_in (fun hb=>?_) (fun hb=>?_)<;>(try simp only[Decidable.not_not]at hb)<;>(try simp only[hb,if_true,if_false,not_false_eq_true,not_true_eq_false, ↓reduceIte])<;>(try simp only[hb0,decide_eq_true_eq,decide_eq_false_iff_not,simprocAttr]at hb)<;>(try(exfalso;omega)))|((first|refine hK _ _ ?_|(clear hK;refine hK _ _ ?_)|(clear hK;clear hK;refine hK _ _ ?_)|(clear hK;clear hK;clear hK;refine hK _ _ ?_));clear hK;try simp only[pst0,simprocAttr])|(rw[if_pos];rotate_left 1;omega;simp(maxSteps:=2000000) only[Ty.w,simprocAttr,g0,g7,g8,hd,hr,w7,c1,k0,c3,c4,c5,c6])));have:=good (by simp[okAt,m1,hk0]);simpa using this
     ·have hbad:=bad (by simp[okAt,l1,m1]);(repeat'(first|refine a_seq fun K hK=>?_|(refine a_block ?_)|((first|refine a_regionS ?_|refine a_region (fun K hK=>?_)|refine a_ret ?_);simp(maxSteps:=2000000) only[Ty.w,simprocAttr,g0,g7,g8,hd,hr,w7,c1,k0,c3,c4,c5,c6])|((first|refine a_skip ?_|refine a_exit ?_);try simp only[pst0,simprocAttr])|(refine a_cond _ (by(try simp(maxSteps:=2000000) only[Ty.w,simprocAttr,g0,g7,g8,hd,hr,w7,c1,k0,c3,c4,c5,c6]);rfl) (fun hb=>?_) (fun hb=>?_)<;>(try simp only[hb0,decide_eq_true_eq,decide_eq_false_iff_not,simprocAttr]at hb)<;>(try(exfalso;omega)))|(with_reducible refine ite_in (fun hb=>?_) (fun hb=>?_)<;>(try simp only[Decidable.not_not]at hb)<;>(try simp only[hb,if_true,if_false,not_false_eq_true,not_true_eq_false, ↓reduceIte])<;>(try simp only[hb0,decide_eq_true_eq,decide_eq_false_iff_not,simprocAttr]at hb)<;>(try(exfalso;omega)))|((first|refine hK _ _ ?_|(clear hK;refine hK _ _ ?_)|(clear hK;clear hK;refine hK _ _ ?_)|(clear hK;clear hK;clear hK;refine hK _ _ ?_));clear hK;try simp only[pst0,simprocAttr])|(rw[if_pos];rotate_left 1;omega;simp(maxSteps:=2000000) only[Ty.w,simprocAttr,g0,g7,g8,hd,hr,w7,c1,k0,c3,c4,c5,c6])));rw[hbad]
   ·have hbad:=bad (by simp[okAt,l1,m1]);cases k0:((k:Int)==0)with
    |true=>
     (repeat'(first|refine a_seq fun K hK=>?_|(refine a_block ?_)|((first|refine a_regionS ?_|refine a_region (fun K hK=>?_)|refine a_ret ?_);simp(maxSteps:=2000000) only[Ty.w,simprocAttr,g0,g7,g8,hd,hr,w7,c1,c2,k0])|((first|refine a_skip ?_|refine a_exit ?_);try simp only[pst0,simprocAttr])|(refine a_cond _ (by(try simp(maxSteps:=2000000) only[Ty.w,simprocAttr,g0,g7,g8,hd,hr,w7,c1,c2,k0]);rfl) (fun hb=>?_) (fun hb=>?_)<;>(try simp only[hb0,decide_eq_true_eq,decide_eq_false_iff_not,simprocAttr]at hb)<;>(try(exfalso;omega)))|(with_reducible refine ite_in (fun hb=>?_) (fun hb=>?_)<;>(try simp only[Decidable.not_not]at hb)<;>(try simp only[hb,if_true,if_false,not_false_eq_true,not_true_eq_false, ↓reduceIte])<;>(try simp only[hb0,decide_eq_true_eq,decide_eq_false_iff_not,simprocAttr]at hb)<;>(try(exfalso;omega)))|((first|refine hK _ _ ?_|(clear hK;refine hK _ _ ?_)|(clear hK;clear hK;refine hK _ _ ?_)|(clear hK;clear hK;clear hK;refine hK _ _ ?_));clear hK;try simp only[pst0,simprocAttr])|(rw[if_pos];rotate_left 1;omega;simp(maxSteps:=2000000) only[Ty.w,simprocAttr,g0,g7,g8,hd,hr,w7,c1,c2,k0])));rw[hbad]
    |false=>
     (repeat'(first|refine a_seq fun K hK=>?_|(refine a_block ?_)|((first|refine a_regionS ?_|refine a_region (fun K hK=>?_)|refine a_ret ?_);simp(maxSteps:=2000000) only[Ty.w,simprocAttr,g0,g7,g8,hd,hr,w7,c1,c2,k0,c3,c4,c5,c6])|((first|refine a_skip ?_|refine a_exit ?_);try simp only[pst0,simprocAttr])|(refine a_cond _ (by(try simp(maxSteps:=2000000) only[Ty.w,simprocAttr,g0,g7,g8,hd,hr,w7,c1,c2,k0,c3,c4,c5,c6]);rfl) (fun hb=>?_) (fun hb=>?_)<;>(try simp only[hb0,decide_eq_true_eq,decide_eq_false_iff_not,simprocAttr]at hb)<;>(try(exfalso;omega)))|(with_reducible refine ite_in (fun hb=>?_) (fun hb=>?_)<;>(try simp only[Decidable.not_not]at hb)<;>(try simp only[hb,if_true,if_false,not_false_eq_true,not_true_eq_false, ↓reduceIte])<;>(try simp only[hb0,decide_eq_true_eq,decide_eq_false_iff_not,simprocAttr]at hb)<;>(try(exfalso;omega)))|((first|refine hK _ _ ?_|(clear hK;refine hK _ _ ?_)|(clear hK;clear hK;refine hK _ _ ?_)|(clear hK;clear hK;clear hK;refine hK _ _ ?_));clear hK;try simp only[pst0,simprocAttr])|(rw[if_pos];rotate_left 1;omega;simp(maxSteps:=2000000) only[Ty.w,simprocAttr,g0,g7,g8,hd,hr,w7,c1,c2,k0,c3,c4,c5,c6])));rw[hbad]
  ·have hd:decide ((k:Int)<(s.size:Int))=false:=(by simp;omega);have hok:bytesOkB s.data.toList=true:=bytesOk_true fun j c hj=>hall j c (by have:=(List.getElem?_eq_some_iff.1 hj).1;omega) hj;clear hall;have hn:nameB s=(!(s.data.toList==(#[]:Array UInt8).toList)&&decide ((s.size:Int)≤32)&&!(words.any fun w=>bEq s w)):=by
    have e1:decide (0<s.size)=!(s.data.toList==(#[]:Array UInt8).toList):=by
     rw[← hsl];cases s.data.toList<;>simp
    have e2:decide ((s.size:Int)≤32)=decide (s.size≤32):=by
     exact decide_eq_decide.2 (by omega)
    simp only[nameB,hok,Bool.true_and,e1,e2]
   cases b1:(s.data.toList==(#[]:Array UInt8).toList)with
   |true=>
    (repeat'(first|refine a_seq fun K hK=>?_|(refine a_block ?_)|((first|refine a_regionS ?_|refine a_region (fun K hK=>?_)|refine a_ret ?_);simp(maxSteps:=2000000) only[Ty.w,simprocAttr,g0,g7,g8,hd,b1])|((first|refine a_skip ?_|refine a_exit ?_);try simp only[pst0,simprocAttr])|(refine a_cond _ (by(try simp(maxSteps:=2000000) only[Ty.w,simprocAttr,g0,g7,g8,hd,b1]);rfl) (fun hb=>?_) (fun hb=>?_)<;>(try simp only[hb0,decide_eq_true_eq,decide_eq_false_iff_not,simprocAttr]at hb)<;>(try(exfalso;omega)))|(with_reducible refine ite_in (fun hb=>?_) (fun hb=>?_)<;>(try simp only[Decidable.not_not]at hb)<;>(try simp only[hb,if_true,if_false,not_false_eq_true,not_true_eq_false, ↓reduceIte])<;>(try simp only[hb0,decide_eq_true_eq,decide_eq_false_iff_not,simprocAttr]at hb)<;>(try(exfalso;omega)))|((first|refine hK _ _ ?_|(clear hK;refine hK _ _ ?_)|(clear hK;clear hK;refine hK _ _ ?_)|(clear hK;clear hK;clear hK;refine hK _ _ ?_));clear hK;try simp only[pst0,simprocAttr])|(rw[if_pos];rotate_left 1;omega;simp(maxSteps:=2000000) only[Ty.w,simprocAttr,g0,g7,g8,hd,b1])));rw[hn,b1];try rfl
   |false=>
    cases b2:decide ((s.size:Int)≤32)with
    |false=>
     (repeat'(first|refine a_seq fun K hK=>?_|(refine a_block ?_)|((first|refine a_regionS ?_|refine a_region (fun K hK=>?_)|refine a_ret ?_);simp(maxSteps:=2000000) only[Ty.w,simprocAttr,g0,g7,g8,hd,b1,b2])|((first|refine a_skip ?_|refine a_exit ?_);try simp only[pst0,simprocAttr])|(refine a_cond _ (by(try simp(maxSteps:=2000000) only[Ty.w,simprocAttr,g0,g7,g8,hd,b1,b2]);rfl) (fun hb=>?_) (fun hb=>?_)<;>(try simp only[hb0,decide_eq_true_eq,decide_eq_false_iff_not,simprocAttr]at hb)<;>(try(exfalso;omega)))|(with_reducible refine ite_in (fun hb=>?_) (fun hb=>?_)<;>(try simp only[Decidable.not_not]at hb)<;>(try simp only[hb,if_true,if_false,not_false_eq_true,not_true_eq_false, ↓reduceIte])<;>(try simp only[hb0,decide_eq_true_eq,decide_eq_false_iff_not,simprocAttr]at hb)<;>(try(exfalso;omega)))|((first|refine hK _ _ ?_|(clear hK;refine hK _ _ ?_)|(clear hK;clear hK;refine hK _ _ ?_)|(clear hK;clear hK;clear hK;refine hK _ _ ?_));clear hK;try simp only[pst0,simprocAttr])|(rw[if_pos];rotate_left 1;omega;simp(maxSteps:=2000000) only[Ty.w,simprocAttr,g0,g7,g8,hd,b1,b2])));rw[hn,b1,b2];try rfl
    |true=>
     (repeat'(first|refine a_seq fun K hK=>?_|(refine a_block ?_)|((first|refine a_regionS ?_|refine a_region (fun K hK=>?_)|refine a_ret ?_);simp(maxSteps:=2000000) only[Ty.w,simprocAttr,g0,g7,g8,hd,b1,b2])|((first|refine a_skip ?_|refine a_exit ?_);try simp only[pst0,simprocAttr])|(refine a_cond _ (by(try simp(maxSteps:=2000000) only[Ty.w,simprocAttr,g0,g7,g8,hd,b1,b2]);rfl) (fun hb=>?_) (fun hb=>?_)<;>(try simp only[hb0,decide_eq_true_eq,decide_eq_false_iff_not,simprocAttr]at hb)<;>(try(exfalso;omega)))|(with_reducible refine ite_in (fun hb=>?_) (fun hb=>?_)<;>(try simp only[Decidable.not_not]at hb)<;>(try simp only[hb,if_true,if_false,not_false_eq_true,not_true_eq_false, ↓reduceIte])<;>(try simp only[hb0,decide_eq_true_eq,decide_eq_false_iff_not,simprocAttr]at hb)<;>(try(exfalso;omega)))|((first|refine hK _ _ ?_|(clear hK;refine hK _ _ ?_)|(clear hK;clear hK;refine hK _ _ ?_)|(clear hK;clear hK;clear hK;refine hK _ _ ?_));clear hK;try simp only[pst0,simprocAttr])|(rw[if_pos];rotate_left 1;omega;simp(maxSteps:=2000000) only[Ty.w,simprocAttr,g0,g7,g8,hd,b1,b2])));have hwl:words.length≤9223372036854775807:=(by rw[words_len];omega);refine owp_useQ (reserved_c) (by(try simp only[Ty.w,simprocAttr,]);try rfl) ?_;simp(maxSteps:=2000000) only[Ty.w,simprocAttr,];refine owp_useQ (contains_c (l:=words) (s:=s) hwl) (by(try simp only[Ty.w,simprocAttr,b1,b2,g0]);try rfl) ?_;simp(maxSteps:=2000000) only[Ty.w,simprocAttr,b1,b2,g0];(repeat'(first|refine a_seq fun K hK=>?_|(refine a_block ?_)|((first|refine a_regionS ?_|refine a_region (fun K hK=>?_)|refine a_ret ?_);simp(maxSteps:=2000000) only[Ty.w,simprocAttr,g0,b1,b2])|((first|refine a_skip ?_|refine a_exit ?_);try simp only[pst0,simprocAttr])|(refine a_cond _ (by(try simp(maxSteps:=2000000) only[Ty.w,simprocAttr,g0,b1,b2]);rfl) (fun hb=>?_) (fun hb=>?_)<;>(try simp only[hb0,decide_eq_true_eq,decide_eq_false_iff_not,simprocAttr]at hb)<;>(try(exfalso;omega)))|(with_reducible refine ite_in (fun hb=>?_) (fun hb=>?_)<;>(try simp only[Decidable.not_not]at hb)<;>(try simp only[hb,if_true,if_false,not_false_eq_true,not_true_eq_false, ↓reduceIte])<;>(try simp only[hb0,decide_eq_true_eq,decide_eq_false_iff_not,simprocAttr]at hb)<;>(try(exfalso;omega)))|((first|refine hK _ _ ?_|(clear hK;refine hK _ _ ?_)|(clear hK;clear hK;refine hK _ _ ?_)|(clear hK;clear hK;clear hK;refine hK _ _ ?_));clear hK;try simp only[pst0,simprocAttr])|(rw[if_pos];rotate_left 1;omega;simp(maxSteps:=2000000) only[Ty.w,simprocAttr,g0,b1,b2])));rw[hn,b1,b2];try rfl
theorem fvariable_c{h:Heap}{s:ByteArray}(hs:s.size≤9223372036854775807):PCall Tryz.prog 62 [sPV s] h fun r h'=>r= .sc (.bool (varB s))∧h'=h:=by
 cases b1:decide ((s.size:Int)>1)with
 |false=>
  have:varB s=false:=by simp at b1;simp[varB];omega
  refine pcall_body (ow:=fun _=>false) (wf:=fun _=>false) Ty.mixed Tryz.func62 rfl Ty.hb_62 (by rw[Tryz.ntmps62];simp) ?_;rw[Tryz.ntmps62,Tryz.results62];repeat'(first|refine a_seq fun K hK=>?_|(refine a_block ?_)|((first|refine a_regionS ?_|refine a_region (fun K hK=>?_)|refine a_ret ?_);simp(maxSteps:=2000000) only[Ty.w,simprocAttr,b1])|((first|refine a_skip ?_|refine a_exit ?_);try simp only[pst0,simprocAttr])|(refine a_cond _ (by(try simp(maxSteps:=2000000) only[Ty.w,simprocAttr,b1]);rfl) (fun hb=>?_) (fun hb=>?_)<;>(try simp only[hb0,decide_eq_true_eq,decide_eq_false_iff_not,simprocAttr]at hb)<;>(try(exfalso;omega)))|(with_reducible refine ite_in (fun hb=>?_) (fun hb=>?_)<;>(try simp only[Decidable.not_not]at hb)<;>(try simp only[hb,if_true,if_false,not_false_eq_true,not_true_eq_false, ↓reduceIte])<;>(try simp only[hb0,decide_eq_true_eq,decide_eq_false_iff_not,simprocAttr]at hb)<;>(try(exfalso;omega)))|((first|refine hK _ _ ?_|(clear hK;refine hK _ _ ?_)|(clear hK;clear hK;refine hK _ _ ?_)|(clear hK;clear hK;clear hK;refine hK _ _ ?_));clear hK;try simp only[pst0,simprocAttr])|(rw[if_pos];rotate_left 1;omega;simp(maxSteps:=2000000) only[Ty.w,simprocAttr,b1]))
  rw[this]
 |true=>
  cases b2:decide ((s.size:Int)≤32)with
  |false=>
   have:varB s=false:=(by simp at b2;simp[varB];omega);refine pcall_body (ow:=fun _=>false) (wf:=fun _=>false) Ty.mixed Tryz.func62 rfl Ty.hb_62 (by rw[Tryz.ntmps62];simp) ?_;rw[Tryz.ntmps62,Tryz.results62];(repeat'(first|refine a_seq fun K hK=>?_|(refine a_block ?_)|((first|refine a_regionS ?_|refine a_region (fun K hK=>?_)|refine a_ret ?_);simp(maxSteps:=2000000) only[Ty.w,simprocAttr,b1,b2])|((first|refine a_skip ?_|refine a_exit ?_);try simp only[pst0,simprocAttr])|(refine a_cond _ (by(try simp(maxSteps:=2000000) only[Ty.w,simprocAttr,b1,b2]);rfl) (fun hb=>?_) (fun hb=>?_)<;>(try simp only[hb0,decide_eq_true_eq,decide_eq_false_iff_not,simprocAttr]at hb)<;>(try(exfalso;omega)))|(with_reducible refine ite_in (fun hb=>?_) (fun hb=>?_)<;>(try simp only[Decidable.not_not]at hb)<;>(try simp only[hb,if_true,if_false,not_false_eq_true,not_true_eq_false, ↓reduceIte])<;>(try simp only[hb0,decide_eq_true_eq,decide_eq_false_iff_not,simprocAttr]at hb)<;>(try(exfalso;omega)))|((first|refine hK _ _ ?_|(clear hK;refine hK _ _ ?_)|(clear hK;clear hK;refine hK _ _ ?_)|(clear hK;clear hK;clear hK;refine hK _ _ ?_));clear hK;try simp only[pst0,simprocAttr])|(rw[if_pos];rotate_left 1;omega;simp(maxSteps:=2000000) only[Ty.w,simprocAttr,b1,b2])));rw[this]
  |true=>
   simp at b1 b2;have hsl:s.data.toList.length=s.size:=(by rw[Array.length_toList];try rfl);obtain⟨c,hx⟩: ∃ c,s.data.toList[0]? =some c:=⟨_,List.getElem?_eq_getElem (by omega)⟩;have hr:s[0]? =some c:=(by rw[ba_get];exact hx);have d1:decide ((s.size:Int)>1)=true:=(by simp;omega);have d2:decide ((s.size:Int)≤32)=true:=(by simp;omega);have q1:(1:Int)≤(s.size:Int):=(by omega);have hv:varB s=(decide (c.toNat=63)&&nameB (s.extract 1 s.size)):=by
    have e1:decide (2≤s.size)=true:=(by simp;omega);have e2:decide (s.size≤32)=true:=(by simp;omega);simp only[varB,e1,e2,hx,Bool.true_and]
   cases b3:((c.toNat:Int)==63)with
   |false=>
    have:¬ c.toNat=63:=(by simp at b3;omega);refine pcall_body (ow:=fun _=>false) (wf:=fun _=>false) Ty.mixed Tryz.func62 rfl Ty.hb_62 (by rw[Tryz.ntmps62];simp) ?_;rw[Tryz.ntmps62,Tryz.results62];(repeat'(first|refine a_seq fun K hK=>?_|(refine a_block ?_)|((first|refine a_regionS ?_|refine a_region (fun K hK=>?_)|refine a_ret ?_);simp(maxSteps:=2000000) only[Ty.w,simprocAttr,d1,d2,hr,b3])|((first|refine a_skip ?_|refine a_exit ?_);try simp only[pst0,simprocAttr])|(refine a_cond _ (by(try simp(maxSteps:=2000000) only[Ty.w,simprocAttr,d1,d2,hr,b3]);rfl) (fun hb=>?_) (fun hb=>?_)<;>(try simp only[hb0,decide_eq_true_eq,decide_eq_false_iff_not,simprocAttr]at hb)<;>(try(exfalso;omega)))|(with_reducible refine ite_in (fun hb=>?_) (fun hb=>?_)<;>(try simp only[Decidable.not_not]at hb)<;>(try simp only[hb,if_true,if_false,not_false_eq_true,not_true_eq_false, ↓reduceIte])<;>(try simp only[hb0,decide_eq_true_eq,decide_eq_false_iff_not,simprocAttr]at hb)<;>(try(exfalso;omega)))|((first|refine hK _ _ ?_|(clear hK;refine hK _ _ ?_)|(clear hK;clear hK;refine hK _ _ ?_)|(clear hK;clear hK;clear hK;refine hK _ _ ?_));clear hK;try simp only[pst0,simprocAttr])|(rw[if_pos];rotate_left 1;omega;simp(maxSteps:=2000000) only[Ty.w,simprocAttr,d1,d2,hr,b3])));rw[hv];simp[this]
   |true=>
    have:c.toNat=63:=(by simp at b3;omega);refine pcall_body (ow:=fun _=>false) (wf:=fun _=>false) Ty.mixed Tryz.func62 rfl Ty.hb_62 (by rw[Tryz.ntmps62];simp) ?_;rw[Tryz.ntmps62,Tryz.results62];have hsz:(s.extract 1 s.size).size≤9223372036854775807:=(by simp;omega);(repeat'(first|refine a_seq fun K hK=>?_|(refine a_block ?_)|((first|refine a_regionS ?_|refine a_region (fun K hK=>?_)|refine a_ret ?_);simp(maxSteps:=2000000) only[Ty.w,simprocAttr,d1,d2,hr,b3,q1,Option.getD_some,Option.getD_none,Int.le_refl])|((first|refine a_skip ?_|refine a_exit ?_);try simp only[pst0,simprocAttr])|(refine a_cond _ (by(try simp(maxSteps:=2000000) only[Ty.w,simprocAttr,d1,d2,hr,b3,q1,Option.getD_some,Option.getD_none,Int.le_refl]);rfl) (fun hb=>?_) (fun hb=>?_)<;>(try simp only[hb0,decide_eq_true_eq,decide_eq_false_iff_not,simprocAttr]at hb)<;>(try(exfalso;omega)))|(with_reducible refine ite_in (fun hb=>?_) (fun hb=>?_)<;>(try simp only[Decidable.not_not]at hb)<;>(try simp only[hb,if_true,if_false,not_false_eq_true,not_true_eq_false, ↓reduceIte])<;>(try simp only[hb0,decide_eq_true_eq,decide_eq_false_iff_not,simprocAttr]at hb)<;>(try(exfalso;omega)))|((first|refine hK _ _ ?_|(clear hK;refine hK _ _ ?_)|(clear hK;clear hK;refine hK _ _ ?_)|(clear hK;clear hK;clear hK;refine hK _ _ ?_));clear hK;try simp only[pst0,simprocAttr])|(rw[if_pos];rotate_left 1;omega;simp(maxSteps:=2000000) only[Ty.w,simprocAttr,d1,d2,hr,b3,q1,Option.getD_some,Option.getD_none,Int.le_refl])));refine owp_useQ (fname_c (s:=s.extract 1 s.size) hsz) (by(try simp only[Ty.w,simprocAttr,d1,d2,hr,b3,q1,Option.getD_some,Option.getD_none,Int.le_refl]);try rfl) ?_;simp(maxSteps:=2000000) only[Ty.w,simprocAttr,d1,d2,hr,b3,q1,Option.getD_some,Option.getD_none,Int.le_refl];(repeat'(first|refine a_seq fun K hK=>?_|(refine a_block ?_)|((first|refine a_regionS ?_|refine a_region (fun K hK=>?_)|refine a_ret ?_);simp(maxSteps:=2000000) only[Ty.w,simprocAttr,d1,d2,b3])|((first|refine a_skip ?_|refine a_exit ?_);try simp only[pst0,simprocAttr])|(refine a_cond _ (by(try simp(maxSteps:=2000000) only[Ty.w,simprocAttr,d1,d2,b3]);rfl) (fun hb=>?_) (fun hb=>?_)<;>(try simp only[hb0,decide_eq_true_eq,decide_eq_false_iff_not,simprocAttr]at hb)<;>(try(exfalso;omega)))|(with_reducible refine ite_in (fun hb=>?_) (fun hb=>?_)<;>(try simp only[Decidable.not_not]at hb)<;>(try simp only[hb,if_true,if_false,not_false_eq_true,not_true_eq_false, ↓reduceIte])<;>(try simp only[hb0,decide_eq_true_eq,decide_eq_false_iff_not,simprocAttr]at hb)<;>(try(exfalso;omega)))|((first|refine hK _ _ ?_|(clear hK;refine hK _ _ ?_)|(clear hK;clear hK;refine hK _ _ ?_)|(clear hK;clear hK;clear hK;refine hK _ _ ?_));clear hK;try simp only[pst0,simprocAttr])|(rw[if_pos];rotate_left 1;omega;simp(maxSteps:=2000000) only[Ty.w,simprocAttr,d1,d2,b3])));rw[hv,this];try rfl
end Go.Proofs.YtjgkmmjnbcbmpaaGreat
namespace Go.AM
inductive Sx where
 |mk(kind value line col:Int)(text:ByteArray)(kids:List Sx)
mutual
def Sx.cells:Sx→List PV
 | .mk kind value line col text kids=>[.sc (.int .i64 kind),.sc (.int .i64 value),.sc (.int .i64 line),.sc (.int .i64 col),sPV text,.imm 6 (Sx.rows kids)]
def Sx.rows:List Sx→List (List PV)
 |[]=>[]
 |k::ks=>k.cells::Sx.rows ks
end
theorem Sx.rows_map: ∀ l:List Sx,Sx.rows l=l.map Sx.cells
 |[]=>rfl
 |k::ks=>by simp[Sx.rows,Sx.rows_map ks]
theorem Sx.cells_len(e:Sx):e.cells.length=6:=by cases e;rfl
theorem Sx.rows_len(l:List Sx):(Sx.rows l).length=l.length:=by simp[Sx.rows_map]
theorem Sx.rows_get{l:List Sx}{i:Nat}{k:Sx}(h:l[i]? =some k):(Sx.rows l)[i]? =some k.cells:=by simp[Sx.rows_map,h]
theorem Sx.ind{C:Sx→Prop}(hC: ∀ kind value line col text kids,(∀ k∈kids,C k)→C (.mk kind value line col text kids)): ∀ e,C e
 | .mk kind value line col text kids=>hC kind value line col text kids fun k hk=>Sx.ind hC k
termination_by e=>SizeOf.sizeOf e
decreasing_by
 have:=List.sizeOf_lt_of_mem hk;simp only[Sx.mk.sizeOf_spec];omega
mutual
def Sx.ok:Sx→Prop
 | .mk kind value line col text kids=>(-9223372036854775808≤kind∧kind≤9223372036854775807)∧(-9223372036854775808≤value∧value≤9223372036854775807)∧text.size≤bigN∧kids.length≤bigN∧Sx.oks kids
def Sx.oks:List Sx→Prop
 |[]=>True
 |k::ks=>k.ok∧Sx.oks ks
end
theorem Sx.oks_iff:{l:List Sx}→(Sx.oks l↔ ∀ k∈l,k.ok)
 |[]=>by simp[Sx.oks]
 |k::ks=>by simp[Sx.oks,Sx.oks_iff (l:=ks)]
end Go.AM
namespace Go.Proofs.YtjgkmmjnbcbmpaaGreat
open Go.AM
def digB(c:UInt8):Bool:=decide (48≤c.toNat)&&decide (c.toNat≤57)
def signs:List UInt8:=[45,95,63,58,60,62,61,43,42]
def wB(c:UInt8):Bool:=letB c||digB c||signs.contains c
def upB(c:UInt8):Bool:=decide (65≤c.toNat)&&decide (c.toNat≤90)
def lowB(c:UInt8):Option UInt8:=if upB c then some (c+32)else if wB c then some c else none
def lowL:List UInt8→Option (List UInt8)
 |[]=>some []
 |c::l=>match lowB c with
  |some d=>(lowL l).map (d::·)
  |none=>none
def lowS(s:ByteArray):ByteArray × Bool:=if 0<s.size∧s.size≤32 then(match lowL s.data.toList with|some l=>(⟨l.toArray⟩,true)|none=>(⟨#[]⟩,false))else(⟨#[]⟩,false)
def trimB(s:ByteArray):ByteArray:=match s.data.toList with
 |45::l=>⟨l.toArray⟩
 |_=>s
def numB(s:ByteArray):Bool:=(trimB s).data.toList.all digB&&decide (0<(trimB s).size)
def wordB(s:ByteArray):Bool:=(lowS s).2&&bEq (lowS s).1 s&&!(numB (lowS s).1)
mutual
def svalid:Sx→Nat→Nat→Bool × Nat
 | .mk kind value _ _ text kids,d,n=>
  if n+1>4096 then(false,n+1)
  else if kind=1 then(wordB text&&decide (value=0)&&kids.isEmpty,n+1)
  else if kind=2 then(bEq text ⟨#[]⟩&&kids.isEmpty&&decide (-1099511627776≤value)&&decide (value≤1099511627776),n+1)
  else if kind=3 then(if bEq text ⟨#[]⟩=true∧value=0∧d≠32 then svalids kids (d+1) (n+1)else(false,n+1))
  else(false,n+1)
def svalids:List Sx→Nat→Nat→Bool × Nat
 |[],_,n=>(true,n)
 |k::ks,d,n=>match svalid k d n with
  |(true,n')=>svalids ks d n'
  |(false,n')=>(false,n')
end
end Go.Proofs.YtjgkmmjnbcbmpaaGreat
namespace Go.Proofs.YtjgkmmjnbcbmpaaGreat
open Go.AM
set_option maxHeartbeats 2000000
set_option maxRecDepth 100000
def ext(f:FuncId)(args:List PV):Option PV:=if f=153 then(match args with|[.sc (.string s),.sc (.int .u8 c)]=>some (.sc (.int .i64 (firstIdx s c.toNat.toUInt8)))|_=>none)else none
theorem ixb_ok:(Tryz.f153.name== "runtime.NumGoroutine")=false∧Tryz.f153.body.isNone=true∧Extern.findNext Tryz.f153=none∧Extern.find Tryz.f153=some Extern.BytealgIndexByte.indexByte:=
 ⟨by kernel_rfl,by kernel_rfl,by kernel_rfl,by kernel_rfl⟩
end Go.Proofs.YtjgkmmjnbcbmpaaGreat
namespace Go.Proofs.YtjgkmmjnbcbmpaaGreat
open Go.AM
set_option maxHeartbeats 2000000
set_option maxRecDepth 20000
theorem PCall.quiet2{P:Program}{f:FuncId}{args:List PV}{h:Heap}{v u:Value}(hb:hasBody P f=true)(hc:PCall P f args h fun r h'=>r= .tup [.sc v,.sc u]∧Grow h h'):PCall P f args h fun r h'=>r= .tup [.sc v,.sc u]∧h'=h:=by
 refine pcall_wf hb fun hw=>PCall.drop (hc.mono ?_);rintro r h' ⟨rfl,g⟩;refine⟨.tup [.sc v,.sc u],h,⟨rfl,rfl⟩,by simp only[FrzTo,FrzL];exact⟨_,rfl,rfl,rfl,trivial⟩,Nat.le_refl _,fun id o ho=>?_⟩;have hid:=hw id (by rw[ho];try rfl);exact⟨by rw[g.old id hid];exact ho,hid,.inl ho⟩
theorem digit_c{h:Heap}{c:UInt8}:PCall Tryz.prog 126 [.sc (.int .u8 c.toNat)] h fun r h'=>r= .sc (.bool (digB c))∧h'=h:=by
 cases b1:decide ((c.toNat:Int)≥48)with
 |false=>
  have:digB c=false:=by simp at b1;simp[digB];omega
  refine pcall_body (ow:=fun _=>false) (wf:=fun _=>false) Ty.mixed Tryz.func126 rfl Ty.hb_126 (by rw[Tryz.ntmps126];simp) ?_;rw[Tryz.ntmps126,Tryz.results126];repeat'(first|refine a_seq fun K hK=>?_|(refine a_block ?_)|((first|refine a_regionS ?_|refine a_region (fun K hK=>?_)|refine a_ret ?_);simp(maxSteps:=2000000) only[Ty.w,simprocAttr,b1])|((first|refine a_skip ?_|refine a_exit ?_);try simp only[pst0,simprocAttr])|(refine a_cond _ (by(try simp(maxSteps:=2000000) only[Ty.w,simprocAttr,b1]);rfl) (fun hb=>?_) (fun hb=>?_)<;>(try simp only[hb0,decide_eq_true_eq,decide_eq_false_iff_not,simprocAttr]at hb)<;>(try(exfalso;omega)))|(with_reducible refine ite_in (fun hb=>?_) (fun hb=>?_)<;>(try simp only[Decidable.not_not]at hb)<;>(try simp only[hb,if_true,if_false,not_false_eq_true,not_true_eq_false, ↓reduceIte])<;>(try simp only[hb0,decide_eq_true_eq,decide_eq_false_iff_not,simprocAttr]at hb)<;>(try(exfalso;omega)))|((first|refine hK _ _ ?_|(clear hK;refine hK _ _ ?_)|(clear hK;clear hK;refine hK _ _ ?_)|(clear hK;clear hK;clear hK;refine hK _ _ ?_));clear hK;try simp only[pst0,simprocAttr])|(rw[if_pos];rotate_left 1;omega;simp(maxSteps:=2000000) only[Ty.w,simprocAttr,b1]))
  rw[this]
 |true=>
  have:digB c=decide ((c.toNat:Int)≤57):=by
   simp at b1;have e1:decide (48≤c.toNat)=true:=(by simp;omega);simp only[digB,e1,Bool.true_and];exact decide_eq_decide.2 (by omega)
  refine pcall_body (ow:=fun _=>false) (wf:=fun _=>false) Ty.mixed Tryz.func126 rfl Ty.hb_126 (by rw[Tryz.ntmps126];simp) ?_;rw[Tryz.ntmps126,Tryz.results126];repeat'(first|refine a_seq fun K hK=>?_|(refine a_block ?_)|((first|refine a_regionS ?_|refine a_region (fun K hK=>?_)|refine a_ret ?_);simp(maxSteps:=2000000) only[Ty.w,simprocAttr,b1])|((first|refine a_skip ?_|refine a_exit ?_);try simp only[pst0,simprocAttr])|(refine a_cond _ (by(try simp(maxSteps:=2000000) only[Ty.w,simprocAttr,b1]);rfl) (fun hb=>?_) (fun hb=>?_)<;>(try simp only[hb0,decide_eq_true_eq,decide_eq_false_iff_not,simprocAttr]at hb)<;>(try(exfalso;omega)))|(with_reducible refine ite_in (fun hb=>?_) (fun hb=>?_)<;>(try simp only[Decidable.not_not]at hb)<;>(try simp only[hb,if_true,if_false,not_false_eq_true,not_true_eq_false, ↓reduceIte])<;>(try simp only[hb0,decide_eq_true_eq,decide_eq_false_iff_not,simprocAttr]at hb)<;>(try(exfalso;omega)))|((first|refine hK _ _ ?_|(clear hK;refine hK _ _ ?_)|(clear hK;clear hK;refine hK _ _ ?_)|(clear hK;clear hK;clear hK;refine hK _ _ ?_));clear hK;try simp only[pst0,simprocAttr])|(rw[if_pos];rotate_left 1;omega;simp(maxSteps:=2000000) only[Ty.w,simprocAttr,b1]))
  rw[this]
theorem firstIdx_ge(s:ByteArray)(c:UInt8):decide (firstIdx s c≥0)=s.data.toList.contains c:=by
 unfold firstIdx;have hsl:s.data.toList.length=s.size:=by rw[Array.length_toList];try rfl
 have hget: ∀ i,i<s.size→s[i]! =s.data.toList[i]!:=by
  intro i hi;have h1:s[i]? =s.data.toList[i]?:=ba_get s i;rw[getElem!_def,getElem!_def,h1]
 cases hf:(List.range s.size).find? fun i=>s[i]! ==c with
 |none=>
  rw[List.find?_eq_none]at hf;have:s.data.toList.contains c=false:=by
   rw[Bool.eq_false_iff];intro hc;rw[List.contains_iff_mem]at hc;obtain⟨i,hi,he⟩:=List.getElem_of_mem hc;have h2:=hf i (by simp;omega);rw[hget i (by omega),getElem!_pos s.data.toList i hi,he]at h2;simp at h2
  rw[this];try rfl
 |some i=>
  have h1:=List.find?_some hf;have h2:=List.mem_of_find?_eq_some hf;simp at h2;have:s.data.toList.contains c=true:=by
   rw[List.contains_iff_mem];rw[hget i h2]at h1;rw[getElem!_pos s.data.toList i (by omega)]at h1;have:=beq_iff_eq.1 h1;rw[← this];exact List.getElem_mem _
  rw[this];simp
theorem indexByte_c{h:Heap}{s:ByteArray}{c:UInt8}:PCall Tryz.prog 127 [sPV s,.sc (.int .u8 c.toNat)] h fun r h'=>r= .sc (.int .i64 (firstIdx s c))∧h'=h:=by
 have hx:PCall Tryz.prog 153 [sPV s,.sc (.int .u8 c.toNat)] h fun r h'=>r= .sc (.int .i64 (firstIdx s c))∧h'=h:=by
  have:=pcall_indexByte (P:=Tryz.prog) Tryz.func153 ixb_ok.1 ixb_ok.2.1 ixb_ok.2.2.1 ixb_ok.2.2.2 s c.toNat h;simpa using this
 have hy:PCall Tryz.prog 145 [sPV s,.sc (.int .u8 c.toNat)] h fun r h'=>r= .sc (.int .i64 (firstIdx s c))∧h'=h:=by
  refine pcall_body (ow:=fun _=>false) (wf:=fun _=>false) Ty.mixed Tryz.func145 rfl Ty.hb_145 (by rw[Tryz.ntmps145];simp) ?_;rw[Tryz.ntmps145,Tryz.results145];repeat'(first|refine a_seq fun K hK=>?_|(refine a_block ?_)|((first|refine a_regionS ?_|refine a_region (fun K hK=>?_)|refine a_ret ?_);simp(maxSteps:=2000000) only[Ty.w,simprocAttr])|((first|refine a_skip ?_|refine a_exit ?_);try simp only[pst0,simprocAttr])|(refine a_cond _ (by(try simp(maxSteps:=2000000) only[Ty.w,simprocAttr]);rfl) (fun hb=>?_) (fun hb=>?_)<;>(try simp only[hb0,decide_eq_true_eq,decide_eq_false_iff_not,simprocAttr]at hb)<;>(try(exfalso;omega)))|(with_reducible refine ite_in (fun hb=>?_) (fun hb=>?_)<;>(try simp only[Decidable.not_not]at hb)<;>(try simp only[hb,if_true,if_false,not_false_eq_true,not_true_eq_false, ↓reduceIte])<;>(try simp only[hb0,decide_eq_true_eq,decide_eq_false_iff_not,simprocAttr]at hb)<;>(try(exfalso;omega)))|((first|refine hK _ _ ?_|(clear hK;refine hK _ _ ?_)|(clear hK;clear hK;refine hK _ _ ?_)|(clear hK;clear hK;clear hK;refine hK _ _ ?_));clear hK;try simp only[pst0,simprocAttr])|(rw[if_pos];rotate_left 1;omega;simp(maxSteps:=2000000) only[Ty.w,simprocAttr]))
  refine owp_useQ (hx) (by(try simp only[Ty.w,simprocAttr,]);try rfl) ?_;simp(maxSteps:=2000000) only[Ty.w,simprocAttr,];repeat'(first|refine a_seq fun K hK=>?_|(refine a_block ?_)|((first|refine a_regionS ?_|refine a_region (fun K hK=>?_)|refine a_ret ?_);simp(maxSteps:=2000000) only[Ty.w,simprocAttr])|((first|refine a_skip ?_|refine a_exit ?_);try simp only[pst0,simprocAttr])|(refine a_cond _ (by(try simp(maxSteps:=2000000) only[Ty.w,simprocAttr]);rfl) (fun hb=>?_) (fun hb=>?_)<;>(try simp only[hb0,decide_eq_true_eq,decide_eq_false_iff_not,simprocAttr]at hb)<;>(try(exfalso;omega)))|(with_reducible refine ite_in (fun hb=>?_) (fun hb=>?_)<;>(try simp only[Decidable.not_not]at hb)<;>(try simp only[hb,if_true,if_false,not_false_eq_true,not_true_eq_false, ↓reduceIte])<;>(try simp only[hb0,decide_eq_true_eq,decide_eq_false_iff_not,simprocAttr]at hb)<;>(try(exfalso;omega)))|((first|refine hK _ _ ?_|(clear hK;refine hK _ _ ?_)|(clear hK;clear hK;refine hK _ _ ?_)|(clear hK;clear hK;clear hK;refine hK _ _ ?_));clear hK;try simp only[pst0,simprocAttr])|(rw[if_pos];rotate_left 1;omega;simp(maxSteps:=2000000) only[Ty.w,simprocAttr]))
 refine pcall_body (ow:=fun _=>false) (wf:=fun _=>false) Ty.mixed Tryz.func127 rfl Ty.hb_127 (by rw[Tryz.ntmps127];simp) ?_;rw[Tryz.ntmps127,Tryz.results127];repeat'(first|refine a_seq fun K hK=>?_|(refine a_block ?_)|((first|refine a_regionS ?_|refine a_region (fun K hK=>?_)|refine a_ret ?_);simp(maxSteps:=2000000) only[Ty.w,simprocAttr])|((first|refine a_skip ?_|refine a_exit ?_);try simp only[pst0,simprocAttr])|(refine a_cond _ (by(try simp(maxSteps:=2000000) only[Ty.w,simprocAttr]);rfl) (fun hb=>?_) (fun hb=>?_)<;>(try simp only[hb0,decide_eq_true_eq,decide_eq_false_iff_not,simprocAttr]at hb)<;>(try(exfalso;omega)))|(with_reducible refine ite_in (fun hb=>?_) (fun hb=>?_)<;>(try simp only[Decidable.not_not]at hb)<;>(try simp only[hb,if_true,if_false,not_false_eq_true,not_true_eq_false, ↓reduceIte])<;>(try simp only[hb0,decide_eq_true_eq,decide_eq_false_iff_not,simprocAttr]at hb)<;>(try(exfalso;omega)))|((first|refine hK _ _ ?_|(clear hK;refine hK _ _ ?_)|(clear hK;clear hK;refine hK _ _ ?_)|(clear hK;clear hK;clear hK;refine hK _ _ ?_));clear hK;try simp only[pst0,simprocAttr])|(rw[if_pos];rotate_left 1;omega;simp(maxSteps:=2000000) only[Ty.w,simprocAttr]))
 refine owp_useQ (hy) (by(try simp only[Ty.w,simprocAttr,]);try rfl) ?_;simp(maxSteps:=2000000) only[Ty.w,simprocAttr,];repeat'(first|refine a_seq fun K hK=>?_|(refine a_block ?_)|((first|refine a_regionS ?_|refine a_region (fun K hK=>?_)|refine a_ret ?_);simp(maxSteps:=2000000) only[Ty.w,simprocAttr])|((first|refine a_skip ?_|refine a_exit ?_);try simp only[pst0,simprocAttr])|(refine a_cond _ (by(try simp(maxSteps:=2000000) only[Ty.w,simprocAttr]);rfl) (fun hb=>?_) (fun hb=>?_)<;>(try simp only[hb0,decide_eq_true_eq,decide_eq_false_iff_not,simprocAttr]at hb)<;>(try(exfalso;omega)))|(with_reducible refine ite_in (fun hb=>?_) (fun hb=>?_)<;>(try simp only[Decidable.not_not]at hb)<;>(try simp only[hb,if_true,if_false,not_false_eq_true,not_true_eq_false, ↓reduceIte])<;>(try simp only[hb0,decide_eq_true_eq,decide_eq_false_iff_not,simprocAttr]at hb)<;>(try(exfalso;omega)))|((first|refine hK _ _ ?_|(clear hK;refine hK _ _ ?_)|(clear hK;clear hK;refine hK _ _ ?_)|(clear hK;clear hK;clear hK;refine hK _ _ ?_));clear hK;try simp only[pst0,simprocAttr])|(rw[if_pos];rotate_left 1;omega;simp(maxSteps:=2000000) only[Ty.w,simprocAttr]))
theorem ba_ext{a b:ByteArray}(h:a.data.toList=b.data.toList):a=b:=by
 obtain⟨⟨a⟩⟩:=a;obtain⟨⟨b⟩⟩:=b;simp at h;rw[h]
theorem hasPrefix_c{h:Heap}{s:ByteArray}:PCall Tryz.prog 149 [sPV s,sPV ⟨#[45]⟩] h fun r h'=>r= .sc (.bool (match s.data.toList with|45::_=>true|_=>false))∧h'=h:=by
 have hsl:s.data.toList.length=s.size:=by rw[Array.length_toList];try rfl
 have h1:(ByteArray.mk #[45]).size=1:=rfl;cases b1:decide ((s.size:Int)≥1)with
 |false=>
  have:(match s.data.toList with|45::_=>true|_=>false)=false:=by
   simp at b1;have:s.data.toList=[]:=List.eq_nil_of_length_eq_zero (by omega);rw[this]
  refine pcall_body (ow:=fun _=>false) (wf:=fun _=>false) Ty.mixed Tryz.func149 rfl Ty.hb_149 (by rw[Tryz.ntmps149];simp) ?_;rw[Tryz.ntmps149,Tryz.results149];repeat'(first|refine a_seq fun K hK=>?_|(refine a_block ?_)|((first|refine a_regionS ?_|refine a_region (fun K hK=>?_)|refine a_ret ?_);simp(maxSteps:=2000000) only[Ty.w,simprocAttr,h1,Int.natCast_one,b1])|((first|refine a_skip ?_|refine a_exit ?_);try simp only[pst0,simprocAttr])|(refine a_cond _ (by(try simp(maxSteps:=2000000) only[Ty.w,simprocAttr,h1,Int.natCast_one,b1]);rfl) (fun hb=>?_) (fun hb=>?_)<;>(try simp only[hb0,decide_eq_true_eq,decide_eq_false_iff_not,simprocAttr]at hb)<;>(try(exfalso;omega)))|(with_reducible refine ite_in (fun hb=>?_) (fun hb=>?_)<;>(try simp only[Decidable.not_not]at hb)<;>(try simp only[hb,if_true,if_false,not_false_eq_true,not_true_eq_false, ↓reduceIte])<;>(try simp only[hb0,decide_eq_true_eq,decide_eq_false_iff_not,simprocAttr]at hb)<;>(try(exfalso;omega)))|((first|refine hK _ _ ?_|(clear hK;refine hK _ _ ?_)|(clear hK;clear hK;refine hK _ _ ?_)|(clear hK;clear hK;clear hK;refine hK _ _ ?_));clear hK;try simp only[pst0,simprocAttr])|(rw[if_pos];rotate_left 1;omega;simp(maxSteps:=2000000) only[Ty.w,simprocAttr,h1,Int.natCast_one,b1]))
  rw[this]
 |true=>
  have b1':=b1;simp at b1';have q1:(1:Int)≤(s.size:Int):=by omega
  have:(match s.data.toList with|45::_=>true|_=>false)=((s.extract 0 1).data.toList==(#[45]:Array UInt8).toList):=by
   have he:(s.extract 0 1).data.toList=s.data.toList.take 1:=(by simp);rw[he];cases hl:s.data.toList with
   |nil=>rw[hl]at hsl;simp at hsl;omega
   |cons c l=>
    simp only[List.take_succ_cons,List.take_zero];by_cases hc:c=45
    ·subst hc;rfl
    ·have:([c]==(#[45]:Array UInt8).toList)=false:=(by simp[hc]);rw[this];split
     ·rename_i heq;simp at heq;exact absurd heq.1 hc
     ·rfl
  refine pcall_body (ow:=fun _=>false) (wf:=fun _=>false) Ty.mixed Tryz.func149 rfl Ty.hb_149 (by rw[Tryz.ntmps149];simp) ?_;rw[Tryz.ntmps149,Tryz.results149];repeat'(first|refine a_seq fun K hK=>?_|(refine a_block ?_)|((first|refine a_regionS ?_|refine a_region (fun K hK=>?_)|refine a_ret ?_);simp(maxSteps:=2000000) only[Ty.w,simprocAttr,h1,Int.natCast_one,b1,q1,Option.getD_some,Option.getD_none,Int.le_refl,Int.toNat_one,Int.toNat_zero])|((first|refine a_skip ?_|refine a_exit ?_);try simp only[pst0,simprocAttr])|(refine a_cond _ (by(try simp(maxSteps:=2000000) only[Ty.w,simprocAttr,h1,Int.natCast_one,b1,q1,Option.getD_some,Option.getD_none,Int.le_refl,Int.toNat_one,Int.toNat_zero]);rfl) (fun hb=>?_) (fun hb=>?_)<;>(try simp only[hb0,decide_eq_true_eq,decide_eq_false_iff_not,simprocAttr]at hb)<;>(try(exfalso;omega)))|(with_reducible refine ite_in (fun hb=>?_) (fun hb=>?_)<;>(try simp only[Decidable.not_not]at hb)<;>(try simp only[hb,if_true,if_false,not_false_eq_true,not_true_eq_false, ↓reduceIte])<;>(try simp only[hb0,decide_eq_true_eq,decide_eq_false_iff_not,simprocAttr]at hb)<;>(try(exfalso;omega)))|((first|refine hK _ _ ?_|(clear hK;refine hK _ _ ?_)|(clear hK;clear hK;refine hK _ _ ?_)|(clear hK;clear hK;clear hK;refine hK _ _ ?_));clear hK;try simp only[pst0,simprocAttr])|(rw[if_pos];rotate_left 1;omega;simp(maxSteps:=2000000) only[Ty.w,simprocAttr,h1,Int.natCast_one,b1,q1,Option.getD_some,Option.getD_none,Int.le_refl,Int.toNat_one,Int.toNat_zero]))
  rw[this]
theorem trimPrefix_c{h:Heap}{s:ByteArray}:PCall Tryz.prog 128 [sPV s,sPV ⟨#[45]⟩] h fun r h'=>r=sPV (trimB s)∧h'=h:=by
 have hsl:s.data.toList.length=s.size:=by rw[Array.length_toList];try rfl
 have h1:(ByteArray.mk #[45]).size=1:=rfl;have hy:PCall Tryz.prog 146 [sPV s,sPV ⟨#[45]⟩] h fun r h'=>r=sPV (trimB s)∧h'=h:=by
  cases b1:(match s.data.toList with|45::_=>true|_=>false)with
  |false=>
   have:trimB s=s:=by
    unfold trimB;split
    ·rename_i heq;rw[heq]at b1;simp at b1
    ·rfl
   refine pcall_body (ow:=fun _=>false) (wf:=fun _=>false) Ty.mixed Tryz.func146 rfl Ty.hb_146 (by rw[Tryz.ntmps146];simp) ?_;rw[Tryz.ntmps146,Tryz.results146];(repeat'(first|refine a_seq fun K hK=>?_|(refine a_block ?_)|((first|refine a_regionS ?_|refine a_region (fun K hK=>?_)|refine a_ret ?_);simp(maxSteps:=2000000) only[Ty.w,simprocAttr])|((first|refine a_skip ?_|refine a_exit ?_);try simp only[pst0,simprocAttr])|(refine a_cond _ (by(try simp(maxSteps:=2000000) only[Ty.w,simprocAttr]);rfl) (fun hb=>?_) (fun hb=>?_)<;>(try simp only[hb0,decide_eq_true_eq,decide_eq_false_iff_not,simprocAttr]at hb)<;>(try(exfalso;omega)))|(with_reducible refine ite_in (fun hb=>?_) (fun hb=>?_)<;>(try simp only[Decidable.not_not]at hb)<;>(try simp only[hb,if_true,if_false,not_false_eq_true,not_true_eq_false, ↓reduceIte])<;>(try simp only[hb0,decide_eq_true_eq,decide_eq_false_iff_not,simprocAttr]at hb)<;>(try(exfalso;omega)))|((first|refine hK _ _ ?_|(clear hK;refine hK _ _ ?_)|(clear hK;clear hK;refine hK _ _ ?_)|(clear hK;clear hK;clear hK;refine hK _ _ ?_));clear hK;try simp only[pst0,simprocAttr])|(rw[if_pos];rotate_left 1;omega;simp(maxSteps:=2000000) only[Ty.w,simprocAttr])));refine owp_useQ (hasPrefix_c (s:=s)) (by(try simp only[Ty.w,simprocAttr,b1]);try rfl) ?_;simp(maxSteps:=2000000) only[Ty.w,simprocAttr,b1];(repeat'(first|refine a_seq fun K hK=>?_|(refine a_block ?_)|((first|refine a_regionS ?_|refine a_region (fun K hK=>?_)|refine a_ret ?_);simp(maxSteps:=2000000) only[Ty.w,simprocAttr,b1])|((first|refine a_skip ?_|refine a_exit ?_);try simp only[pst0,simprocAttr])|(refine a_cond _ (by(try simp(maxSteps:=2000000) only[Ty.w,simprocAttr,b1]);rfl) (fun hb=>?_) (fun hb=>?_)<;>(try simp only[hb0,decide_eq_true_eq,decide_eq_false_iff_not,simprocAttr]at hb)<;>(try(exfalso;omega)))|(with_reducible refine ite_in (fun hb=>?_) (fun hb=>?_)<;>(try simp only[Decidable.not_not]at hb)<;>(try simp only[hb,if_true,if_false,not_false_eq_true,not_true_eq_false, ↓reduceIte])<;>(try simp only[hb0,decide_eq_true_eq,decide_eq_false_iff_not,simprocAttr]at hb)<;>(try(exfalso;omega)))|((first|refine hK _ _ ?_|(clear hK;refine hK _ _ ?_)|(clear hK;clear hK;refine hK _ _ ?_)|(clear hK;clear hK;clear hK;refine hK _ _ ?_));clear hK;try simp only[pst0,simprocAttr])|(rw[if_pos];rotate_left 1;omega;simp(maxSteps:=2000000) only[Ty.w,simprocAttr,b1])));rw[this]
  |true=>
   have hq: ∃ l,s.data.toList=45::l:=by
    split at b1
    ·rename_i l heq;exact⟨l,heq⟩
    ·simp at b1
   obtain⟨l,hl⟩:=hq;have q1:(1:Int)≤(s.size:Int):=(by rw[hl]at hsl;simp at hsl;omega);have:trimB s=s.extract 1 s.size:=by
    unfold trimB;rw[hl];refine ba_ext ?_;have hl2:=hsl;rw[hl]at hl2;simp at hl2;simp only[ByteArray.data_extract,Array.toList_extract,List.extract_eq_take_drop,hl];rw[List.drop_succ_cons,List.drop_zero,List.take_of_length_le (by omega)]
   refine pcall_body (ow:=fun _=>false) (wf:=fun _=>false) Ty.mixed Tryz.func146 rfl Ty.hb_146 (by rw[Tryz.ntmps146];simp) ?_;rw[Tryz.ntmps146,Tryz.results146];(repeat'(first|refine a_seq fun K hK=>?_|(refine a_block ?_)|((first|refine a_regionS ?_|refine a_region (fun K hK=>?_)|refine a_ret ?_);simp(maxSteps:=2000000) only[Ty.w,simprocAttr])|((first|refine a_skip ?_|refine a_exit ?_);try simp only[pst0,simprocAttr])|(refine a_cond _ (by(try simp(maxSteps:=2000000) only[Ty.w,simprocAttr]);rfl) (fun hb=>?_) (fun hb=>?_)<;>(try simp only[hb0,decide_eq_true_eq,decide_eq_false_iff_not,simprocAttr]at hb)<;>(try(exfalso;omega)))|(with_reducible refine ite_in (fun hb=>?_) (fun hb=>?_)<;>(try simp only[Decidable.not_not]at hb)<;>(try simp only[hb,if_true,if_false,not_false_eq_true,not_true_eq_false, ↓reduceIte])<;>(try simp only[hb0,decide_eq_true_eq,decide_eq_false_iff_not,simprocAttr]at hb)<;>(try(exfalso;omega)))|((first|refine hK _ _ ?_|(clear hK;refine hK _ _ ?_)|(clear hK;clear hK;refine hK _ _ ?_)|(clear hK;clear hK;clear hK;refine hK _ _ ?_));clear hK;try simp only[pst0,simprocAttr])|(rw[if_pos];rotate_left 1;omega;simp(maxSteps:=2000000) only[Ty.w,simprocAttr])));refine owp_useQ (hasPrefix_c (s:=s)) (by(try simp only[Ty.w,simprocAttr,b1]);try rfl) ?_;simp(maxSteps:=2000000) only[Ty.w,simprocAttr,b1];(repeat'(first|refine a_seq fun K hK=>?_|(refine a_block ?_)|((first|refine a_regionS ?_|refine a_region (fun K hK=>?_)|refine a_ret ?_);simp(maxSteps:=2000000) only[Ty.w,simprocAttr,b1,h1,Int.natCast_one,q1,Option.getD_some,Option.getD_none,Int.le_refl,Int.toNat_one])|((first|refine a_skip ?_|refine a_exit ?_);try simp only[pst0,simprocAttr])|(refine a_cond _ (by(try simp(maxSteps:=2000000) only[Ty.w,simprocAttr,b1,h1,Int.natCast_one,q1,Option.getD_some,Option.getD_none,Int.le_refl,Int.toNat_one]);rfl) (fun hb=>?_) (fun hb=>?_)<;>(try simp only[hb0,decide_eq_true_eq,decide_eq_false_iff_not,simprocAttr]at hb)<;>(try(exfalso;omega)))|(with_reducible refine ite_in (fun hb=>?_) (fun hb=>?_)<;>(try simp only[Decidable.not_not]at hb)<;>(try simp only[hb,if_true,if_false,not_false_eq_true,not_true_eq_false, ↓reduceIte])<;>(try simp only[hb0,decide_eq_true_eq,decide_eq_false_iff_not,simprocAttr]at hb)<;>(try(exfalso;omega)))|((first|refine hK _ _ ?_|(clear hK;refine hK _ _ ?_)|(clear hK;clear hK;refine hK _ _ ?_)|(clear hK;clear hK;clear hK;refine hK _ _ ?_));clear hK;try simp only[pst0,simprocAttr])|(rw[if_pos];rotate_left 1;omega;simp(maxSteps:=2000000) only[Ty.w,simprocAttr,b1,h1,Int.natCast_one,q1,Option.getD_some,Option.getD_none,Int.le_refl,Int.toNat_one])));rw[this]
 refine pcall_body (ow:=fun _=>false) (wf:=fun _=>false) Ty.mixed Tryz.func128 rfl Ty.hb_128 (by rw[Tryz.ntmps128];simp) ?_;rw[Tryz.ntmps128,Tryz.results128];repeat'(first|refine a_seq fun K hK=>?_|(refine a_block ?_)|((first|refine a_regionS ?_|refine a_region (fun K hK=>?_)|refine a_ret ?_);simp(maxSteps:=2000000) only[Ty.w,simprocAttr])|((first|refine a_skip ?_|refine a_exit ?_);try simp only[pst0,simprocAttr])|(refine a_cond _ (by(try simp(maxSteps:=2000000) only[Ty.w,simprocAttr]);rfl) (fun hb=>?_) (fun hb=>?_)<;>(try simp only[hb0,decide_eq_true_eq,decide_eq_false_iff_not,simprocAttr]at hb)<;>(try(exfalso;omega)))|(with_reducible refine ite_in (fun hb=>?_) (fun hb=>?_)<;>(try simp only[Decidable.not_not]at hb)<;>(try simp only[hb,if_true,if_false,not_false_eq_true,not_true_eq_false, ↓reduceIte])<;>(try simp only[hb0,decide_eq_true_eq,decide_eq_false_iff_not,simprocAttr]at hb)<;>(try(exfalso;omega)))|((first|refine hK _ _ ?_|(clear hK;refine hK _ _ ?_)|(clear hK;clear hK;refine hK _ _ ?_)|(clear hK;clear hK;clear hK;refine hK _ _ ?_));clear hK;try simp only[pst0,simprocAttr])|(rw[if_pos];rotate_left 1;omega;simp(maxSteps:=2000000) only[Ty.w,simprocAttr]))
 refine owp_useQ (hy) (by(try simp only[Ty.w,simprocAttr,]);try rfl) ?_;simp(maxSteps:=2000000) only[Ty.w,simprocAttr,];repeat'(first|refine a_seq fun K hK=>?_|(refine a_block ?_)|((first|refine a_regionS ?_|refine a_region (fun K hK=>?_)|refine a_ret ?_);simp(maxSteps:=2000000) only[Ty.w,simprocAttr])|((first|refine a_skip ?_|refine a_exit ?_);try simp only[pst0,simprocAttr])|(refine a_cond _ (by(try simp(maxSteps:=2000000) only[Ty.w,simprocAttr]);rfl) (fun hb=>?_) (fun hb=>?_)<;>(try simp only[hb0,decide_eq_true_eq,decide_eq_false_iff_not,simprocAttr]at hb)<;>(try(exfalso;omega)))|(with_reducible refine ite_in (fun hb=>?_) (fun hb=>?_)<;>(try simp only[Decidable.not_not]at hb)<;>(try simp only[hb,if_true,if_false,not_false_eq_true,not_true_eq_false, ↓reduceIte])<;>(try simp only[hb0,decide_eq_true_eq,decide_eq_false_iff_not,simprocAttr]at hb)<;>(try(exfalso;omega)))|((first|refine hK _ _ ?_|(clear hK;refine hK _ _ ?_)|(clear hK;clear hK;refine hK _ _ ?_)|(clear hK;clear hK;clear hK;refine hK _ _ ?_));clear hK;try simp only[pst0,simprocAttr])|(rw[if_pos];rotate_left 1;omega;simp(maxSteps:=2000000) only[Ty.w,simprocAttr]))
theorem numeric_c{h:Heap}{s:ByteArray}(hs:s.size≤bigN):PCall Tryz.prog 102 [sPV s] h fun r h'=>r= .sc (.bool (numB s))∧h'=h:=by
 have htl:(trimB s).data.toList.length=(trimB s).size:=by rw[Array.length_toList];try rfl
 have hts:(trimB s).size≤bigN:=by
  have hsl:s.data.toList.length=s.size:=by rw[Array.length_toList];try rfl
  unfold trimB;split
  ·rename_i l heq;rw[heq]at hsl;have:(ByteArray.mk l.toArray).size=l.length:=(by simp[ByteArray.size]);simp at hsl;omega
  ·exact hs
 unfold bigN at hts;have hN:numB s=((trimB s).data.toList.all digB&&decide (0<(trimB s).size)):=rfl;have ht:PCall Tryz.prog 128 [sPV s,sPV ⟨#[45]⟩] h fun r h'=>r=sPV (trimB s)∧h'=h:=trimPrefix_c;generalize trimB s=u at htl hts hN ht;rw[hN];clear hN;refine pcall_body (ow:=fun _=>false) (wf:=fun _=>false) Ty.mixed Tryz.func102 rfl Ty.hb_102 (by rw[Tryz.ntmps102];simp) ?_;rw[Tryz.ntmps102,Tryz.results102];repeat'(first|refine a_seq fun K hK=>?_|(refine a_block ?_)|((first|refine a_regionS ?_|refine a_region (fun K hK=>?_)|refine a_ret ?_);simp(maxSteps:=2000000) only[Ty.w,simprocAttr])|((first|refine a_skip ?_|refine a_exit ?_);try simp only[pst0,simprocAttr])|(refine a_cond _ (by(try simp(maxSteps:=2000000) only[Ty.w,simprocAttr]);rfl) (fun hb=>?_) (fun hb=>?_)<;>(try simp only[hb0,decide_eq_true_eq,decide_eq_false_iff_not,simprocAttr]at hb)<;>(try(exfalso;omega)))|(with_reducible refine ite_in (fun hb=>?_) (fun hb=>?_)<;>(try simp only[Decidable.not_not]at hb)<;>(try simp only[hb,if_true,if_false,not_false_eq_true,not_true_eq_false, ↓reduceIte])<;>(try simp only[hb0,decide_eq_true_eq,decide_eq_false_iff_not,simprocAttr]at hb)<;>(try(exfalso;omega)))|((first|refine hK _ _ ?_|(clear hK;refine hK _ _ ?_)|(clear hK;clear hK;refine hK _ _ ?_)|(clear hK;clear hK;clear hK;refine hK _ _ ?_));clear hK;try simp only[pst0,simprocAttr])|(rw[if_pos];rotate_left 1;omega;simp(maxSteps:=2000000) only[Ty.w,simprocAttr]))
 refine owp_useQ (ht) (by(try simp only[Ty.w,simprocAttr,]);try rfl) ?_;simp(maxSteps:=2000000) only[Ty.w,simprocAttr,];repeat'(first|refine a_seq fun K hK=>?_|(refine a_block ?_)|((first|refine a_regionS ?_|refine a_region (fun K hK=>?_)|refine a_ret ?_);simp(maxSteps:=2000000) only[Ty.w,simprocAttr])|((first|refine a_skip ?_|refine a_exit ?_);try simp only[pst0,simprocAttr])|(refine a_cond _ (by(try simp(maxSteps:=2000000) only[Ty.w,simprocAttr]);rfl) (fun hb=>?_) (fun hb=>?_)<;>(try simp only[hb0,decide_eq_true_eq,decide_eq_false_iff_not,simprocAttr]at hb)<;>(try(exfalso;omega)))|(with_reducible refine ite_in (fun hb=>?_) (fun hb=>?_)<;>(try simp only[Decidable.not_not]at hb)<;>(try simp only[hb,if_true,if_false,not_false_eq_true,not_true_eq_false, ↓reduceIte])<;>(try simp only[hb0,decide_eq_true_eq,decide_eq_false_iff_not,simprocAttr]at hb)<;>(try(exfalso;omega)))|((first|refine hK _ _ ?_|(clear hK;refine hK _ _ ?_)|(clear hK;clear hK;refine hK _ _ ?_)|(clear hK;clear hK;clear hK;refine hK _ _ ?_));clear hK;try simp only[pst0,simprocAttr])|(rw[if_pos];rotate_left 1;omega;simp(maxSteps:=2000000) only[Ty.w,simprocAttr]))
 refine a_loop (fun m S h'=>h'=h∧S 0=sPV u∧S 7= .sc (.int .i64 u.size)∧ ∃ k:Nat,S 8= .sc (.int .i64 k)∧k≤u.size∧m=u.size-k∧ ∀ (i:Nat)(c:UInt8),i<k→u.data.toList[i]? =some c→digB c=true) u.size ?_ ?_
 ·simp only[Ty.w,simprocAttr];exact⟨0,rfl,by omega,rfl,by omega⟩
 ·rintro m S h' ⟨rfl,g0,g7,k,g8,hk,rfl,hall⟩;by_cases hlt:k<u.size
  ·have hd:decide ((k:Int)<(u.size:Int))=true:=(by simp;omega);have w7:IntKind.i64.wrap ((k:Int)+1)=k+1:=(by rw[wrap64 (by omega) (by omega)]);obtain⟨c,hx⟩: ∃ c,u.data.toList[k]? =some c:=⟨_,List.getElem?_eq_getElem (by omega)⟩;have hr:u[k]? =some c:=(by rw[ba_get];exact hx);cases hg:digB c with
   |false=>
    have:u.data.toList.all digB=false:=(by rw[List.all_eq_false];exact⟨c,List.mem_of_getElem? hx,by simp[hg]⟩);(repeat'(first|refine a_seq fun K hK=>?_|(refine a_block ?_)|((first|refine a_regionS ?_|refine a_region (fun K hK=>?_)|refine a_ret ?_);simp(maxSteps:=2000000) only[Ty.w,simprocAttr,g0,g7,g8,hd,hr])|((first|refine a_skip ?_|refine a_exit ?_);try simp only[pst0,simprocAttr])|(refine a_cond _ (by(try simp(maxSteps:=2000000) only[Ty.w,simprocAttr,g0,g7,g8,hd,hr]);rfl) (fun hb=>?_) (fun hb=>?_)<;>(try simp only[hb0,decide_eq_true_eq,decide_eq_false_iff_not,simprocAttr]at hb)<;>(try(exfalso;omega)))|(with_reducible refine ite_in (fun hb=>?_) (fun hb=>?_)<;>(try simp only[Decidable.not_not]at hb)<;>(try simp only[hb,if_true,if_false,not_false_eq_true,not_true_eq_false, ↓reduceIte])<;>(try simp only[hb0,decide_eq_true_eq,decide_eq_false_iff_not,simprocAttr]at hb)<;>(try(exfalso;omega)))|((first|refine hK _ _ ?_|(clear hK;refine hK _ _ ?_)|(clear hK;clear hK;refine hK _ _ ?_)|(clear hK;clear hK;clear hK;refine hK _ _ ?_));clear hK;try simp only[pst0,simprocAttr])|(rw[if_pos];rotate_left 1;omega;simp(maxSteps:=2000000) only[Ty.w,simprocAttr,g0,g7,g8,hd,hr])));refine owp_useQ (digit_c (c:=c)) (by(try simp only[Ty.w,simprocAttr,g0,g7,g8,hd,hr,hg]);try rfl) ?_;simp(maxSteps:=2000000) only[Ty.w,simprocAttr,g0,g7,g8,hd,hr,hg];(repeat'(first|refine a_seq fun K hK=>?_|(refine a_block ?_)|((first|refine a_regionS ?_|refine a_region (fun K hK=>?_)|refine a_ret ?_);simp(maxSteps:=2000000) only[Ty.w,simprocAttr,hg,Bool.not_false])|((first|refine a_skip ?_|refine a_exit ?_);try simp only[pst0,simprocAttr])|(refine a_cond _ (by(try simp(maxSteps:=2000000) only[Ty.w,simprocAttr,hg,Bool.not_false]);rfl) (fun hb=>?_) (fun hb=>?_)<;>(try simp only[hb0,decide_eq_true_eq,decide_eq_false_iff_not,simprocAttr]at hb)<;>(try(exfalso;omega)))|(with_reducible refine ite_in (fun hb=>?_) (fun hb=>?_)<;>(try simp only[Decidable.not_not]at hb)<;>(try simp only[hb,if_true,if_false,not_false_eq_true,not_true_eq_false, ↓reduceIte])<;>(try simp only[hb0,decide_eq_true_eq,decide_eq_false_iff_not,simprocAttr]at hb)<;>(try(exfalso;omega)))|((first|refine hK _ _ ?_|(clear hK;refine hK _ _ ?_)|(clear hK;clear hK;refine hK _ _ ?_)|(clear hK;clear hK;clear hK;refine hK _ _ ?_));clear hK;try simp only[pst0,simprocAttr])|(rw[if_pos];rotate_left 1;omega;simp(maxSteps:=2000000) only[Ty.w,simprocAttr,hg,Bool.not_false])));rw[this];try rfl
   |true=>
    (repeat'(first|refine a_seq fun K hK=>?_|(refine a_block ?_)|((first|refine a_regionS ?_|refine a_region (fun K hK=>?_)|refine a_ret ?_);simp(maxSteps:=2000000) only[Ty.w,simprocAttr,g0,g7,g8,hd,hr])|((first|refine a_skip ?_|refine a_exit ?_);try simp only[pst0,simprocAttr])|(refine a_cond _ (by(try simp(maxSteps:=2000000) only[Ty.w,simprocAttr,g0,g7,g8,hd,hr]);rfl) (fun hb=>?_) (fun hb=>?_)<;>(try simp only[hb0,decide_eq_true_eq,decide_eq_false_iff_not,simprocAttr]at hb)<;>(try(exfalso;omega)))|(with_reducible refine ite_in (fun hb=>?_) (fun hb=>?_)<;>(try simp only[Decidable.not_not]at hb)<;>(try simp only[hb,if_true,if_false,not_false_eq_true,not_true_eq_false, ↓reduceIte])<;>(try simp only[hb0,decide_eq_true_eq,decide_eq_false_iff_not,simprocAttr]at hb)<;>(try(exfalso;omega)))|((first|refine hK _ _ ?_|(clear hK;refine hK _ _ ?_)|(clear hK;clear hK;refine hK _ _ ?_)|(clear hK;clear hK;clear hK;refine hK _ _ ?_));clear hK;try simp only[pst0,simprocAttr])|(rw[if_pos];rotate_left 1;omega;simp(maxSteps:=2000000) only[Ty.w,simprocAttr,g0,g7,g8,hd,hr])));refine owp_useQ (digit_c (c:=c)) (by(try simp only[Ty.w,simprocAttr,g0,g7,g8,hd,hr,hg]);try rfl) ?_;simp(maxSteps:=2000000) only[Ty.w,simprocAttr,g0,g7,g8,hd,hr,hg];(repeat'(first|refine a_seq fun K hK=>?_|(refine a_block ?_)|((first|refine a_regionS ?_|refine a_region (fun K hK=>?_)|refine a_ret ?_);simp(maxSteps:=2000000) only[Ty.w,simprocAttr,g0,g7,g8,hg,w7,Bool.not_true])|((first|refine a_skip ?_|refine a_exit ?_);try simp only[pst0,simprocAttr])|(refine a_cond _ (by(try simp(maxSteps:=2000000) only[Ty.w,simprocAttr,g0,g7,g8,hg,w7,Bool.not_true]);rfl) (fun hb=>?_) (fun hb=>?_)<;>(try simp only[hb0,decide_eq_true_eq,decide_eq_false_iff_not,simprocAttr]at hb)<;>(try(exfalso;omega)))|(with_reducible refine ite_in (fun hb=>?_) (fun hb=>?_)<;>(try simp only[Decidable.not_not]at hb)<;>(try simp only[hb,if_true,if_false,not_false_eq_true,not_true_eq_false, ↓reduceIte])<;>(try simp only[hb0,decide_eq_true_eq,decide_eq_false_iff_not,simprocAttr]at hb)<;>(try(exfalso;omega)))|((first|refine hK _ _ ?_|(clear hK;refine hK _ _ ?_)|(clear hK;clear hK;refine hK _ _ ?_)|(clear hK;clear hK;clear hK;refine hK _ _ ?_));clear hK;try simp only[pst0,simprocAttr])|(rw[if_pos];rotate_left 1;omega;simp(maxSteps:=2000000) only[Ty.w,simprocAttr,g0,g7,g8,hg,w7,Bool.not_true])));refine⟨u.size-(k+1),by omega,k+1,by simp,by omega,rfl,fun i c2 hi hw=>?_⟩;by_cases hik:i=k
    ·subst hik;rw[hx]at hw;simp at hw;rw[← hw];exact hg
    ·exact hall i c2 (by omega) hw
  ·have hd:decide ((k:Int)<(u.size:Int))=false:=(by simp;omega);have hok:u.data.toList.all digB=true:=by
    rw[List.all_eq_true];intro c hc;obtain⟨i,hi⟩:=List.getElem?_of_mem hc;exact hall i c (by have:=(List.getElem?_eq_some_iff.1 hi).1;omega) hi
   have e1:decide (0<u.size)=!(u.data.toList==(#[]:Array UInt8).toList):=by
    rw[← htl];cases u.data.toList<;>simp
   clear hall;(repeat'(first|refine a_seq fun K hK=>?_|(refine a_block ?_)|((first|refine a_regionS ?_|refine a_region (fun K hK=>?_)|refine a_ret ?_);simp(maxSteps:=2000000) only[Ty.w,simprocAttr,g0,g7,g8,hd])|((first|refine a_skip ?_|refine a_exit ?_);try simp only[pst0,simprocAttr])|(refine a_cond _ (by(try simp(maxSteps:=2000000) only[Ty.w,simprocAttr,g0,g7,g8,hd]);rfl) (fun hb=>?_) (fun hb=>?_)<;>(try simp only[hb0,decide_eq_true_eq,decide_eq_false_iff_not,simprocAttr]at hb)<;>(try(exfalso;omega)))|(with_reducible refine ite_in (fun hb=>?_) (fun hb=>?_)<;>(try simp only[Decidable.not_not]at hb)<;>(try simp only[hb,if_true,if_false,not_false_eq_true,not_true_eq_false, ↓reduceIte])<;>(try simp only[hb0,decide_eq_true_eq,decide_eq_false_iff_not,simprocAttr]at hb)<;>(try(exfalso;omega)))|((first|refine hK _ _ ?_|(clear hK;refine hK _ _ ?_)|(clear hK;clear hK;refine hK _ _ ?_)|(clear hK;clear hK;clear hK;refine hK _ _ ?_));clear hK;try simp only[pst0,simprocAttr])|(rw[if_pos];rotate_left 1;omega;simp(maxSteps:=2000000) only[Ty.w,simprocAttr,g0,g7,g8,hd])));rw[hok,e1];try rfl
end Go.Proofs.YtjgkmmjnbcbmpaaGreat
namespace Go.Proofs.YtjgkmmjnbcbmpaaGreat
open Go.AM
set_option maxHeartbeats 2000000
set_option maxRecDepth 20000
theorem lowL_none{l:List UInt8}{k:Nat}{c:UInt8}(h:l[k]? =some c)(hc:lowB c=none):lowL l=none:=by
 induction l generalizing k with
 |nil=>simp at h
 |cons d l ih=>
  simp only[lowL];cases k with
  |zero=>simp at h;subst h;rw[hc]
  |succ k=>
   simp at h;rw[ih h];cases lowB d<;>simp
theorem lowL_take{l p:List UInt8}{k:Nat}{c d:UInt8}(h:l[k]? =some c)(hc:lowB c=some d)(hp:lowL (l.take k)=some p):lowL (l.take (k+1))=some (p++[d]):=by
 induction l generalizing k p with
 |nil=>simp at h
 |cons e l ih=>
  cases k with
  |zero=>simp at h;subst h;simp[lowL]at hp;subst hp;simp[lowL,hc]
  |succ k=>
   simp at h;simp only[List.take_succ_cons,lowL]at hp⊢;cases he:lowB e with
   |none=>simp[he]at hp
   |some e'=>
    rw[he]at hp;cases hq:lowL (l.take k)with
    |none=>simp[hq]at hp
    |some p'=>
     simp[hq]at hp;subst hp;rw[ih h hq];simp
theorem lowL_len{l p:List UInt8}(h:lowL l=some p):p.length=l.length:=by
 induction l generalizing p with
 |nil=>simp[lowL]at h;subst h;rfl
 |cons e l ih=>
  simp only[lowL]at h;split at h
  ·cases hq:lowL l with
   |none=>simp[hq]at h
   |some p'=>simp[hq]at h;subst h;simp[ih hq]
  ·simp at h
theorem bytesR_len(l:List UInt8):(bytesR l).length=l.length:=by simp[bytesR]
theorem bytesR_get{l:List UInt8}{k:Nat}{c:UInt8}(h:l[k]? =some c):(bytesR l)[k]? =some [.sc (.int .u8 c.toNat)]:=by simp[bytesR,h]
theorem bytesR_set(l:List UInt8)(k:Nat)(c:UInt8):(bytesR l).set k [.sc (.int .u8 c.toNat)]=bytesR (l.set k c):=by simp[bytesR,List.map_set]
structure LowI(h:Heap)(l:List UInt8)(k:Nat)(h':Heap):Prop where
 grow:Grow h h'
 ex: ∃ p,lowL (l.take k)=some p∧h'.obj h.next=some (.arr 1 (bytesR (p++l.drop k)))
theorem LowI.keep{h h':Heap}{l:List UInt8}{k:Nat}{c:UInt8}(i:LowI h l k h')(hc:l[k]? =some c)(hl:lowB c=some c):LowI h l (k+1) h':=by
 obtain⟨p,hp,ho⟩:=i.ex;refine⟨i.grow,p++[c],lowL_take hc hl hp,?_⟩;rw[ho];obtain⟨hk,rfl⟩:=List.getElem?_eq_some_iff.1 hc;rw[List.drop_eq_getElem_cons hk];simp
theorem LowI.put{h h':Heap}{l:List UInt8}{k:Nat}{c d:UInt8}{rows:List (List PV)}(i:LowI h l k h')(hc:l[k]? =some c)(hl:lowB c=some d)(hr:h'.obj h.next=some (.arr 1 rows)):
  LowI h l (k+1) (h'.set h.next (.arr 1 (rows.set k [.sc (.int .u8 d.toNat)]))):=by
 obtain⟨p,hp,ho⟩:=i.ex;refine⟨i.grow.set (Nat.le_refl _) _,p++[d],lowL_take hc hl hp,?_⟩;rw[ho]at hr;simp at hr;subst hr;have hpl:=lowL_len hp;obtain⟨hk,rfl⟩:=List.getElem?_eq_some_iff.1 hc;simp only[Heap.set,if_true,bytesR_set];rw[List.length_take]at hpl;rw[List.set_append_right _ _ (by omega),List.drop_eq_getElem_cons hk,show k-p.length=0 by omega,List.set_cons_zero];simp
theorem u8w(x:Int)(h0:0≤x)(h1:x<256):IntKind.u8.wrap x=x:=by
 unfold IntKind.wrap;simp[IntKind.signed,IntKind.bits];omega
theorem byte_cls5(c:UInt8):
  (upB c=false∧letB c=false∧decide ((c.toNat:Int)≥65)=false∧decide ((c.toNat:Int)≥97)=false)∨
  (upB c=true∧decide ((c.toNat:Int)≥65)=true∧decide ((c.toNat:Int)≤90)=true)∨
  (upB c=false∧letB c=false∧decide ((c.toNat:Int)≥65)=true∧decide ((c.toNat:Int)≤90)=false∧decide ((c.toNat:Int)≥97)=false)∨
  (upB c=false∧letB c=true∧decide ((c.toNat:Int)≥65)=true∧decide ((c.toNat:Int)≤90)=false∧decide ((c.toNat:Int)≥97)=true∧decide ((c.toNat:Int)≤122)=true)∨
  (upB c=false∧letB c=false∧decide ((c.toNat:Int)≥65)=true∧decide ((c.toNat:Int)≤90)=false∧decide ((c.toNat:Int)≥97)=true∧decide ((c.toNat:Int)≤122)=false):=by
 simp only[upB,letB,Bool.and_eq_true,Bool.and_eq_false_iff,decide_eq_true_eq,decide_eq_false_iff_not];omega
theorem lower_c{h:Heap}{s:ByteArray}:PCall Tryz.prog 101 [sPV s] h fun r h'=>r= .tup [sPV (lowS s).1,.sc (.bool (lowS s).2)]∧h'=h:=by
 have hsl:s.data.toList.length=s.size:=by rw[Array.length_toList];try rfl
 refine PCall.quiet2 Ty.hb_101 ?_;cases b1:(s.data.toList==(#[]:Array UInt8).toList)with
 |true=>
  have:lowS s=(⟨#[]⟩,false):=by
   unfold lowS;rw[if_neg];have:s.data.toList=[]:=(by simpa using b1);rw[this]at hsl;simp at hsl;omega
  refine pcall_body (ow:=fun _=>false) (wf:=fun _=>false) Ty.mixed Tryz.func101 rfl Ty.hb_101 (by rw[Tryz.ntmps101];simp) ?_;rw[Tryz.ntmps101,Tryz.results101];repeat'(first|refine a_seq fun K hK=>?_|(refine a_block ?_)|((first|refine a_regionS ?_|refine a_region (fun K hK=>?_)|refine a_ret ?_);simp(maxSteps:=2000000) only[Ty.w,simprocAttr,b1])|((first|refine a_skip ?_|refine a_exit ?_);try simp only[pst0,simprocAttr])|(refine a_cond _ (by(try simp(maxSteps:=2000000) only[Ty.w,simprocAttr,b1]);rfl) (fun hb=>?_) (fun hb=>?_)<;>(try simp only[hb0,decide_eq_true_eq,decide_eq_false_iff_not,simprocAttr]at hb)<;>(try(exfalso;omega)))|(with_reducible refine ite_in (fun hb=>?_) (fun hb=>?_)<;>(try simp only[Decidable.not_not]at hb)<;>(try simp only[hb,if_true,if_false,not_false_eq_true,not_true_eq_false, ↓reduceIte])<;>(try simp only[hb0,decide_eq_true_eq,decide_eq_false_iff_not,simprocAttr]at hb)<;>(try(exfalso;omega)))|((first|refine hK _ _ ?_|(clear hK;refine hK _ _ ?_)|(clear hK;clear hK;refine hK _ _ ?_)|(clear hK;clear hK;clear hK;refine hK _ _ ?_));clear hK;try simp only[pst0,simprocAttr])|(rw[if_pos];rotate_left 1;omega;simp(maxSteps:=2000000) only[Ty.w,simprocAttr,b1]))
  rw[this];exact⟨rfl,Grow.refl _⟩
 |false=>
  have hpos:0<s.size:=by
   rcases Nat.eq_zero_or_pos s.size with h0|h0
   ·rw [h0]at hsl;have:=List.eq_nil_of_length_eq_zero hsl;rw[this]at b1;simp at b1
   ·exact h0
  cases b2:decide ((s.size:Int)>32)with
  |true=>
   have:lowS s=(⟨#[]⟩,false):=by
    unfold lowS;rw[if_neg];simp at b2;omega
   refine pcall_body (ow:=fun _=>false) (wf:=fun _=>false) Ty.mixed Tryz.func101 rfl Ty.hb_101 (by rw[Tryz.ntmps101];simp) ?_;rw[Tryz.ntmps101,Tryz.results101];(repeat'(first|refine a_seq fun K hK=>?_|(refine a_block ?_)|((first|refine a_regionS ?_|refine a_region (fun K hK=>?_)|refine a_ret ?_);simp(maxSteps:=2000000) only[Ty.w,simprocAttr,b1,b2])|((first|refine a_skip ?_|refine a_exit ?_);try simp only[pst0,simprocAttr])|(refine a_cond _ (by(try simp(maxSteps:=2000000) only[Ty.w,simprocAttr,b1,b2]);rfl) (fun hb=>?_) (fun hb=>?_)<;>(try simp only[hb0,decide_eq_true_eq,decide_eq_false_iff_not,simprocAttr]at hb)<;>(try(exfalso;omega)))|(with_reducible refine ite_in (fun hb=>?_) (fun hb=>?_)<;>(try simp only[Decidable.not_not]at hb)<;>(try simp only[hb,if_true,if_false,not_false_eq_true,not_true_eq_false, ↓reduceIte])<;>(try simp only[hb0,decide_eq_true_eq,decide_eq_false_iff_not,simprocAttr]at hb)<;>(try(exfalso;omega)))|((first|refine hK _ _ ?_|(clear hK;refine hK _ _ ?_)|(clear hK;clear hK;refine hK _ _ ?_)|(clear hK;clear hK;clear hK;refine hK _ _ ?_));clear hK;try simp only[pst0,simprocAttr])|(rw[if_pos];rotate_left 1;omega;simp(maxSteps:=2000000) only[Ty.w,simprocAttr,b1,b2])));rw[this];exact⟨rfl,Grow.refl _⟩
  |false=>
   have h32:s.size≤32:=(by simp at b2;omega);have hsz:s.size≤140737488355328:=(by omega);have hS:lowS s=(match lowL s.data.toList with|some l=>(⟨l.toArray⟩,true)|none=>(⟨#[]⟩,false)):=(by unfold lowS;rw[if_pos ⟨hpos,h32⟩];try rfl);refine pcall_body (ow:=fun t=>t==15) (wf:=fun _=>false) Ty.mixed Tryz.func101 rfl Ty.hb_101 (by rw[Tryz.ntmps101];simp) ?_;rw[Tryz.ntmps101,Tryz.results101];(repeat'(first|refine a_seq fun K hK=>?_|(refine a_block ?_)|((first|refine a_regionS ?_|refine a_region (fun K hK=>?_)|refine a_ret ?_);simp(maxSteps:=2000000) only[Ty.w,simprocAttr,b1,b2,hsz])|((first|refine a_skip ?_|refine a_exit ?_);try simp only[pst0,simprocAttr])|(refine a_cond _ (by(try simp(maxSteps:=2000000) only[Ty.w,simprocAttr,b1,b2,hsz]);rfl) (fun hb=>?_) (fun hb=>?_)<;>(try simp only[hb0,decide_eq_true_eq,decide_eq_false_iff_not,simprocAttr]at hb)<;>(try(exfalso;omega)))|(with_reducible refine ite_in (fun hb=>?_) (fun hb=>?_)<;>(try simp only[Decidable.not_not]at hb)<;>(try simp only[hb,if_true,if_false,not_false_eq_true,not_true_eq_false, ↓reduceIte])<;>(try simp only[hb0,decide_eq_true_eq,decide_eq_false_iff_not,simprocAttr]at hb)<;>(try(exfalso;omega)))|((first|refine hK _ _ ?_|(clear hK;refine hK _ _ ?_)|(clear hK;clear hK;refine hK _ _ ?_)|(clear hK;clear hK;clear hK;refine hK _ _ ?_));clear hK;try simp only[pst0,simprocAttr])|(rw[if_pos];rotate_left 1;omega;simp(maxSteps:=2000000) only[Ty.w,simprocAttr,b1,b2,hsz])));refine a_loop (fun m S h'=>S 4= .own h.next 0 s.data.toList.length∧S 16= .own h.next 0 s.data.toList.length∧S 17= .sc (.int .i64 s.data.toList.length)∧ ∃ k:Nat,S 18= .sc (.int .i64 k)∧k≤s.data.toList.length∧m=s.data.toList.length-k∧LowI h s.data.toList k h') s.data.toList.length ?_ ?_
   ·simp only[Ty.w,simprocAttr];refine⟨0,rfl,by omega,rfl,(Grow.refl h).new _,[],rfl,?_⟩;simp[Heap.new]
   ·rintro m S h' ⟨g4,g16,g17,k,g18,hk,rfl,hI⟩;by_cases hlt:k<s.data.toList.length
    ·have hd:decide ((k:Int)<(s.data.toList.length:Int))=true:=(by simp;omega);have w7:IntKind.i64.wrap ((k:Int)+1)=k+1:=(by rw[wrap64 (by omega) (by omega)]);obtain⟨c,hx⟩: ∃ c,s.data.toList[k]? =some c:=⟨_,List.getElem?_eq_getElem hlt⟩;obtain⟨p,hp,ho⟩:=hI.ex;have hpl:=lowL_len hp;rw[List.length_take]at hpl;have hgr:=hI.grow;have hlen:(bytesR (p++s.data.toList.drop k)).length=s.data.toList.length:=(by rw[bytesR_len,List.length_append,List.length_drop];omega);have hr:(bytesR (p++s.data.toList.drop k))[k]? =some [.sc (.int .u8 c.toNat)]:=by
      refine bytesR_get ?_;rw[List.getElem?_append_right (by omega),List.getElem?_drop,show k+(k-p.length)=k by omega];exact hx
     have bad:lowB c=none→PV.tup [.sc (.string ⟨#[]⟩),.sc (.bool false)]= .tup [sPV (lowS s).1,.sc (.bool (lowS s).2)]:=fun e=>(by rw[hS,lowL_none hx e]);generalize hrows:bytesR (p++s.data.toList.drop k)=rows at ho hlen hr;have hho:=ho;rcases byte_cls5 c with⟨hup,hlet,a1,a3⟩|⟨hup,a1,a2⟩|⟨hup,hlet,a1,a2,a3⟩|⟨hup,hlet,a1,a2,a3,a4⟩|⟨hup,hlet,a1,a2,a3,a4⟩
     ·cases hg:digB c with
      |true=>
       have hw:wB c=true:=(by simp[wB,hg]);(repeat'(first|refine a_seq fun K hK=>?_|(refine a_block ?_)|((first|refine a_regionS ?_|refine a_region (fun K hK=>?_)|refine a_ret ?_);simp(maxSteps:=2000000) only[Ty.w,simprocAttr,g4,g16,g17,g18,hd,hho,hlen,hr,hlt,Nat.zero_add,a1,a3])|((first|refine a_skip ?_|refine a_exit ?_);try simp only[pst0,simprocAttr])|(refine a_cond _ (by(try simp(maxSteps:=2000000) only[Ty.w,simprocAttr,g4,g16,g17,g18,hd,hho,hlen,hr,hlt,Nat.zero_add,a1,a3]);rfl) (fun hb=>?_) (fun hb=>?_)<;>(try simp only[hb0,decide_eq_true_eq,decide_eq_false_iff_not,simprocAttr]at hb)<;>(try(exfalso;omega)))|(with_reducible refine ite_in (fun hb=>?_) (fun hb=>?_)<;>(try simp only[Decidable.not_not]at hb)<;>(try simp only[hb,if_true,if_false,not_false_eq_true,not_true_eq_false, ↓reduceIte])<;>(try simp only[hb0,decide_eq_true_eq,decide_eq_false_iff_not,simprocAttr]at hb)<;>(try(exfalso;omega)))|((first|refine hK _ _ ?_|(clear hK;refine hK _ _ ?_)|(clear hK;clear hK;refine hK _ _ ?_)|(clear hK;clear hK;clear hK;refine hK _ _ ?_));clear hK;try simp only[pst0,simprocAttr])|(rw[if_pos];rotate_left 1;omega;simp(maxSteps:=2000000) only[Ty.w,simprocAttr,g4,g16,g17,g18,hd,hho,hlen,hr,hlt,Nat.zero_add,a1,a3])));refine owp_useQ (digit_c (c:=c)) (by(try simp only[Ty.w,simprocAttr,g4,g16,g17,g18,hd,hho,hlen,hr,hlt,Nat.zero_add,a1,a3,hg]);try rfl) ?_;simp(maxSteps:=2000000) only[Ty.w,simprocAttr,g4,g16,g17,g18,hd,hho,hlen,hr,hlt,Nat.zero_add,a1,a3,hg];(repeat'(first|refine a_seq fun K hK=>?_|(refine a_block ?_)|((first|refine a_regionS ?_|refine a_region (fun K hK=>?_)|refine a_ret ?_);simp(maxSteps:=2000000) only[Ty.w,simprocAttr,g4,g16,g17,g18,hd,hho,hlen,hr,hlt,Nat.zero_add,a1,a3,hg,w7])|((first|refine a_skip ?_|refine a_exit ?_);try simp only[pst0,simprocAttr])|(refine a_cond _ (by(try simp(maxSteps:=2000000) only[Ty.w,simprocAttr,g4,g16,g17,g18,hd,hho,hlen,hr,hlt,Nat.zero_add,a1,a3,hg,w7]);rfl) (fun hb=>?_) (fun hb=>?_)<;>(try simp only[hb0,decide_eq_true_eq,decide_eq_false_iff_not,simprocAttr]at hb)<;>(try(exfalso;omega)))|(with_reducible refine ite_in (fun hb=>?_) (fun hb=>?_)<;>(try simp only[Decidable.not_not]at hb)<;>(try simp only[hb,if_true,if_false,not_false_eq_true,not_true_eq_false, ↓reduceIte])<;>(try simp only[hb0,decide_eq_true_eq,decide_eq_false_iff_not,simprocAttr]at hb)<;>(try(exfalso;omega)))|((first|refine hK _ _ ?_|(clear hK;refine hK _ _ ?_)|(clear hK;clear hK;refine hK _ _ ?_)|(clear hK;clear hK;clear hK;refine hK _ _ ?_));clear hK;try simp only[pst0,simprocAttr])|(rw[if_pos];rotate_left 1;omega;simp(maxSteps:=2000000) only[Ty.w,simprocAttr,g4,g16,g17,g18,hd,hho,hlen,hr,hlt,Nat.zero_add,a1,a3,hg,w7])));exact⟨s.data.toList.length-(k+1),by omega,k+1,by simp,by omega,rfl,hI.keep hx (by simp[lowB,hup,hw])⟩
      |false=>
       cases hs2:signs.contains c with
       |true=>
        have hw:wB c=true:=(by simp only[wB,hs2,Bool.or_true]);have hfi:decide (firstIdx ⟨#[45,95,63,58,60,62,61,43,42]⟩ c≥0)=true:=(by rw[firstIdx_ge];exact hs2);(repeat'(first|refine a_seq fun K hK=>?_|(refine a_block ?_)|((first|refine a_regionS ?_|refine a_region (fun K hK=>?_)|refine a_ret ?_);simp(maxSteps:=2000000) only[Ty.w,simprocAttr,g4,g16,g17,g18,hd,hho,hlen,hr,hlt,Nat.zero_add,a1,a3])|((first|refine a_skip ?_|refine a_exit ?_);try simp only[pst0,simprocAttr])|(refine a_cond _ (by(try simp(maxSteps:=2000000) only[Ty.w,simprocAttr,g4,g16,g17,g18,hd,hho,hlen,hr,hlt,Nat.zero_add,a1,a3]);rfl) (fun hb=>?_) (fun hb=>?_)<;>(try simp only[hb0,decide_eq_true_eq,decide_eq_false_iff_not,simprocAttr]at hb)<;>(try(exfalso;omega)))|(with_reducible refine ite_in (fun hb=>?_) (fun hb=>?_)<;>(try simp only[Decidable.not_not]at hb)<;>(try simp only[hb,if_true,if_false,not_false_eq_true,not_true_eq_false, ↓reduceIte])<;>(try simp only[hb0,decide_eq_true_eq,decide_eq_false_iff_not,simprocAttr]at hb)<;>(try(exfalso;omega)))|((first|refine hK _ _ ?_|(clear hK;refine hK _ _ ?_)|(clear hK;clear hK;refine hK _ _ ?_)|(clear hK;clear hK;clear hK;refine hK _ _ ?_));clear hK;try simp only[pst0,simprocAttr])|(rw[if_pos];rotate_left 1;omega;simp(maxSteps:=2000000) only[Ty.w,simprocAttr,g4,g16,g17,g18,hd,hho,hlen,hr,hlt,Nat.zero_add,a1,a3])));refine owp_useQ (digit_c (c:=c)) (by(try simp only[Ty.w,simprocAttr,g4,g16,g17,g18,hd,hho,hlen,hr,hlt,Nat.zero_add,a1,a3,hg]);try rfl) ?_;simp(maxSteps:=2000000) only[Ty.w,simprocAttr,g4,g16,g17,g18,hd,hho,hlen,hr,hlt,Nat.zero_add,a1,a3,hg];(repeat'(first|refine a_seq fun K hK=>?_|(refine a_block ?_)|((first|refine a_regionS ?_|refine a_region (fun K hK=>?_)|refine a_ret ?_);simp(maxSteps:=2000000) only[Ty.w,simprocAttr,g4,g16,g17,g18,hd,hho,hlen,hr,hlt,Nat.zero_add,a1,a3,hg])|((first|refine a_skip ?_|refine a_exit ?_);try simp only[pst0,simprocAttr])|(refine a_cond _ (by(try simp(maxSteps:=2000000) only[Ty.w,simprocAttr,g4,g16,g17,g18,hd,hho,hlen,hr,hlt,Nat.zero_add,a1,a3,hg]);rfl) (fun hb=>?_) (fun hb=>?_)<;>(try simp only[hb0,decide_eq_true_eq,decide_eq_false_iff_not,simprocAttr]at hb)<;>(try(exfalso;omega)))|(with_reducible refine ite_in (fun hb=>?_) (fun hb=>?_)<;>(try simp only[Decidable.not_not]at hb)<;>(try simp only[hb,if_true,if_false,not_false_eq_true,not_true_eq_false, ↓reduceIte])<;>(try simp only[hb0,decide_eq_true_eq,decide_eq_false_iff_not,simprocAttr]at hb)<;>(try(exfalso;omega)))|((first|refine hK _ _ ?_|(clear hK;refine hK _ _ ?_)|(clear hK;clear hK;refine hK _ _ ?_)|(clear hK;clear hK;clear hK;refine hK _ _ ?_));clear hK;try simp only[pst0,simprocAttr])|(rw[if_pos];rotate_left 1;omega;simp(maxSteps:=2000000) only[Ty.w,simprocAttr,g4,g16,g17,g18,hd,hho,hlen,hr,hlt,Nat.zero_add,a1,a3,hg])));refine owp_useQ (indexByte_c (s:=⟨#[45,95,63,58,60,62,61,43,42]⟩) (c:=c)) (by(try simp only[Ty.w,simprocAttr,g4,g16,g17,g18,hd,hho,hlen,hr,hlt,Nat.zero_add,a1,a3,hg,hfi]);try rfl) ?_;simp(maxSteps:=2000000) only[Ty.w,simprocAttr,g4,g16,g17,g18,hd,hho,hlen,hr,hlt,Nat.zero_add,a1,a3,hg,hfi]
        (repeat'(first|refine a_seq fun K hK=>?_|(refine a_block ?_)|((first|refine a_regionS ?_|refine a_region (fun K hK=>?_)|refine a_ret ?_);simp(maxSteps:=2000000) only[Ty.w,simprocAttr,g4,g16,g17,g18,hd,hho,hlen,hr,hlt,Nat.zero_add,a1,a3,hg,hfi,w7])|((first|refine a_skip ?_|refine a_exit ?_);try simp only[pst0,simprocAttr])|(refine a_cond _ (by(try simp(maxSteps:=2000000) only[Ty.w,simprocAttr,g4,g16,g17,g18,hd,hho,hlen,hr,hlt,Nat.zero_add,a1,a3,hg,hfi,w7]);rfl) (fun hb=>?_) (fun hb=>?_)<;>(try simp only[hb0,decide_eq_true_eq,decide_eq_false_iff_not,simprocAttr]at hb)<;>(try(exfalso;omega)))|(with_reducible refine ite_in (fun hb=>?_) (fun hb=>?_)<;>(try simp only[Decidable.not_not]at hb)<;>(try simp only[hb,if_true,if_false,not_false_eq_true,not_true_eq_false, ↓reduceIte])<;>(try simp only[hb0,decide_eq_true_eq,decide_eq_false_iff_not,simprocAttr]at hb)<;>(try(exfalso;omega)))|((first|refine hK _ _ ?_|(clear hK;refine hK _ _ ?_)|(clear hK;clear hK;refine hK _ _ ?_)|(clear hK;clear hK;clear hK;refine hK _ _ ?_));clear hK;try simp only[pst0,simprocAttr])|(rw[if_pos];rotate_left 1;omega;simp(maxSteps:=2000000) only[Ty.w,simprocAttr,g4,g16,g17,g18,hd,hho,hlen,hr,hlt,Nat.zero_add,a1,a3,hg,hfi,w7])));exact⟨s.data.toList.length-(k+1),by omega,k+1,by simp,by omega,rfl,hI.keep hx (by simp[lowB,hup,hw])⟩
       |false=>
        have hw:wB c=false:=(by simp only[wB,hs2,hg,hlet,Bool.or_false]);have hfi:decide (firstIdx ⟨#[45,95,63,58,60,62,61,43,42]⟩ c≥0)=false:=(by rw[firstIdx_ge];exact hs2);(repeat'(first|refine a_seq fun K hK=>?_|(refine a_block ?_)|((first|refine a_regionS ?_|refine a_region (fun K hK=>?_)|refine a_ret ?_);simp(maxSteps:=2000000) only[Ty.w,simprocAttr,g4,g16,g17,g18,hd,hho,hlen,hr,hlt,Nat.zero_add,a1,a3])|((first|refine a_skip ?_|refine a_exit ?_);try simp only[pst0,simprocAttr])|(refine a_cond _ (by(try simp(maxSteps:=2000000) only[Ty.w,simprocAttr,g4,g16,g17,g18,hd,hho,hlen,hr,hlt,Nat.zero_add,a1,a3]);rfl) (fun hb=>?_) (fun hb=>?_)<;>(try simp only[hb0,decide_eq_true_eq,decide_eq_false_iff_not,simprocAttr]at hb)<;>(try(exfalso;omega)))|(with_reducible refine ite_in (fun hb=>?_) (fun hb=>?_)<;>(try simp only[Decidable.not_not]at hb)<;>(try simp only[hb,if_true,if_false,not_false_eq_true,not_true_eq_false, ↓reduceIte])<;>(try simp only[hb0,decide_eq_true_eq,decide_eq_false_iff_not,simprocAttr]at hb)<;>(try(exfalso;omega)))|((first|refine hK _ _ ?_|(clear hK;refine hK _ _ ?_)|(clear hK;clear hK;refine hK _ _ ?_)|(clear hK;clear hK;clear hK;refine hK _ _ ?_));clear hK;try simp only[pst0,simprocAttr])|(rw[if_pos];rotate_left 1;omega;simp(maxSteps:=2000000) only[Ty.w,simprocAttr,g4,g16,g17,g18,hd,hho,hlen,hr,hlt,Nat.zero_add,a1,a3])));refine owp_useQ (digit_c (c:=c)) (by(try simp only[Ty.w,simprocAttr,g4,g16,g17,g18,hd,hho,hlen,hr,hlt,Nat.zero_add,a1,a3,hg]);try rfl) ?_;simp(maxSteps:=2000000) only[Ty.w,simprocAttr,g4,g16,g17,g18,hd,hho,hlen,hr,hlt,Nat.zero_add,a1,a3,hg];(repeat'(first|refine a_seq fun K hK=>?_|(refine a_block ?_)|((first|refine a_regionS ?_|refine a_region (fun K hK=>?_)|refine a_ret ?_);simp(maxSteps:=2000000) only[Ty.w,simprocAttr,g4,g16,g17,g18,hd,hho,hlen,hr,hlt,Nat.zero_add,a1,a3,hg])|((first|refine a_skip ?_|refine a_exit ?_);try simp only[pst0,simprocAttr])|(refine a_cond _ (by(try simp(maxSteps:=2000000) only[Ty.w,simprocAttr,g4,g16,g17,g18,hd,hho,hlen,hr,hlt,Nat.zero_add,a1,a3,hg]);rfl) (fun hb=>?_) (fun hb=>?_)<;>(try simp only[hb0,decide_eq_true_eq,decide_eq_false_iff_not,simprocAttr]at hb)<;>(try(exfalso;omega)))|(with_reducible refine ite_in (fun hb=>?_) (fun hb=>?_)<;>(try simp only[Decidable.not_not]at hb)<;>(try simp only[hb,if_true,if_false,not_false_eq_true,not_true_eq_false, ↓reduceIte])<;>(try simp only[hb0,decide_eq_true_eq,decide_eq_false_iff_not,simprocAttr]at hb)<;>(try(exfalso;omega)))|((first|refine hK _ _ ?_|(clear hK;refine hK _ _ ?_)|(clear hK;clear hK;refine hK _ _ ?_)|(clear hK;clear hK;clear hK;refine hK _ _ ?_));clear hK;try simp only[pst0,simprocAttr])|(rw[if_pos];rotate_left 1;omega;simp(maxSteps:=2000000) only[Ty.w,simprocAttr,g4,g16,g17,g18,hd,hho,hlen,hr,hlt,Nat.zero_add,a1,a3,hg])));refine owp_useQ (indexByte_c (s:=⟨#[45,95,63,58,60,62,61,43,42]⟩) (c:=c)) (by(try simp only[Ty.w,simprocAttr,g4,g16,g17,g18,hd,hho,hlen,hr,hlt,Nat.zero_add,a1,a3,hg,hfi]);try rfl) ?_;simp(maxSteps:=2000000) only[Ty.w,simprocAttr,g4,g16,g17,g18,hd,hho,hlen,hr,hlt,Nat.zero_add,a1,a3,hg,hfi]
        (repeat'(first|refine a_seq fun K hK=>?_|(refine a_block ?_)|((first|refine a_regionS ?_|refine a_region (fun K hK=>?_)|refine a_ret ?_);simp(maxSteps:=2000000) only[Ty.w,simprocAttr,g4,g16,g17,g18,hd,hho,hlen,hr,hlt,Nat.zero_add,a1,a3,hg,hfi])|((first|refine a_skip ?_|refine a_exit ?_);try simp only[pst0,simprocAttr])|(refine a_cond _ (by(try simp(maxSteps:=2000000) only[Ty.w,simprocAttr,g4,g16,g17,g18,hd,hho,hlen,hr,hlt,Nat.zero_add,a1,a3,hg,hfi]);rfl) (fun hb=>?_) (fun hb=>?_)<;>(try simp only[hb0,decide_eq_true_eq,decide_eq_false_iff_not,simprocAttr]at hb)<;>(try(exfalso;omega)))|(with_reducible refine ite_in (fun hb=>?_) (fun hb=>?_)<;>(try simp only[Decidable.not_not]at hb)<;>(try simp only[hb,if_true,if_false,not_false_eq_true,not_true_eq_false, ↓reduceIte])<;>(try simp only[hb0,decide_eq_true_eq,decide_eq_false_iff_not,simprocAttr]at hb)<;>(try(exfalso;omega)))|((first|refine hK _ _ ?_|(clear hK;refine hK _ _ ?_)|(clear hK;clear hK;refine hK _ _ ?_)|(clear hK;clear hK;clear hK;refine hK _ _ ?_));clear hK;try simp only[pst0,simprocAttr])|(rw[if_pos];rotate_left 1;omega;simp(maxSteps:=2000000) only[Ty.w,simprocAttr,g4,g16,g17,g18,hd,hho,hlen,hr,hlt,Nat.zero_add,a1,a3,hg,hfi])));exact⟨bad (by simp[lowB,hup,hw]),hgr⟩
     ·have hu:65≤c.toNat∧c.toNat≤90:=(by simpa[upB]using hup);have hadd:(c+32).toNat=c.toNat+32:=(by rw[UInt8.toNat_add];simp;omega);have w1:IntKind.u8.wrap ((c.toNat:Int)+97)=(c.toNat:Int)+97:=u8w _ (by omega) (by omega);have w2:IntKind.u8.wrap ((c.toNat:Int)+97-65)=((c+32).toNat:Int):=(by rw[u8w _ (by omega) (by omega),hadd];omega);(repeat'(first|refine a_seq fun K hK=>?_|(refine a_block ?_)|((first|refine a_regionS ?_|refine a_region (fun K hK=>?_)|refine a_ret ?_);simp(maxSteps:=2000000) only[Ty.w,simprocAttr,g4,g16,g17,g18,hd,hho,hlen,hr,hlt,a1,a2,w1,w2,w7,Nat.zero_add])|((first|refine a_skip ?_|refine a_exit ?_);try simp only[pst0,simprocAttr])|(refine a_cond _ (by(try simp(maxSteps:=2000000) only[Ty.w,simprocAttr,g4,g16,g17,g18,hd,hho,hlen,hr,hlt,a1,a2,w1,w2,w7,Nat.zero_add]);rfl) (fun hb=>?_) (fun hb=>?_)<;>(try simp only[hb0,decide_eq_true_eq,decide_eq_false_iff_not,simprocAttr]at hb)<;>(try(exfalso;omega)))|(with_reducible refine ite_in (fun hb=>?_) (fun hb=>?_)<;>(try simp only[Decidable.not_not]at hb)<;>(try simp only[hb,if_true,if_false,not_false_eq_true,not_true_eq_false, ↓reduceIte])<;>(try simp only[hb0,decide_eq_true_eq,decide_eq_false_iff_not,simprocAttr]at hb)<;>(try(exfalso;omega)))|((first|refine hK _ _ ?_|(clear hK;refine hK _ _ ?_)|(clear hK;clear hK;refine hK _ _ ?_)|(clear hK;clear hK;clear hK;refine hK _ _ ?_));clear hK;try simp only[pst0,simprocAttr])|(rw[if_pos];rotate_left 1;omega;simp(maxSteps:=2000000) only[Ty.w,simprocAttr,g4,g16,g17,g18,hd,hho,hlen,hr,hlt,a1,a2,w1,w2,w7,Nat.zero_add])));exact⟨s.data.toList.length-(k+1),by omega,k+1,by simp,by omega,rfl,hI.put hx (by simp[lowB,hup]) ho⟩
     ·cases hg:digB c with
      |true=>
       have hw:wB c=true:=(by simp[wB,hg]);(repeat'(first|refine a_seq fun K hK=>?_|(refine a_block ?_)|((first|refine a_regionS ?_|refine a_region (fun K hK=>?_)|refine a_ret ?_);simp(maxSteps:=2000000) only[Ty.w,simprocAttr,g4,g16,g17,g18,hd,hho,hlen,hr,hlt,Nat.zero_add,a1,a2,a3])|((first|refine a_skip ?_|refine a_exit ?_);try simp only[pst0,simprocAttr])|(refine a_cond _ (by(try simp(maxSteps:=2000000) only[Ty.w,simprocAttr,g4,g16,g17,g18,hd,hho,hlen,hr,hlt,Nat.zero_add,a1,a2,a3]);rfl) (fun hb=>?_) (fun hb=>?_)<;>(try simp only[hb0,decide_eq_true_eq,decide_eq_false_iff_not,simprocAttr]at hb)<;>(try(exfalso;omega)))|(with_reducible refine ite_in (fun hb=>?_) (fun hb=>?_)<;>(try simp only[Decidable.not_not]at hb)<;>(try simp only[hb,if_true,if_false,not_false_eq_true,not_true_eq_false, ↓reduceIte])<;>(try simp only[hb0,decide_eq_true_eq,decide_eq_false_iff_not,simprocAttr]at hb)<;>(try(exfalso;omega)))|((first|refine hK _ _ ?_|(clear hK;refine hK _ _ ?_)|(clear hK;clear hK;refine hK _ _ ?_)|(clear hK;clear hK;clear hK;refine hK _ _ ?_));clear hK;try simp only[pst0,simprocAttr])|(rw[if_pos];rotate_left 1;omega;simp(maxSteps:=2000000) only[Ty.w,simprocAttr,g4,g16,g17,g18,hd,hho,hlen,hr,hlt,Nat.zero_add,a1,a2,a3])));refine owp_useQ (digit_c (c:=c)) (by(try simp only[Ty.w,simprocAttr,g4,g16,g17,g18,hd,hho,hlen,hr,hlt,Nat.zero_add,a1,a2,a3,hg]);try rfl) ?_;simp(maxSteps:=2000000) only[Ty.w,simprocAttr,g4,g16,g17,g18,hd,hho,hlen,hr,hlt,Nat.zero_add,a1,a2,a3,hg];(repeat'(first|refine a_seq fun K hK=>?_|(refine a_block ?_)|((first|refine a_regionS ?_|refine a_region (fun K hK=>?_)|refine a_ret ?_);simp(maxSteps:=2000000) only[Ty.w,simprocAttr,g4,g16,g17,g18,hd,hho,hlen,hr,hlt,Nat.zero_add,a1,a2,a3,hg,w7])|((first|refine a_skip ?_|refine a_exit ?_);try simp only[pst0,simprocAttr])|(refine a_cond _ (by(try simp(maxSteps:=2000000) only[Ty.w,simprocAttr,g4,g16,g17,g18,hd,hho,hlen,hr,hlt,Nat.zero_add,a1,a2,a3,hg,w7]);rfl) (fun hb=>?_) (fun hb=>?_)<;>(try simp only[hb0,decide_eq_true_eq,decide_eq_false_iff_not,simprocAttr]at hb)<;>(try(exfalso;omega)))|(with_reducible refine ite_in (fun hb=>?_) (fun hb=>?_)<;>(try simp only[Decidable.not_not]at hb)<;>(try simp only[hb,if_true,if_false,not_false_eq_true,not_true_eq_false, ↓reduceIte])<;>(try simp only[hb0,decide_eq_true_eq,decide_eq_false_iff_not,simprocAttr]at hb)<;>(try(exfalso;omega)))|((first|refine hK _ _ ?_|(clear hK;refine hK _ _ ?_)|(clear hK;clear hK;refine hK _ _ ?_)|(clear hK;clear hK;clear hK;refine hK _ _ ?_));clear hK;try simp only[pst0,simprocAttr])|(rw[if_pos];rotate_left 1;omega;simp(maxSteps:=2000000) only[Ty.w,simprocAttr,g4,g16,g17,g18,hd,hho,hlen,hr,hlt,Nat.zero_add,a1,a2,a3,hg,w7])));exact⟨s.data.toList.length-(k+1),by omega,k+1,by simp,by omega,rfl,hI.keep hx (by simp[lowB,hup,hw])⟩
      |false=>
       cases hs2:signs.contains c with
       |true=>
        have hw:wB c=true:=(by simp only[wB,hs2,Bool.or_true]);have hfi:decide (firstIdx ⟨#[45,95,63,58,60,62,61,43,42]⟩ c≥0)=true:=(by rw[firstIdx_ge];exact hs2);(repeat'(first|refine a_seq fun K hK=>?_|(refine a_block ?_)|((first|refine a_regionS ?_|refine a_region (fun K hK=>?_)|refine a_ret ?_);simp(maxSteps:=2000000) only[Ty.w,simprocAttr,g4,g16,g17,g18,hd,hho,hlen,hr,hlt,Nat.zero_add,a1,a2,a3])|((first|refine a_skip ?_|refine a_exit ?_);try simp only[pst0,simprocAttr])|(refine a_cond _ (by(try simp(maxSteps:=2000000) only[Ty.w,simprocAttr,g4,g16,g17,g18,hd,hho,hlen,hr,hlt,Nat.zero_add,a1,a2,a3]);rfl) (fun hb=>?_) (fun hb=>?_)<;>(try simp only[hb0,decide_eq_true_eq,decide_eq_false_iff_not,simprocAttr]at hb)<;>(try(exfalso;omega)))|(with_reducible refine ite_in (fun hb=>?_) (fun hb=>?_)<;>(try simp only[Decidable.not_not]at hb)<;>(try simp only[hb,if_true,if_false,not_false_eq_true,not_true_eq_false, ↓reduceIte])<;>(try simp only[hb0,decide_eq_true_eq,decide_eq_false_iff_not,simprocAttr]at hb)<;>(try(exfalso;omega)))|((first|refine hK _ _ ?_|(clear hK;refine hK _ _ ?_)|(clear hK;clear hK;refine hK _ _ ?_)|(clear hK;clear hK;clear hK;refine hK _ _ ?_));clear hK;try simp only[pst0,simprocAttr])|(rw[if_pos];rotate_left 1;omega;simp(maxSteps:=2000000) only[Ty.w,simprocAttr,g4,g16,g17,g18,hd,hho,hlen,hr,hlt,Nat.zero_add,a1,a2,a3])));refine owp_useQ (digit_c (c:=c)) (by(try simp only[Ty.w,simprocAttr,g4,g16,g17,g18,hd,hho,hlen,hr,hlt,Nat.zero_add,a1,a2,a3,hg]);try rfl) ?_;simp(maxSteps:=2000000) only[Ty.w,simprocAttr,g4,g16,g17,g18,hd,hho,hlen,hr,hlt,Nat.zero_add,a1,a2,a3,hg];(repeat'(first|refine a_seq fun K hK=>?_|(refine a_block ?_)|((first|refine a_regionS ?_|refine a_region (fun K hK=>?_)|refine a_ret ?_);simp(maxSteps:=2000000) only[Ty.w,simprocAttr,g4,g16,g17,g18,hd,hho,hlen,hr,hlt,Nat.zero_add,a1,a2,a3,hg])|((first|refine a_skip ?_|refine a_exit ?_);try simp only[pst0,simprocAttr])|(refine a_cond _ (by(try simp(maxSteps:=2000000) only[Ty.w,simprocAttr,g4,g16,g17,g18,hd,hho,hlen,hr,hlt,Nat.zero_add,a1,a2,a3,hg]);rfl) (fun hb=>?_) (fun hb=>?_)<;>(try simp only[hb0,decide_eq_true_eq,decide_eq_false_iff_not,simprocAttr]at hb)<;>(try(exfalso;omega)))|(with_reducible refine ite_in (fun hb=>?_) (fun hb=>?_)<;>(try simp only[Decidable.not_not]at hb)<;>(try simp only[hb,if_true,if_false,not_false_eq_true,not_true_eq_false, ↓reduceIte])<;>(try simp only[hb0,decide_eq_true_eq,decide_eq_false_iff_not,simprocAttr]at hb)<;>(try(exfalso;omega)))|((first|refine hK _ _ ?_|(clear hK;refine hK _ _ ?_)|(clear hK;clear hK;refine hK _ _ ?_)|(clear hK;clear hK;clear hK;refine hK _ _ ?_));clear hK;try simp only[pst0,simprocAttr])|(rw[if_pos];rotate_left 1;omega;simp(maxSteps:=2000000) only[Ty.w,simprocAttr,g4,g16,g17,g18,hd,hho,hlen,hr,hlt,Nat.zero_add,a1,a2,a3,hg])));refine owp_useQ (indexByte_c (s:=⟨#[45,95,63,58,60,62,61,43,42]⟩) (c:=c)) (by(try simp only[Ty.w,simprocAttr,g4,g16,g17,g18,hd,hho,hlen,hr,hlt,Nat.zero_add,a1,a2,a3,hg,hfi]);try rfl) ?_;simp(maxSteps:=2000000) only[Ty.w,simprocAttr,g4,g16,g17,g18,hd,hho,hlen,hr,hlt,Nat.zero_add,a1,a2,a3,hg,hfi]
        (repeat'(first|refine a_seq fun K hK=>?_|(refine a_block ?_)|((first|refine a_regionS ?_|refine a_region (fun K hK=>?_)|refine a_ret ?_);simp(maxSteps:=2000000) only[Ty.w,simprocAttr,g4,g16,g17,g18,hd,hho,hlen,hr,hlt,Nat.zero_add,a1,a2,a3,hg,hfi,w7])|((first|refine a_skip ?_|refine a_exit ?_);try simp only[pst0,simprocAttr])|(refine a_cond _ (by(try simp(maxSteps:=2000000) only[Ty.w,simprocAttr,g4,g16,g17,g18,hd,hho,hlen,hr,hlt,Nat.zero_add,a1,a2,a3,hg,hfi,w7]);rfl) (fun hb=>?_) (fun hb=>?_)<;>(try simp only[hb0,decide_eq_true_eq,decide_eq_false_iff_not,simprocAttr]at hb)<;>(try(exfalso;omega)))|(with_reducible refine ite_in (fun hb=>?_) (fun hb=>?_)<;>(try simp only[Decidable.not_not]at hb)<;>(try simp only[hb,if_true,if_false,not_false_eq_true,not_true_eq_false, ↓reduceIte])<;>(try simp only[hb0,decide_eq_true_eq,decide_eq_false_iff_not,simprocAttr]at hb)<;>(try(exfalso;omega)))|((first|refine hK _ _ ?_|(clear hK;refine hK _ _ ?_)|(clear hK;clear hK;refine hK _ _ ?_)|(clear hK;clear hK;clear hK;refine hK _ _ ?_));clear hK;try simp only[pst0,simprocAttr])|(rw[if_pos];rotate_left 1;omega;simp(maxSteps:=2000000) only[Ty.w,simprocAttr,g4,g16,g17,g18,hd,hho,hlen,hr,hlt,Nat.zero_add,a1,a2,a3,hg,hfi,w7])));exact⟨s.data.toList.length-(k+1),by omega,k+1,by simp,by omega,rfl,hI.keep hx (by simp[lowB,hup,hw])⟩
       |false=>
        have hw:wB c=false:=(by simp only[wB,hs2,hg,hlet,Bool.or_false]);have hfi:decide (firstIdx ⟨#[45,95,63,58,60,62,61,43,42]⟩ c≥0)=false:=(by rw[firstIdx_ge];exact hs2);(repeat'(first|refine a_seq fun K hK=>?_|(refine a_block ?_)|((first|refine a_regionS ?_|refine a_region (fun K hK=>?_)|refine a_ret ?_);simp(maxSteps:=2000000) only[Ty.w,simprocAttr,g4,g16,g17,g18,hd,hho,hlen,hr,hlt,Nat.zero_add,a1,a2,a3])|((first|refine a_skip ?_|refine a_exit ?_);try simp only[pst0,simprocAttr])|(refine a_cond _ (by(try simp(maxSteps:=2000000) only[Ty.w,simprocAttr,g4,g16,g17,g18,hd,hho,hlen,hr,hlt,Nat.zero_add,a1,a2,a3]);rfl) (fun hb=>?_) (fun hb=>?_)<;>(try simp only[hb0,decide_eq_true_eq,decide_eq_false_iff_not,simprocAttr]at hb)<;>(try(exfalso;omega)))|(with_reducible refine ite_in (fun hb=>?_) (fun hb=>?_)<;>(try simp only[Decidable.not_not]at hb)<;>(try simp only[hb,if_true,if_false,not_false_eq_true,not_true_eq_false, ↓reduceIte])<;>(try simp only[hb0,decide_eq_true_eq,decide_eq_false_iff_not,simprocAttr]at hb)<;>(try(exfalso;omega)))|((first|refine hK _ _ ?_|(clear hK;refine hK _ _ ?_)|(clear hK;clear hK;refine hK _ _ ?_)|(clear hK;clear hK;clear hK;refine hK _ _ ?_));clear hK;try simp only[pst0,simprocAttr])|(rw[if_pos];rotate_left 1;omega;simp(maxSteps:=2000000) only[Ty.w,simprocAttr,g4,g16,g17,g18,hd,hho,hlen,hr,hlt,Nat.zero_add,a1,a2,a3])));refine owp_useQ (digit_c (c:=c)) (by(try simp only[Ty.w,simprocAttr,g4,g16,g17,g18,hd,hho,hlen,hr,hlt,Nat.zero_add,a1,a2,a3,hg]);try rfl) ?_;simp(maxSteps:=2000000) only[Ty.w,simprocAttr,g4,g16,g17,g18,hd,hho,hlen,hr,hlt,Nat.zero_add,a1,a2,a3,hg];(repeat'(first|refine a_seq fun K hK=>?_|(refine a_block ?_)|((first|refine a_regionS ?_|refine a_region (fun K hK=>?_)|refine a_ret ?_);simp(maxSteps:=2000000) only[Ty.w,simprocAttr,g4,g16,g17,g18,hd,hho,hlen,hr,hlt,Nat.zero_add,a1,a2,a3,hg])|((first|refine a_skip ?_|refine a_exit ?_);try simp only[pst0,simprocAttr])|(refine a_cond _ (by(try simp(maxSteps:=2000000) only[Ty.w,simprocAttr,g4,g16,g17,g18,hd,hho,hlen,hr,hlt,Nat.zero_add,a1,a2,a3,hg]);rfl) (fun hb=>?_) (fun hb=>?_)<;>(try simp only[hb0,decide_eq_true_eq,decide_eq_false_iff_not,simprocAttr]at hb)<;>(try(exfalso;omega)))|(with_reducible refine ite_in (fun hb=>?_) (fun hb=>?_)<;>(try simp only[Decidable.not_not]at hb)<;>(try simp only[hb,if_true,if_false,not_false_eq_true,not_true_eq_false, ↓reduceIte])<;>(try simp only[hb0,decide_eq_true_eq,decide_eq_false_iff_not,simprocAttr]at hb)<;>(try(exfalso;omega)))|((first|refine hK _ _ ?_|(clear hK;refine hK _ _ ?_)|(clear hK;clear hK;refine hK _ _ ?_)|(clear hK;clear hK;clear hK;refine hK _ _ ?_));clear hK;try simp only[pst0,simprocAttr])|(rw[if_pos];rotate_left 1;omega;simp(maxSteps:=2000000) only[Ty.w,simprocAttr,g4,g16,g17,g18,hd,hho,hlen,hr,hlt,Nat.zero_add,a1,a2,a3,hg])));refine owp_useQ (indexByte_c (s:=⟨#[45,95,63,58,60,62,61,43,42]⟩) (c:=c)) (by(try simp only[Ty.w,simprocAttr,g4,g16,g17,g18,hd,hho,hlen,hr,hlt,Nat.zero_add,a1,a2,a3,hg,hfi]);try rfl) ?_;simp(maxSteps:=2000000) only[Ty.w,simprocAttr,g4,g16,g17,g18,hd,hho,hlen,hr,hlt,Nat.zero_add,a1,a2,a3,hg,hfi]
        (repeat'(first|refine a_seq fun K hK=>?_|(refine a_block ?_)|((first|refine a_regionS ?_|refine a_region (fun K hK=>?_)|refine a_ret ?_);simp(maxSteps:=2000000) only[Ty.w,simprocAttr,g4,g16,g17,g18,hd,hho,hlen,hr,hlt,Nat.zero_add,a1,a2,a3,hg,hfi])|((first|refine a_skip ?_|refine a_exit ?_);try simp only[pst0,simprocAttr])|(refine a_cond _ (by(try simp(maxSteps:=2000000) only[Ty.w,simprocAttr,g4,g16,g17,g18,hd,hho,hlen,hr,hlt,Nat.zero_add,a1,a2,a3,hg,hfi]);rfl) (fun hb=>?_) (fun hb=>?_)<;>(try simp only[hb0,decide_eq_true_eq,decide_eq_false_iff_not,simprocAttr]at hb)<;>(try(exfalso;omega)))|(with_reducible refine ite_in (fun hb=>?_) (fun hb=>?_)<;>(try simp only[Decidable.not_not]at hb)<;>(try simp only[hb,if_true,if_false,not_false_eq_true,not_true_eq_false, ↓reduceIte])<;>(try simp only[hb0,decide_eq_true_eq,decide_eq_false_iff_not,simprocAttr]at hb)<;>(try(exfalso;omega)))|((first|refine hK _ _ ?_|(clear hK;refine hK _ _ ?_)|(clear hK;clear hK;refine hK _ _ ?_)|(clear hK;clear hK;clear hK;refine hK _ _ ?_));clear hK;try simp only[pst0,simprocAttr])|(rw[if_pos];rotate_left 1;omega;simp(maxSteps:=2000000) only[Ty.w,simprocAttr,g4,g16,g17,g18,hd,hho,hlen,hr,hlt,Nat.zero_add,a1,a2,a3,hg,hfi])));exact⟨bad (by simp[lowB,hup,hw]),hgr⟩
     ·(repeat' (first|refine a_seq fun K hK=>?_|(refine a_block ?_)|((first|refine a_regionS ?_|refine a_region (fun K hK=>?_)|refine a_ret ?_);simp(maxSteps:=2000000) only[Ty.w,simprocAttr,g4,g16,g17,g18,hd,hho,hlen,hr,hlt,a1,a2,a3,a4,w7,Nat.zero_add])|((first|refine a_skip ?_|refine a_exit ?_);try simp only[pst0,simprocAttr])|(refine a_cond _ (by(try simp(maxSteps:=2000000) only[Ty.w,simprocAttr,g4,g16,g17,g18,hd,hho,hlen,hr,hlt,a1,a2,a3,a4,w7,Nat.zero_add]);rfl) (fun hb=>?_) (fun hb=>?_)<;>(try simp only[hb0,decide_eq_true_eq,decide_eq_false_iff_not,simprocAttr]at hb)<;>(try(exfalso;omega)))|(with_reducible refine ite_in (fun hb=>?_) (fun hb=>?_)<;>(try simp only[Decidable.not_not]at hb)<;>(try simp only[hb,if_true,if_false,not_false_eq_true,not_true_eq_false, ↓reduceIte])<;>(try simp only[hb0,decide_eq_true_eq,decide_eq_false_iff_not,simprocAttr]at hb)<;>(try(exfalso;omega)))|((first|refine hK _ _ ?_|(clear hK;refine hK _ _ ?_)|(clear hK;clear hK;refine hK _ _ ?_)|(clear hK;clear hK;clear hK;refine hK _ _ ?_));clear hK;try simp only[pst0,simprocAttr])|(rw[if_pos];rotate_left 1;omega;simp(maxSteps:=2000000) only[Ty.w,simprocAttr,g4,g16,g17,g18,hd,hho,hlen,hr,hlt,a1,a2,a3,a4,w7,Nat.zero_add])));exact⟨s.data.toList.length-(k+1),by omega,k+1,by simp,by omega,rfl,hI.keep hx (by simp[lowB,hup,wB,hlet])⟩
     ·cases hg:digB c with
      |true=>
       have hw:wB c=true:=(by simp[wB,hg]);(repeat'(first|refine a_seq fun K hK=>?_|(refine a_block ?_)|((first|refine a_regionS ?_|refine a_region (fun K hK=>?_)|refine a_ret ?_);simp(maxSteps:=2000000) only[Ty.w,simprocAttr,g4,g16,g17,g18,hd,hho,hlen,hr,hlt,Nat.zero_add,a1,a2,a3,a4])|((first|refine a_skip ?_|refine a_exit ?_);try simp only[pst0,simprocAttr])|(refine a_cond _ (by(try simp(maxSteps:=2000000) only[Ty.w,simprocAttr,g4,g16,g17,g18,hd,hho,hlen,hr,hlt,Nat.zero_add,a1,a2,a3,a4]);rfl) (fun hb=>?_) (fun hb=>?_)<;>(try simp only[hb0,decide_eq_true_eq,decide_eq_false_iff_not,simprocAttr]at hb)<;>(try(exfalso;omega)))|(with_reducible refine ite_in (fun hb=>?_) (fun hb=>?_)<;>(try simp only[Decidable.not_not]at hb)<;>(try simp only[hb,if_true,if_false,not_false_eq_true,not_true_eq_false, ↓reduceIte])<;>(try simp only[hb0,decide_eq_true_eq,decide_eq_false_iff_not,simprocAttr]at hb)<;>(try(exfalso;omega)))|((first|refine hK _ _ ?_|(clear hK;refine hK _ _ ?_)|(clear hK;clear hK;refine hK _ _ ?_)|(clear hK;clear hK;clear hK;refine hK _ _ ?_));clear hK;try simp only[pst0,simprocAttr])|(rw[if_pos];rotate_left 1;omega;simp(maxSteps:=2000000) only[Ty.w,simprocAttr,g4,g16,g17,g18,hd,hho,hlen,hr,hlt,Nat.zero_add,a1,a2,a3,a4])));refine owp_useQ (digit_c (c:=c)) (by(try simp only[Ty.w,simprocAttr,g4,g16,g17,g18,hd,hho,hlen,hr,hlt,Nat.zero_add,a1,a2,a3,a4,hg]);try rfl) ?_;simp(maxSteps:=2000000) only[Ty.w,simprocAttr,g4,g16,g17,g18,hd,hho,hlen,hr,hlt,Nat.zero_add,a1,a2,a3,a4,hg];(repeat'(first|refine a_seq fun K hK=>?_|(refine a_block ?_)|((first|refine a_regionS ?_|refine a_region (fun K hK=>?_)|refine a_ret ?_);simp(maxSteps:=2000000) only[Ty.w,simprocAttr,g4,g16,g17,g18,hd,hho,hlen,hr,hlt,Nat.zero_add,a1,a2,a3,a4,hg,w7])|((first|refine a_skip ?_|refine a_exit ?_);try simp only[pst0,simprocAttr])|(refine a_cond _ (by(try simp(maxSteps:=2000000) only[Ty.w,simprocAttr,g4,g16,g17,g18,hd,hho,hlen,hr,hlt,Nat.zero_add,a1,a2,a3,a4,hg,w7]);rfl) (fun hb=>?_) (fun hb=>?_)<;>(try simp only[hb0,decide_eq_true_eq,decide_eq_false_iff_not,simprocAttr]at hb)<;>(try(exfalso;omega)))|(with_reducible refine ite_in (fun hb=>?_) (fun hb=>?_)<;>(try simp only[Decidable.not_not]at hb)<;>(try simp only[hb,if_true,if_false,not_false_eq_true,not_true_eq_false, ↓reduceIte])<;>(try simp only[hb0,decide_eq_true_eq,decide_eq_false_iff_not,simprocAttr]at hb)<;>(try(exfalso;omega)))|((first|refine hK _ _ ?_|(clear hK;refine hK _ _ ?_)|(clear hK;clear hK;refine hK _ _ ?_)|(clear hK;clear hK;clear hK;refine hK _ _ ?_));clear hK;try simp only[pst0,simprocAttr])|(rw[if_pos];rotate_left 1;omega;simp(maxSteps:=2000000) only[Ty.w,simprocAttr,g4,g16,g17,g18,hd,hho,hlen,hr,hlt,Nat.zero_add,a1,a2,a3,a4,hg,w7])));exact⟨s.data.toList.length-(k+1),by omega,k+1,by simp,by omega,rfl,hI.keep hx (by simp[lowB,hup,hw])⟩
      |false=>
       cases hs2:signs.contains c with
       |true=>
        have hw:wB c=true:=(by simp only[wB,hs2,Bool.or_true]);have hfi:decide (firstIdx ⟨#[45,95,63,58,60,62,61,43,42]⟩ c≥0)=true:=(by rw[firstIdx_ge];exact hs2);(repeat'(first|refine a_seq fun K hK=>?_|(refine a_block ?_)|((first|refine a_regionS ?_|refine a_region (fun K hK=>?_)|refine a_ret ?_);simp(maxSteps:=2000000) only[Ty.w,simprocAttr,g4,g16,g17,g18,hd,hho,hlen,hr,hlt,Nat.zero_add,a1,a2,a3,a4])|((first|refine a_skip ?_|refine a_exit ?_);try simp only[pst0,simprocAttr])|(refine a_cond _ (by(try simp(maxSteps:=2000000) only[Ty.w,simprocAttr,g4,g16,g17,g18,hd,hho,hlen,hr,hlt,Nat.zero_add,a1,a2,a3,a4]);rfl) (fun hb=>?_) (fun hb=>?_)<;>(try simp only[hb0,decide_eq_true_eq,decide_eq_false_iff_not,simprocAttr]at hb)<;>(try(exfalso;omega)))|(with_reducible refine ite_in (fun hb=>?_) (fun hb=>?_)<;>(try simp only[Decidable.not_not]at hb)<;>(try simp only[hb,if_true,if_false,not_false_eq_true,not_true_eq_false, ↓reduceIte])<;>(try simp only[hb0,decide_eq_true_eq,decide_eq_false_iff_not,simprocAttr]at hb)<;>(try(exfalso;omega)))|((first|refine hK _ _ ?_|(clear hK;refine hK _ _ ?_)|(clear hK;clear hK;refine hK _ _ ?_)|(clear hK;clear hK;clear hK;refine hK _ _ ?_));clear hK;try simp only[pst0,simprocAttr])|(rw[if_pos];rotate_left 1;omega;simp(maxSteps:=2000000) only[Ty.w,simprocAttr,g4,g16,g17,g18,hd,hho,hlen,hr,hlt,Nat.zero_add,a1,a2,a3,a4])));refine owp_useQ (digit_c (c:=c)) (by(try simp only[Ty.w,simprocAttr,g4,g16,g17,g18,hd,hho,hlen,hr,hlt,Nat.zero_add,a1,a2,a3,a4,hg]);try rfl) ?_;simp(maxSteps:=2000000) only[Ty.w,simprocAttr,g4,g16,g17,g18,hd,hho,hlen,hr,hlt,Nat.zero_add,a1,a2,a3,a4,hg];(repeat'(first|refine a_seq fun K hK=>?_|(refine a_block ?_)|((first|refine a_regionS ?_|refine a_region (fun K hK=>?_)|refine a_ret ?_);simp(maxSteps:=2000000) only[Ty.w,simprocAttr,g4,g16,g17,g18,hd,hho,hlen,hr,hlt,Nat.zero_add,a1,a2,a3,a4,hg])|((first|refine a_skip ?_|refine a_exit ?_);try simp only[pst0,simprocAttr])|(refine a_cond _ (by(try simp(maxSteps:=2000000) only[Ty.w,simprocAttr,g4,g16,g17,g18,hd,hho,hlen,hr,hlt,Nat.zero_add,a1,a2,a3,a4,hg]);rfl) (fun hb=>?_) (fun hb=>?_)<;>(try simp only[hb0,decide_eq_true_eq,decide_eq_false_iff_not,simprocAttr]at hb)<;>(try(exfalso;omega)))|(with_reducible refine ite_in (fun hb=>?_) (fun hb=>?_)<;>(try simp only[Decidable.not_not]at hb)<;>(try simp only[hb,if_true,if_false,not_false_eq_true,not_true_eq_false, ↓reduceIte])<;>(try simp only[hb0,decide_eq_true_eq,decide_eq_false_iff_not,simprocAttr]at hb)<;>(try(exfalso;omega)))|((first|refine hK _ _ ?_|(clear hK;refine hK _ _ ?_)|(clear hK;clear hK;refine hK _ _ ?_)|(clear hK;clear hK;clear hK;refine hK _ _ ?_));clear hK;try simp only[pst0,simprocAttr])|(rw[if_pos];rotate_left 1;omega;simp(maxSteps:=2000000) only[Ty.w,simprocAttr,g4,g16,g17,g18,hd,hho,hlen,hr,hlt,Nat.zero_add,a1,a2,a3,a4,hg])));refine owp_useQ (indexByte_c (s:=⟨#[45,95,63,58,60,62,61,43,42]⟩) (c:=c)) (by(try simp only[Ty.w,simprocAttr,g4,g16,g17,g18,hd,hho,hlen,hr,hlt,Nat.zero_add,a1,a2,a3,a4,hg,hfi]);try rfl) ?_;simp(maxSteps:=2000000) only[Ty.w,simprocAttr,g4,g16,g17,g18,hd,hho,hlen,hr,hlt,Nat.zero_add,a1,a2,a3,a4,hg,hfi]
        (repeat'(first|refine a_seq fun K hK=>?_|(refine a_block ?_)|((first|refine a_regionS ?_|refine a_region (fun K hK=>?_)|refine a_ret ?_);simp(maxSteps:=2000000) only[Ty.w,simprocAttr,g4,g16,g17,g18,hd,hho,hlen,hr,hlt,Nat.zero_add,a1,a2,a3,a4,hg,hfi,w7])|((first|refine a_skip ?_|refine a_exit ?_);try simp only[pst0,simprocAttr])|(refine a_cond _ (by(try simp(maxSteps:=2000000) only[Ty.w,simprocAttr,g4,g16,g17,g18,hd,hho,hlen,hr,hlt,Nat.zero_add,a1,a2,a3,a4,hg,hfi,w7]);rfl) (fun hb=>?_) (fun hb=>?_)<;>(try simp only[hb0,decide_eq_true_eq,decide_eq_false_iff_not,simprocAttr]at hb)<;>(try(exfalso;omega)))|(with_reducible refine ite_in (fun hb=>?_) (fun hb=>?_)<;>(try simp only[Decidable.not_not]at hb)<;>(try simp only[hb,if_true,if_false,not_false_eq_true,not_true_eq_false, ↓reduceIte])<;>(try simp only[hb0,decide_eq_true_eq,decide_eq_false_iff_not,simprocAttr]at hb)<;>(try(exfalso;omega)))|((first|refine hK _ _ ?_|(clear hK;refine hK _ _ ?_)|(clear hK;clear hK;refine hK _ _ ?_)|(clear hK;clear hK;clear hK;refine hK _ _ ?_));clear hK;try simp only[pst0,simprocAttr])|(rw[if_pos];rotate_left 1;omega;simp(maxSteps:=2000000) only[Ty.w,simprocAttr,g4,g16,g17,g18,hd,hho,hlen,hr,hlt,Nat.zero_add,a1,a2,a3,a4,hg,hfi,w7])));exact⟨s.data.toList.length-(k+1),by omega,k+1,by simp,by omega,rfl,hI.keep hx (by simp[lowB,hup,hw])⟩
       |false=>
        have hw:wB c=false:=(by simp only[wB,hs2,hg,hlet,Bool.or_false]);have hfi:decide (firstIdx ⟨#[45,95,63,58,60,62,61,43,42]⟩ c≥0)=false:=(by rw[firstIdx_ge];exact hs2);(repeat'(first|refine a_seq fun K hK=>?_|(refine a_block ?_)|((first|refine a_regionS ?_|refine a_region (fun K hK=>?_)|refine a_ret ?_);simp(maxSteps:=2000000) only[Ty.w,simprocAttr,g4,g16,g17,g18,hd,hho,hlen,hr,hlt,Nat.zero_add,a1,a2,a3,a4])|((first|refine a_skip ?_|refine a_exit ?_);try simp only[pst0,simprocAttr])|(refine a_cond _ (by(try simp(maxSteps:=2000000) only[Ty.w,simprocAttr,g4,g16,g17,g18,hd,hho,hlen,hr,hlt,Nat.zero_add,a1,a2,a3,a4]);rfl) (fun hb=>?_) (fun hb=>?_)<;>(try simp only[hb0,decide_eq_true_eq,decide_eq_false_iff_not,simprocAttr]at hb)<;>(try(exfalso;omega)))|(with_reducible refine ite_in (fun hb=>?_) (fun hb=>?_)<;>(try simp only[Decidable.not_not]at hb)<;>(try simp only[hb,if_true,if_false,not_false_eq_true,not_true_eq_false, ↓reduceIte])<;>(try simp only[hb0,decide_eq_true_eq,decide_eq_false_iff_not,simprocAttr]at hb)<;>(try(exfalso;omega)))|((first|refine hK _ _ ?_|(clear hK;refine hK _ _ ?_)|(clear hK;clear hK;refine hK _ _ ?_)|(clear hK;clear hK;clear hK;refine hK _ _ ?_));clear hK;try simp only[pst0,simprocAttr])|(rw[if_pos];rotate_left 1;omega;simp(maxSteps:=2000000) only[Ty.w,simprocAttr,g4,g16,g17,g18,hd,hho,hlen,hr,hlt,Nat.zero_add,a1,a2,a3,a4])));refine owp_useQ (digit_c (c:=c)) (by(try simp only[Ty.w,simprocAttr,g4,g16,g17,g18,hd,hho,hlen,hr,hlt,Nat.zero_add,a1,a2,a3,a4,hg]);try rfl) ?_;simp(maxSteps:=2000000) only[Ty.w,simprocAttr,g4,g16,g17,g18,hd,hho,hlen,hr,hlt,Nat.zero_add,a1,a2,a3,a4,hg];(repeat'(first|refine a_seq fun K hK=>?_|(refine a_block ?_)|((first|refine a_regionS ?_|refine a_region (fun K hK=>?_)|refine a_ret ?_);simp(maxSteps:=2000000) only[Ty.w,simprocAttr,g4,g16,g17,g18,hd,hho,hlen,hr,hlt,Nat.zero_add,a1,a2,a3,a4,hg])|((first|refine a_skip ?_|refine a_exit ?_);try simp only[pst0,simprocAttr])|(refine a_cond _ (by(try simp(maxSteps:=2000000) only[Ty.w,simprocAttr,g4,g16,g17,g18,hd,hho,hlen,hr,hlt,Nat.zero_add,a1,a2,a3,a4,hg]);rfl) (fun hb=>?_) (fun hb=>?_)<;>(try simp only[hb0,decide_eq_true_eq,decide_eq_false_iff_not,simprocAttr]at hb)<;>(try(exfalso;omega)))|(with_reducible refine ite_in (fun hb=>?_) (fun hb=>?_)<;>(try simp only[Decidable.not_not]at hb)<;>(try simp only[hb,if_true,if_false,not_false_eq_true,not_true_eq_false, ↓reduceIte])<;>(try simp only[hb0,decide_eq_true_eq,decide_eq_false_iff_not,simprocAttr]at hb)<;>(try(exfalso;omega)))|((first|refine hK _ _ ?_|(clear hK;refine hK _ _ ?_)|(clear hK;clear hK;refine hK _ _ ?_)|(clear hK;clear hK;clear hK;refine hK _ _ ?_));clear hK;try simp only[pst0,simprocAttr])|(rw[if_pos];rotate_left 1;omega;simp(maxSteps:=2000000) only[Ty.w,simprocAttr,g4,g16,g17,g18,hd,hho,hlen,hr,hlt,Nat.zero_add,a1,a2,a3,a4,hg])));refine owp_useQ (indexByte_c (s:=⟨#[45,95,63,58,60,62,61,43,42]⟩) (c:=c)) (by(try simp only[Ty.w,simprocAttr,g4,g16,g17,g18,hd,hho,hlen,hr,hlt,Nat.zero_add,a1,a2,a3,a4,hg,hfi]);try rfl) ?_;simp(maxSteps:=2000000) only[Ty.w,simprocAttr,g4,g16,g17,g18,hd,hho,hlen,hr,hlt,Nat.zero_add,a1,a2,a3,a4,hg,hfi]
        (repeat'(first|refine a_seq fun K hK=>?_|(refine a_block ?_)|((first|refine a_regionS ?_|refine a_region (fun K hK=>?_)|refine a_ret ?_);simp(maxSteps:=2000000) only[Ty.w,simprocAttr,g4,g16,g17,g18,hd,hho,hlen,hr,hlt,Nat.zero_add,a1,a2,a3,a4,hg,hfi])|((first|refine a_skip ?_|refine a_exit ?_);try simp only[pst0,simprocAttr])|(refine a_cond _ (by(try simp(maxSteps:=2000000) only[Ty.w,simprocAttr,g4,g16,g17,g18,hd,hho,hlen,hr,hlt,Nat.zero_add,a1,a2,a3,a4,hg,hfi]);rfl) (fun hb=>?_) (fun hb=>?_)<;>(try simp only[hb0,decide_eq_true_eq,decide_eq_false_iff_not,simprocAttr]at hb)<;>(try(exfalso;omega)))|(with_reducible refine ite_in (fun hb=>?_) (fun hb=>?_)<;>(try simp only[Decidable.not_not]at hb)<;>(try simp only[hb,if_true,if_false,not_false_eq_true,not_true_eq_false, ↓reduceIte])<;>(try simp only[hb0,decide_eq_true_eq,decide_eq_false_iff_not,simprocAttr]at hb)<;>(try(exfalso;omega)))|((first|refine hK _ _ ?_|(clear hK;refine hK _ _ ?_)|(clear hK;clear hK;refine hK _ _ ?_)|(clear hK;clear hK;clear hK;refine hK _ _ ?_));clear hK;try simp only[pst0,simprocAttr])|(rw[if_pos];rotate_left 1;omega;simp(maxSteps:=2000000) only[Ty.w,simprocAttr,g4,g16,g17,g18,hd,hho,hlen,hr,hlt,Nat.zero_add,a1,a2,a3,a4,hg,hfi])));exact⟨bad (by simp[lowB,hup,hw]),hgr⟩
    ·have hd:decide ((k:Int)<(s.data.toList.length:Int))=false:=(by simp;omega);have hke:k=s.data.toList.length:=(by omega);subst hke;obtain⟨p,hp,ho⟩:=hI.ex;rw[List.take_length]at hp;rw[List.drop_length,List.append_nil]at ho;have hpl:=lowL_len hp;have hlen:(bytesR p).length=s.data.toList.length:=(by rw[bytesR_len];exact hpl);have htk:List.take s.data.toList.length (bytesR p)=bytesR p:=(by rw[List.take_of_length_le (by omega)]);have hbr:=byteRow_bytesR p;(repeat'(first|refine a_seq fun K hK=>?_|(refine a_block ?_)|((first|refine a_regionS ?_|refine a_region (fun K hK=>?_)|refine a_ret ?_);simp(maxSteps:=2000000) only[Ty.w,simprocAttr,g4,g16,g17,g18,hd,ho,hlen,htk,hbr,Nat.zero_add])|((first|refine a_skip ?_|refine a_exit ?_);try simp only[pst0,simprocAttr])|(refine a_cond _ (by(try simp(maxSteps:=2000000) only[Ty.w,simprocAttr,g4,g16,g17,g18,hd,ho,hlen,htk,hbr,Nat.zero_add]);rfl) (fun hb=>?_) (fun hb=>?_)<;>(try simp only[hb0,decide_eq_true_eq,decide_eq_false_iff_not,simprocAttr]at hb)<;>(try(exfalso;omega)))|(with_reducible refine ite_in (fun hb=>?_) (fun hb=>?_)<;>(try simp only[Decidable.not_not]at hb)<;>(try simp only[hb,if_true,if_false,not_false_eq_true,not_true_eq_false, ↓reduceIte])<;>(try simp only[hb0,decide_eq_true_eq,decide_eq_false_iff_not,simprocAttr]at hb)<;>(try(exfalso;omega)))|((first|refine hK _ _ ?_|(clear hK;refine hK _ _ ?_)|(clear hK;clear hK;refine hK _ _ ?_)|(clear hK;clear hK;clear hK;refine hK _ _ ?_));clear hK;try simp only[pst0,simprocAttr])|(rw[if_pos];rotate_left 1;omega;simp(maxSteps:=2000000) only[Ty.w,simprocAttr,g4,g16,g17,g18,hd,ho,hlen,htk,hbr,Nat.zero_add])));rw[hS,hp];exact⟨rfl,hI.grow⟩
end Go.Proofs.YtjgkmmjnbcbmpaaGreat
namespace Go.Proofs.YtjgkmmjnbcbmpaaGreat
open Go.AM
set_option maxHeartbeats 2000000
set_option maxRecDepth 20000
theorem drop_of_get{α:Type}{l:List α}{k:Nat}{a:α}(h:l[k]? =some a):l.drop k=a::l.drop (k+1):=by
 obtain⟨hl,rfl⟩:=List.getElem?_eq_some_iff.1 h;exact List.drop_eq_getElem_cons hl
end Go.Proofs.YtjgkmmjnbcbmpaaGreat
namespace Go.AM
variable {h:Heap}{id0 z:Nat}{p:PV}{rows:List (List PV)}
theorem owp_useH{P:Program}{ow:Nat→Bool}{n:Nat}{s:Slots}{f:FuncId}{dst:Option Tmp}{args:List Operand}{ts:Array TypeId}{ty:TypeId}{pos:String}{af:Array Edge}{gd:Option (Nat × Bool)}{ags:List PV}{v:PV}{h1:Heap}{K:Slots→Heap→Prop}{ops rest:List Oper}
  (hc:PCall P f ags h fun r h'=>r=v∧h'=h1)(ha:args.map (pev s)=ags)(hk:lwn P ow n ops rest K (updO s dst v) h1):
  owp P ow {dst:=dst,op:= .call {callee:= .value (.func f),args:=args.toArray,argTypes:=ts},type:=ty,pos:=pos,after:=af,guard:=gd} (lwp P ow n ops rest K) s h:=
 owp_useL hc ha fun r h' hr=>by rw[hr.1,hr.2];exact hk
end Go.AM
namespace Go.Proofs.YtjgkmmjnbcbmpaaGreat
open Go.AM
set_option maxHeartbeats 2000000
set_option maxRecDepth 20000
structure GrowX(h:Heap)(id:Nat)(o:AObj)(h':Heap):Prop where
 le:h.next≤h'.next
 old: ∀ i,i<h.next→i≠id→h'.obj i=h.obj i
 at_:h'.obj id=some o
theorem GrowX.new{h h':Heap}{id:Nat}{o o2:AObj}(g:GrowX h id o h')(hid:id<h.next):GrowX h id o (h'.new o2):=
 ⟨Nat.le_trans g.le (by simp[Heap.new]),fun i hi hne=>by simp only[Heap.new];rw[if_neg (by have:=g.le;omega)];exact g.old i hi hne,by simp only[Heap.new];rw[if_neg (by have:=g.le;omega)];exact g.at_⟩
theorem GrowX.set{h h':Heap}{id j:Nat}{o o2:AObj}(g:GrowX h id o h')(hid:id<h.next)(hj:h.next≤j):GrowX h id o (h'.set j o2):=
 ⟨g.le,fun i hi hne=>by simp only[Heap.set];rw[if_neg (by omega)];exact g.old i hi hne,by simp only[Heap.set];rw[if_neg (by omega)];exact g.at_⟩
theorem GrowX.put{h h':Heap}{id:Nat}{o o2:AObj}(g:GrowX h id o h'):GrowX h id o2 (h'.set id o2):=
 ⟨g.le,fun i hi hne=>by simp only[Heap.set];rw[if_neg hne];exact g.old i hi hne,by simp[Heap.set]⟩
theorem GrowX.refl{h:Heap}{id:Nat}{o:AObj}(ho:h.obj id=some o):GrowX h id o h:=⟨Nat.le_refl _,fun _ _ _=>rfl,ho⟩
theorem PCall.quietX{P:Program}{f:FuncId}{args:List PV}{h:Heap}{v:Value}{id:Nat}{o o0:AObj}(hb:hasBody P f=true)(hid:h.obj id=some o0)(hfl:inNO h.next o)(hc:PCall P f args h fun r h'=>r= .sc v∧GrowX h id o h'):
  PCall P f args h fun r h'=>r= .sc v∧h'=h.set id o:=by
 refine pcall_wf hb fun hw=>PCall.drop (hc.mono ?_);rintro r h' ⟨rfl,g⟩;refine⟨.sc v,h.set id o,⟨rfl,rfl⟩,by simp only[FrzTo],Nat.le_refl _,fun i oo ho=>?_⟩;have hlt:=hw id (by rw[hid];try rfl);simp only[Heap.set]at ho;split at ho
 ·rename_i hi;subst hi;simp at ho;subst ho;exact⟨g.at_,hlt,.inr hfl⟩
 ·rename_i hi;have h1:=hw i (by rw[ho];try rfl);exact⟨by rw[g.old i h1 hi];exact ho,h1,.inl ho⟩
theorem lowS_size(s:ByteArray):(lowS s).1.size≤32:=by
 unfold lowS;split
 ·rename_i hc;split
  ·rename_i l hl;have h1:=lowL_len hl;have hsl:s.data.toList.length=s.size:=(by rw[Array.length_toList];try rfl);have:(ByteArray.mk l.toArray).size=l.length:=(by simp[ByteArray.size]);simp only[this];omega
  ·simp [ByteArray.size]
 ·simp [ByteArray.size]
mutual
theorem svalid_le: ∀ (x:Sx)(d n:Nat),(svalid x d n).1=true→(svalid x d n).2≤4096
 | .mk kind value line col text kids,d,n=>by
  unfold svalid;split
  ·simp
  ·rename_i hn;split
   ·intro _;simp only;omega
   ·split
    ·intro _;simp only;omega
    ·split
     ·split
      ·exact svalids_le kids (d+1) (n+1) (by omega)
      ·simp
     ·simp
theorem svalids_le: ∀ (l:List Sx)(d n:Nat),n≤4096→(svalids l d n).1=true→(svalids l d n).2≤4096
 |[],d,n,hn=>by simp[svalids,hn]
 |k::ks,d,n,hn=>by
  unfold svalids;have h1:=svalid_le k d n;split
  ·rename_i n' he;rw[he]at h1;exact svalids_le ks d n' (h1 rfl)
  ·simp
end
theorem natc(n:Nat):((n+1:Nat):Int)=(n:Int)+1:=by simp
def cntO(n:Nat):AObj:= .arr 1 [[.sc (.int .i64 n)]]
theorem valid_c: ∀ (x:Sx),x.ok→ ∀ (d n:Nat),d≤32→n≤4096→ ∀ (id:Nat)(h:Heap),h.obj id=some (cntO n)→
  PCall Tryz.prog 68 [.agg x.cells,.sc (.int .i64 d),.ptr id 0 0] h fun r h'=>r= .sc (.bool (svalid x d n).1)∧h'=h.set id (cntO (svalid x d n).2):=by
 refine Sx.ind ?_;intro kind value line col text kids ih hok d n hd hn id h ho;simp only[Sx.ok]at hok;obtain⟨_,_,ht,hk,hks⟩:=hok;rw[Sx.oks_iff]at hks;have hlen:=Sx.rows_len kids;have wn:IntKind.i64.wrap ((n:Int)+1)=(n:Int)+1:=by rw[wrap64 (by omega) (by omega)]
 refine pcall_wf Ty.hb_68 fun hwf=>?_;have hid:id<h.next:=hwf id (by rw[ho];try rfl)
 refine PCall.quietX Ty.hb_68 ho (by simp[cntO,inNO,inNR,inNL,inN]) ?_;have ho':=ho;simp only[cntO]at ho';have G1:GrowX h id (cntO (n+1)) (h.set id (.arr 1 [[.sc (.int .i64 ((n:Int)+1))]])):=by
  have:=(GrowX.refl ho).put (o2:=cntO (n+1));simp only[cntO,natc]at this⊢;exact this
 unfold svalid;simp only[Sx.cells];cases b0:decide ((n:Int)+1>4096)with
 |true=>
  rw[if_pos (by simp at b0;omega)];refine pcall_body (ow:=fun _=>false) (wf:=fun _=>false) Ty.mixed Tryz.func68 rfl Ty.hb_68 (by rw[Tryz.ntmps68];simp) ?_;rw[Tryz.ntmps68,Tryz.results68];repeat'(first|refine a_seq fun K hK=>?_|(refine a_block ?_)|((first|refine a_regionS ?_|refine a_region (fun K hK=>?_)|refine a_ret ?_);simp(maxSteps:=2000000) only[Ty.w,simprocAttr,ho',wn,b0])|((first|refine a_skip ?_|refine a_exit ?_);try simp only[pst0,simprocAttr])|(refine a_cond _ (by(try simp(maxSteps:=2000000) only[Ty.w,simprocAttr,ho',wn,b0]);rfl) (fun hb=>?_) (fun hb=>?_)<;>(try simp only[hb0,decide_eq_true_eq,decide_eq_false_iff_not,simprocAttr]at hb)<;>(try(exfalso;omega)))|(with_reducible refine ite_in (fun hb=>?_) (fun hb=>?_)<;>(try simp only[Decidable.not_not]at hb)<;>(try simp only[hb,if_true,if_false,not_false_eq_true,not_true_eq_false, ↓reduceIte])<;>(try simp only[hb0,decide_eq_true_eq,decide_eq_false_iff_not,simprocAttr]at hb)<;>(try(exfalso;omega)))|((first|refine hK _ _ ?_|(clear hK;refine hK _ _ ?_)|(clear hK;clear hK;refine hK _ _ ?_)|(clear hK;clear hK;clear hK;refine hK _ _ ?_));clear hK;try simp only[pst0,simprocAttr])|(rw[if_pos];rotate_left 1;omega;simp(maxSteps:=2000000) only[Ty.w,simprocAttr,ho',wn,b0]))
  first|exact G1|exact⟨rfl,G1⟩
 |false=>
  rw[if_neg (by simp at b0;omega)];cases k1:(kind==1)with
  |true=>
   have hk1:kind=1:=(by simpa using k1);rw[if_pos hk1];have e1:(kids.isEmpty)=((kids.length:Int)==0):=(by cases kids<;>simp;omega);have hlow:=fun h:Heap=>lower_c (h:=h) (s:=text);have hsz:=lowS_size text;have hW:wordB text=((lowS text).2&&((lowS text).1.data.toList==text.data.toList)&&!(numB (lowS text).1)):=rfl;generalize hL:lowS text=L at hlow hsz hW;obtain⟨w,ok⟩:=L;simp only at hlow hsz hW;have hwb:w.size≤bigN:=(by unfold bigN;omega);rw[hW];cases ok with
   |false=>
    refine pcall_body (ow:=fun _=>false) (wf:=fun _=>false) Ty.mixed Tryz.func68 rfl Ty.hb_68 (by rw[Tryz.ntmps68];simp) ?_;rw[Tryz.ntmps68,Tryz.results68];(repeat'(first|refine a_seq fun K hK=>?_|(refine a_block ?_)|((first|refine a_regionS ?_|refine a_region (fun K hK=>?_)|refine a_ret ?_);simp(maxSteps:=2000000) only[Ty.w,simprocAttr,ho',wn,b0,k1])|((first|refine a_skip ?_|refine a_exit ?_);try simp only[pst0,simprocAttr])|(refine a_cond _ (by(try simp(maxSteps:=2000000) only[Ty.w,simprocAttr,ho',wn,b0,k1]);rfl) (fun hb=>?_) (fun hb=>?_)<;>(try simp only[hb0,decide_eq_true_eq,decide_eq_false_iff_not,simprocAttr]at hb)<;>(try(exfalso;omega)))|(with_reducible refine ite_in (fun hb=>?_) (fun hb=>?_)<;>(try simp only[Decidable.not_not]at hb)<;>(try simp only[hb,if_true,if_false,not_false_eq_true,not_true_eq_false, ↓reduceIte])<;>(try simp only[hb0,decide_eq_true_eq,decide_eq_false_iff_not,simprocAttr]at hb)<;>(try(exfalso;omega)))|((first|refine hK _ _ ?_|(clear hK;refine hK _ _ ?_)|(clear hK;clear hK;refine hK _ _ ?_)|(clear hK;clear hK;clear hK;refine hK _ _ ?_));clear hK;try simp only[pst0,simprocAttr])|(rw[if_pos];rotate_left 1;omega;simp(maxSteps:=2000000) only[Ty.w,simprocAttr,ho',wn,b0,k1])));refine owp_useQ (hlow _) (by(try simp only[Ty.w,simprocAttr,ho',wn,b0,k1]);try rfl) ?_;simp(maxSteps:=2000000) only[Ty.w,simprocAttr,ho',wn,b0,k1];(repeat'(first|refine a_seq fun K hK=>?_|(refine a_block ?_)|((first|refine a_regionS ?_|refine a_region (fun K hK=>?_)|refine a_ret ?_);simp(maxSteps:=2000000) only[Ty.w,simprocAttr,ho',wn,b0,k1])|((first|refine a_skip ?_|refine a_exit ?_);try simp only[pst0,simprocAttr])|(refine a_cond _ (by(try simp(maxSteps:=2000000) only[Ty.w,simprocAttr,ho',wn,b0,k1]);rfl) (fun hb=>?_) (fun hb=>?_)<;>(try simp only[hb0,decide_eq_true_eq,decide_eq_false_iff_not,simprocAttr]at hb)<;>(try(exfalso;omega)))|(with_reducible refine ite_in (fun hb=>?_) (fun hb=>?_)<;>(try simp only[Decidable.not_not]at hb)<;>(try simp only[hb,if_true,if_false,not_false_eq_true,not_true_eq_false, ↓reduceIte])<;>(try simp only[hb0,decide_eq_true_eq,decide_eq_false_iff_not,simprocAttr]at hb)<;>(try(exfalso;omega)))|((first|refine hK _ _ ?_|(clear hK;refine hK _ _ ?_)|(clear hK;clear hK;refine hK _ _ ?_)|(clear hK;clear hK;clear hK;refine hK _ _ ?_));clear hK;try simp only[pst0,simprocAttr])|(rw[if_pos];rotate_left 1;omega;simp(maxSteps:=2000000) only[Ty.w,simprocAttr,ho',wn,b0,k1])));first|exact G1|exact⟨rfl,G1⟩
   |true=>
    cases c1:(w.data.toList==text.data.toList)with
    |false=>
     refine pcall_body (ow:=fun _=>false) (wf:=fun _=>false) Ty.mixed Tryz.func68 rfl Ty.hb_68 (by rw[Tryz.ntmps68];simp) ?_;rw[Tryz.ntmps68,Tryz.results68];(repeat'(first|refine a_seq fun K hK=>?_|(refine a_block ?_)|((first|refine a_regionS ?_|refine a_region (fun K hK=>?_)|refine a_ret ?_);simp(maxSteps:=2000000) only[Ty.w,simprocAttr,ho',wn,b0,k1])|((first|refine a_skip ?_|refine a_exit ?_);try simp only[pst0,simprocAttr])|(refine a_cond _ (by(try simp(maxSteps:=2000000) only[Ty.w,simprocAttr,ho',wn,b0,k1]);rfl) (fun hb=>?_) (fun hb=>?_)<;>(try simp only[hb0,decide_eq_true_eq,decide_eq_false_iff_not,simprocAttr]at hb)<;>(try(exfalso;omega)))|(with_reducible refine ite_in (fun hb=>?_) (fun hb=>?_)<;>(try simp only[Decidable.not_not]at hb)<;>(try simp only[hb,if_true,if_false,not_false_eq_true,not_true_eq_false, ↓reduceIte])<;>(try simp only[hb0,decide_eq_true_eq,decide_eq_false_iff_not,simprocAttr]at hb)<;>(try(exfalso;omega)))|((first|refine hK _ _ ?_|(clear hK;refine hK _ _ ?_)|(clear hK;clear hK;refine hK _ _ ?_)|(clear hK;clear hK;clear hK;refine hK _ _ ?_));clear hK;try simp only[pst0,simprocAttr])|(rw[if_pos];rotate_left 1;omega;simp(maxSteps:=2000000) only[Ty.w,simprocAttr,ho',wn,b0,k1])));refine owp_useQ (hlow _) (by(try simp only[Ty.w,simprocAttr,ho',wn,b0,k1]);try rfl) ?_;simp(maxSteps:=2000000) only[Ty.w,simprocAttr,ho',wn,b0,k1];(repeat'(first|refine a_seq fun K hK=>?_|(refine a_block ?_)|((first|refine a_regionS ?_|refine a_region (fun K hK=>?_)|refine a_ret ?_);simp(maxSteps:=2000000) only[Ty.w,simprocAttr,ho',wn,b0,k1,c1])|((first|refine a_skip ?_|refine a_exit ?_);try simp only[pst0,simprocAttr])|(refine a_cond _ (by(try simp(maxSteps:=2000000) only[Ty.w,simprocAttr,ho',wn,b0,k1,c1]);rfl) (fun hb=>?_) (fun hb=>?_)<;>(try simp only[hb0,decide_eq_true_eq,decide_eq_false_iff_not,simprocAttr]at hb)<;>(try(exfalso;omega)))|(with_reducible refine ite_in (fun hb=>?_) (fun hb=>?_)<;>(try simp only[Decidable.not_not]at hb)<;>(try simp only[hb,if_true,if_false,not_false_eq_true,not_true_eq_false, ↓reduceIte])<;>(try simp only[hb0,decide_eq_true_eq,decide_eq_false_iff_not,simprocAttr]at hb)<;>(try(exfalso;omega)))|((first|refine hK _ _ ?_|(clear hK;refine hK _ _ ?_)|(clear hK;clear hK;refine hK _ _ ?_)|(clear hK;clear hK;clear hK;refine hK _ _ ?_));clear hK;try simp only[pst0,simprocAttr])|(rw[if_pos];rotate_left 1;omega;simp(maxSteps:=2000000) only[Ty.w,simprocAttr,ho',wn,b0,k1,c1])));first|exact G1|exact⟨rfl,G1⟩
    |true=>
     cases c2:numB w with
     |true=>
      refine pcall_body (ow:=fun _=>false) (wf:=fun _=>false) Ty.mixed Tryz.func68 rfl Ty.hb_68 (by rw[Tryz.ntmps68];simp) ?_;rw[Tryz.ntmps68,Tryz.results68];(repeat'(first|refine a_seq fun K hK=>?_|(refine a_block ?_)|((first|refine a_regionS ?_|refine a_region (fun K hK=>?_)|refine a_ret ?_);simp(maxSteps:=2000000) only[Ty.w,simprocAttr,ho',wn,b0,k1])|((first|refine a_skip ?_|refine a_exit ?_);try simp only[pst0,simprocAttr])|(refine a_cond _ (by(try simp(maxSteps:=2000000) only[Ty.w,simprocAttr,ho',wn,b0,k1]);rfl) (fun hb=>?_) (fun hb=>?_)<;>(try simp only[hb0,decide_eq_true_eq,decide_eq_false_iff_not,simprocAttr]at hb)<;>(try(exfalso;omega)))|(with_reducible refine ite_in (fun hb=>?_) (fun hb=>?_)<;>(try simp only[Decidable.not_not]at hb)<;>(try simp only[hb,if_true,if_false,not_false_eq_true,not_true_eq_false, ↓reduceIte])<;>(try simp only[hb0,decide_eq_true_eq,decide_eq_false_iff_not,simprocAttr]at hb)<;>(try(exfalso;omega)))|((first|refine hK _ _ ?_|(clear hK;refine hK _ _ ?_)|(clear hK;clear hK;refine hK _ _ ?_)|(clear hK;clear hK;clear hK;refine hK _ _ ?_));clear hK;try simp only[pst0,simprocAttr])|(rw[if_pos];rotate_left 1;omega;simp(maxSteps:=2000000) only[Ty.w,simprocAttr,ho',wn,b0,k1])));refine owp_useQ (hlow _) (by(try simp only[Ty.w,simprocAttr,ho',wn,b0,k1]);try rfl) ?_;simp(maxSteps:=2000000) only[Ty.w,simprocAttr,ho',wn,b0,k1];(repeat'(first|refine a_seq fun K hK=>?_|(refine a_block ?_)|((first|refine a_regionS ?_|refine a_region (fun K hK=>?_)|refine a_ret ?_);simp(maxSteps:=2000000) only[Ty.w,simprocAttr,ho',wn,b0,k1,c1])|((first|refine a_skip ?_|refine a_exit ?_);try simp only[pst0,simprocAttr])|(refine a_cond _ (by(try simp(maxSteps:=2000000) only[Ty.w,simprocAttr,ho',wn,b0,k1,c1]);rfl) (fun hb=>?_) (fun hb=>?_)<;>(try simp only[hb0,decide_eq_true_eq,decide_eq_false_iff_not,simprocAttr]at hb)<;>(try(exfalso;omega)))|(with_reducible refine ite_in (fun hb=>?_) (fun hb=>?_)<;>(try simp only[Decidable.not_not]at hb)<;>(try simp only[hb,if_true,if_false,not_false_eq_true,not_true_eq_false, ↓reduceIte])<;>(try simp only[hb0,decide_eq_true_eq,decide_eq_false_iff_not,simprocAttr]at hb)<;>(try(exfalso;omega)))|((first|refine hK _ _ ?_|(clear hK;refine hK _ _ ?_)|(clear hK;clear hK;refine hK _ _ ?_)|(clear hK;clear hK;clear hK;refine hK _ _ ?_));clear hK;try simp only[pst0,simprocAttr])|(rw[if_pos];rotate_left 1;omega;simp(maxSteps:=2000000) only[Ty.w,simprocAttr,ho',wn,b0,k1,c1])));refine owp_useQ (numeric_c (s:=w) hwb) (by(try simp only[Ty.w,simprocAttr,ho',wn,b0,k1,c1,c2,Bool.not_true]);try rfl) ?_;simp(maxSteps:=2000000) only[Ty.w,simprocAttr,ho',wn,b0,k1,c1,c2,Bool.not_true];(repeat'(first|refine a_seq fun K hK=>?_|(refine a_block ?_)|((first|refine a_regionS ?_|refine a_region (fun K hK=>?_)|refine a_ret ?_);simp(maxSteps:=2000000) only[Ty.w,simprocAttr,ho',wn,b0,k1,c1,c2,Bool.not_true])|((first|refine a_skip ?_|refine a_exit ?_);try simp only[pst0,simprocAttr])|(refine a_cond _ (by(try simp(maxSteps:=2000000) only[Ty.w,simprocAttr,ho',wn,b0,k1,c1,c2,Bool.not_true]);rfl) (fun hb=>?_) (fun hb=>?_)<;>(try simp only[hb0,decide_eq_true_eq,decide_eq_false_iff_not,simprocAttr]at hb)<;>(try(exfalso;omega)))|(with_reducible refine ite_in (fun hb=>?_) (fun hb=>?_)<;>(try simp only[Decidable.not_not]at hb)<;>(try simp only[hb,if_true,if_false,not_false_eq_true,not_true_eq_false, ↓reduceIte])<;>(try simp only[hb0,decide_eq_true_eq,decide_eq_false_iff_not,simprocAttr]at hb)<;>(try(exfalso;omega)))|((first|refine hK _ _ ?_|(clear hK;refine hK _ _ ?_)|(clear hK;clear hK;refine hK _ _ ?_)|(clear hK;clear hK;clear hK;refine hK _ _ ?_));clear hK;try simp only[pst0,simprocAttr])|(rw[if_pos];rotate_left 1;omega;simp(maxSteps:=2000000) only[Ty.w,simprocAttr,ho',wn,b0,k1,c1,c2,Bool.not_true])));first|exact G1|exact⟨rfl,G1⟩
     |false=>
      cases c3:(value==0)with
      |false=>
       have c3':decide (value=0)=false:=(by simpa using c3);refine pcall_body (ow:=fun _=>false) (wf:=fun _=>false) Ty.mixed Tryz.func68 rfl Ty.hb_68 (by rw[Tryz.ntmps68];simp) ?_;rw[Tryz.ntmps68,Tryz.results68];(repeat'(first|refine a_seq fun K hK=>?_|(refine a_block ?_)|((first|refine a_regionS ?_|refine a_region (fun K hK=>?_)|refine a_ret ?_);simp(maxSteps:=2000000) only[Ty.w,simprocAttr,ho',wn,b0,k1])|((first|refine a_skip ?_|refine a_exit ?_);try simp only[pst0,simprocAttr])|(refine a_cond _ (by(try simp(maxSteps:=2000000) only[Ty.w,simprocAttr,ho',wn,b0,k1]);rfl) (fun hb=>?_) (fun hb=>?_)<;>(try simp only[hb0,decide_eq_true_eq,decide_eq_false_iff_not,simprocAttr]at hb)<;>(try(exfalso;omega)))|(with_reducible refine ite_in (fun hb=>?_) (fun hb=>?_)<;>(try simp only[Decidable.not_not]at hb)<;>(try simp only[hb,if_true,if_false,not_false_eq_true,not_true_eq_false, ↓reduceIte])<;>(try simp only[hb0,decide_eq_true_eq,decide_eq_false_iff_not,simprocAttr]at hb)<;>(try(exfalso;omega)))|((first|refine hK _ _ ?_|(clear hK;refine hK _ _ ?_)|(clear hK;clear hK;refine hK _ _ ?_)|(clear hK;clear hK;clear hK;refine hK _ _ ?_));clear hK;try simp only[pst0,simprocAttr])|(rw[if_pos];rotate_left 1;omega;simp(maxSteps:=2000000) only[Ty.w,simprocAttr,ho',wn,b0,k1])));refine owp_useQ (hlow _) (by(try simp only[Ty.w,simprocAttr,ho',wn,b0,k1]);try rfl) ?_;simp(maxSteps:=2000000) only[Ty.w,simprocAttr,ho',wn,b0,k1];(repeat'(first|refine a_seq fun K hK=>?_|(refine a_block ?_)|((first|refine a_regionS ?_|refine a_region (fun K hK=>?_)|refine a_ret ?_);simp(maxSteps:=2000000) only[Ty.w,simprocAttr,ho',wn,b0,k1,c1])|((first|refine a_skip ?_|refine a_exit ?_);try simp only[pst0,simprocAttr])|(refine a_cond _ (by(try simp(maxSteps:=2000000) only[Ty.w,simprocAttr,ho',wn,b0,k1,c1]);rfl) (fun hb=>?_) (fun hb=>?_)<;>(try simp only[hb0,decide_eq_true_eq,decide_eq_false_iff_not,simprocAttr]at hb)<;>(try(exfalso;omega)))|(with_reducible refine ite_in (fun hb=>?_) (fun hb=>?_)<;>(try simp only[Decidable.not_not]at hb)<;>(try simp only[hb,if_true,if_false,not_false_eq_true,not_true_eq_false, ↓reduceIte])<;>(try simp only[hb0,decide_eq_true_eq,decide_eq_false_iff_not,simprocAttr]at hb)<;>(try(exfalso;omega)))|((first|refine hK _ _ ?_|(clear hK;refine hK _ _ ?_)|(clear hK;clear hK;refine hK _ _ ?_)|(clear hK;clear hK;clear hK;refine hK _ _ ?_));clear hK;try simp only[pst0,simprocAttr])|(rw[if_pos];rotate_left 1;omega;simp(maxSteps:=2000000) only[Ty.w,simprocAttr,ho',wn,b0,k1,c1])));refine owp_useQ (numeric_c (s:=w) hwb) (by(try simp only[Ty.w,simprocAttr,ho',wn,b0,k1,c1,c2,c3,hlen,Bool.not_false]);try rfl) ?_;simp(maxSteps:=2000000) only[Ty.w,simprocAttr,ho',wn,b0,k1,c1,c2,c3,hlen,Bool.not_false];(repeat'(first|refine a_seq fun K hK=>?_|(refine a_block ?_)|((first|refine a_regionS ?_|refine a_region (fun K hK=>?_)|refine a_ret ?_);simp(maxSteps:=2000000) only[Ty.w,simprocAttr,ho',wn,b0,k1,c1,c2,c3,Bool.not_false])|((first|refine a_skip ?_|refine a_exit ?_);try simp only[pst0,simprocAttr])|(refine a_cond _ (by(try simp(maxSteps:=2000000) only[Ty.w,simprocAttr,ho',wn,b0,k1,c1,c2,c3,Bool.not_false]);rfl) (fun hb=>?_) (fun hb=>?_)<;>(try simp only[hb0,decide_eq_true_eq,decide_eq_false_iff_not,simprocAttr]at hb)<;>(try(exfalso;omega)))|(with_reducible refine ite_in (fun hb=>?_) (fun hb=>?_)<;>(try simp only[Decidable.not_not]at hb)<;>(try simp only[hb,if_true,if_false,not_false_eq_true,not_true_eq_false, ↓reduceIte])<;>(try simp only[hb0,decide_eq_true_eq,decide_eq_false_iff_not,simprocAttr]at hb)<;>(try(exfalso;omega)))|((first|refine hK _ _ ?_|(clear hK;refine hK _ _ ?_)|(clear hK;clear hK;refine hK _ _ ?_)|(clear hK;clear hK;clear hK;refine hK _ _ ?_));clear hK;try simp only[pst0,simprocAttr])|(rw[if_pos];rotate_left 1;omega;simp(maxSteps:=2000000) only[Ty.w,simprocAttr,ho',wn,b0,k1,c1,c2,c3,Bool.not_false])));first|exact G1|exact⟨by simp only[c3',Bool.and_false,Bool.false_and],G1⟩
      |true=>
       have c3':decide (value=0)=true:=(by simpa using c3);refine pcall_body (ow:=fun _=>false) (wf:=fun _=>false) Ty.mixed Tryz.func68 rfl Ty.hb_68 (by rw[Tryz.ntmps68];simp) ?_;rw[Tryz.ntmps68,Tryz.results68];(repeat'(first|refine a_seq fun K hK=>?_|(refine a_block ?_)|((first|refine a_regionS ?_|refine a_region (fun K hK=>?_)|refine a_ret ?_);simp(maxSteps:=2000000) only[Ty.w,simprocAttr,ho',wn,b0,k1])|((first|refine a_skip ?_|refine a_exit ?_);try simp only[pst0,simprocAttr])|(refine a_cond _ (by(try simp(maxSteps:=2000000) only[Ty.w,simprocAttr,ho',wn,b0,k1]);rfl) (fun hb=>?_) (fun hb=>?_)<;>(try simp only[hb0,decide_eq_true_eq,decide_eq_false_iff_not,simprocAttr]at hb)<;>(try(exfalso;omega)))|(with_reducible refine ite_in (fun hb=>?_) (fun hb=>?_)<;>(try simp only[Decidable.not_not]at hb)<;>(try simp only[hb,if_true,if_false,not_false_eq_true,not_true_eq_false, ↓reduceIte])<;>(try simp only[hb0,decide_eq_true_eq,decide_eq_false_iff_not,simprocAttr]at hb)<;>(try(exfalso;omega)))|((first|refine hK _ _ ?_|(clear hK;refine hK _ _ ?_)|(clear hK;clear hK;refine hK _ _ ?_)|(clear hK;clear hK;clear hK;refine hK _ _ ?_));clear hK;try simp only[pst0,simprocAttr])|(rw[if_pos];rotate_left 1;omega;simp(maxSteps:=2000000) only[Ty.w,simprocAttr,ho',wn,b0,k1])));refine owp_useQ (hlow _) (by(try simp only[Ty.w,simprocAttr,ho',wn,b0,k1]);try rfl) ?_;simp(maxSteps:=2000000) only[Ty.w,simprocAttr,ho',wn,b0,k1];(repeat'(first|refine a_seq fun K hK=>?_|(refine a_block ?_)|((first|refine a_regionS ?_|refine a_region (fun K hK=>?_)|refine a_ret ?_);simp(maxSteps:=2000000) only[Ty.w,simprocAttr,ho',wn,b0,k1,c1])|((first|refine a_skip ?_|refine a_exit ?_);try simp only[pst0,simprocAttr])|(refine a_cond _ (by(try simp(maxSteps:=2000000) only[Ty.w,simprocAttr,ho',wn,b0,k1,c1]);rfl) (fun hb=>?_) (fun hb=>?_)<;>(try simp only[hb0,decide_eq_true_eq,decide_eq_false_iff_not,simprocAttr]at hb)<;>(try(exfalso;omega)))|(with_reducible refine ite_in (fun hb=>?_) (fun hb=>?_)<;>(try simp only[Decidable.not_not]at hb)<;>(try simp only[hb,if_true,if_false,not_false_eq_true,not_true_eq_false, ↓reduceIte])<;>(try simp only[hb0,decide_eq_true_eq,decide_eq_false_iff_not,simprocAttr]at hb)<;>(try(exfalso;omega)))|((first|refine hK _ _ ?_|(clear hK;refine hK _ _ ?_)|(clear hK;clear hK;refine hK _ _ ?_)|(clear hK;clear hK;clear hK;refine hK _ _ ?_));clear hK;try simp only[pst0,simprocAttr])|(rw[if_pos];rotate_left 1;omega;simp(maxSteps:=2000000) only[Ty.w,simprocAttr,ho',wn,b0,k1,c1])));refine owp_useQ (numeric_c (s:=w) hwb) (by(try simp only[Ty.w,simprocAttr,ho',wn,b0,k1,c1,c2,c3,hlen,Bool.not_false]);try rfl) ?_;simp(maxSteps:=2000000) only[Ty.w,simprocAttr,ho',wn,b0,k1,c1,c2,c3,hlen,Bool.not_false];(repeat'(first|refine a_seq fun K hK=>?_|(refine a_block ?_)|((first|refine a_regionS ?_|refine a_region (fun K hK=>?_)|refine a_ret ?_);simp(maxSteps:=2000000) only[Ty.w,simprocAttr,ho',wn,b0,k1,c1,c2,c3,Bool.not_false,hlen])|((first|refine a_skip ?_|refine a_exit ?_);try simp only[pst0,simprocAttr])|(refine a_cond _ (by(try simp(maxSteps:=2000000) only[Ty.w,simprocAttr,ho',wn,b0,k1,c1,c2,c3,Bool.not_false,hlen]);rfl) (fun hb=>?_) (fun hb=>?_)<;>(try simp only[hb0,decide_eq_true_eq,decide_eq_false_iff_not,simprocAttr]at hb)<;>(try(exfalso;omega)))|(with_reducible refine ite_in (fun hb=>?_) (fun hb=>?_)<;>(try simp only[Decidable.not_not]at hb)<;>(try simp only[hb,if_true,if_false,not_false_eq_true,not_true_eq_false, ↓reduceIte])<;>(try simp only[hb0,decide_eq_true_eq,decide_eq_false_iff_not,simprocAttr]at hb)<;>(try(exfalso;omega)))|((first|refine hK _ _ ?_|(clear hK;refine hK _ _ ?_)|(clear hK;clear hK;refine hK _ _ ?_)|(clear hK;clear hK;clear hK;refine hK _ _ ?_));clear hK;try simp only[pst0,simprocAttr])|(rw[if_pos];rotate_left 1;omega;simp(maxSteps:=2000000) only[Ty.w,simprocAttr,ho',wn,b0,k1,c1,c2,c3,Bool.not_false,hlen])));exact⟨by simp only[c3',e1,Bool.not_false,Bool.true_and],G1⟩
  |false=>
   have hk1:¬ kind=1:=(by simpa using k1);rw[if_neg hk1];cases k2:(kind==2)with
   |true=>
    have hk2:kind=2:=(by simpa using k2);rw[if_pos hk2];have e1:(kids.isEmpty)=((kids.length:Int)==0):=(by cases kids<;>simp;omega);cases c1:(text.data.toList==(#[]:Array UInt8).toList)with
    |false=>
     refine pcall_body (ow:=fun _=>false) (wf:=fun _=>false) Ty.mixed Tryz.func68 rfl Ty.hb_68 (by rw[Tryz.ntmps68];simp) ?_;rw[Tryz.ntmps68,Tryz.results68];(repeat'(first|refine a_seq fun K hK=>?_|(refine a_block ?_)|((first|refine a_regionS ?_|refine a_region (fun K hK=>?_)|refine a_ret ?_);simp(maxSteps:=2000000) only[Ty.w,simprocAttr,ho',wn,b0,k1,k2,c1])|((first|refine a_skip ?_|refine a_exit ?_);try simp only[pst0,simprocAttr])|(refine a_cond _ (by(try simp(maxSteps:=2000000) only[Ty.w,simprocAttr,ho',wn,b0,k1,k2,c1]);rfl) (fun hb=>?_) (fun hb=>?_)<;>(try simp only[hb0,decide_eq_true_eq,decide_eq_false_iff_not,simprocAttr]at hb)<;>(try(exfalso;omega)))|(with_reducible refine ite_in (fun hb=>?_) (fun hb=>?_)<;>(try simp only[Decidable.not_not]at hb)<;>(try simp only[hb,if_true,if_false,not_false_eq_true,not_true_eq_false, ↓reduceIte])<;>(try simp only[hb0,decide_eq_true_eq,decide_eq_false_iff_not,simprocAttr]at hb)<;>(try(exfalso;omega)))|((first|refine hK _ _ ?_|(clear hK;refine hK _ _ ?_)|(clear hK;clear hK;refine hK _ _ ?_)|(clear hK;clear hK;clear hK;refine hK _ _ ?_));clear hK;try simp only[pst0,simprocAttr])|(rw[if_pos];rotate_left 1;omega;simp(maxSteps:=2000000) only[Ty.w,simprocAttr,ho',wn,b0,k1,k2,c1])));first|exact⟨by simp only[bEq,c1,Bool.false_and],G1⟩|(simp only[bEq,c1,e1,c2,Bool.true_and];exact G1)|exact G1
    |true=>
     cases c2:((kids.length:Int)==0)with
     |false=>
      refine pcall_body (ow:=fun _=>false) (wf:=fun _=>false) Ty.mixed Tryz.func68 rfl Ty.hb_68 (by rw[Tryz.ntmps68];simp) ?_;rw[Tryz.ntmps68,Tryz.results68];(repeat'(first|refine a_seq fun K hK=>?_|(refine a_block ?_)|((first|refine a_regionS ?_|refine a_region (fun K hK=>?_)|refine a_ret ?_);simp(maxSteps:=2000000) only[Ty.w,simprocAttr,ho',wn,b0,k1,k2,c1,c2,hlen])|((first|refine a_skip ?_|refine a_exit ?_);try simp only[pst0,simprocAttr])|(refine a_cond _ (by(try simp(maxSteps:=2000000) only[Ty.w,simprocAttr,ho',wn,b0,k1,k2,c1,c2,hlen]);rfl) (fun hb=>?_) (fun hb=>?_)<;>(try simp only[hb0,decide_eq_true_eq,decide_eq_false_iff_not,simprocAttr]at hb)<;>(try(exfalso;omega)))|(with_reducible refine ite_in (fun hb=>?_) (fun hb=>?_)<;>(try simp only[Decidable.not_not]at hb)<;>(try simp only[hb,if_true,if_false,not_false_eq_true,not_true_eq_false, ↓reduceIte])<;>(try simp only[hb0,decide_eq_true_eq,decide_eq_false_iff_not,simprocAttr]at hb)<;>(try(exfalso;omega)))|((first|refine hK _ _ ?_|(clear hK;refine hK _ _ ?_)|(clear hK;clear hK;refine hK _ _ ?_)|(clear hK;clear hK;clear hK;refine hK _ _ ?_));clear hK;try simp only[pst0,simprocAttr])|(rw[if_pos];rotate_left 1;omega;simp(maxSteps:=2000000) only[Ty.w,simprocAttr,ho',wn,b0,k1,k2,c1,c2,hlen])));first|exact⟨by simp only[bEq,c1,e1,c2,Bool.and_false,Bool.false_and],G1⟩|(simp only[bEq,c1,e1,c2,Bool.true_and];exact G1)|exact G1
     |true=>
      cases c3:decide (value≥ -1099511627776)with
      |false=>
       refine pcall_body (ow:=fun _=>false) (wf:=fun _=>false) Ty.mixed Tryz.func68 rfl Ty.hb_68 (by rw[Tryz.ntmps68];simp) ?_;rw[Tryz.ntmps68,Tryz.results68];(repeat'(first|refine a_seq fun K hK=>?_|(refine a_block ?_)|((first|refine a_regionS ?_|refine a_region (fun K hK=>?_)|refine a_ret ?_);simp(maxSteps:=2000000) only[Ty.w,simprocAttr,ho',wn,b0,k1,k2,c1,c2,c3,hlen])|((first|refine a_skip ?_|refine a_exit ?_);try simp only[pst0,simprocAttr])|(refine a_cond _ (by(try simp(maxSteps:=2000000) only[Ty.w,simprocAttr,ho',wn,b0,k1,k2,c1,c2,c3,hlen]);rfl) (fun hb=>?_) (fun hb=>?_)<;>(try simp only[hb0,decide_eq_true_eq,decide_eq_false_iff_not,simprocAttr]at hb)<;>(try(exfalso;omega)))|(with_reducible refine ite_in (fun hb=>?_) (fun hb=>?_)<;>(try simp only[Decidable.not_not]at hb)<;>(try simp only[hb,if_true,if_false,not_false_eq_true,not_true_eq_false, ↓reduceIte])<;>(try simp only[hb0,decide_eq_true_eq,decide_eq_false_iff_not,simprocAttr]at hb)<;>(try(exfalso;omega)))|((first|refine hK _ _ ?_|(clear hK;refine hK _ _ ?_)|(clear hK;clear hK;refine hK _ _ ?_)|(clear hK;clear hK;clear hK;refine hK _ _ ?_));clear hK;try simp only[pst0,simprocAttr])|(rw[if_pos];rotate_left 1;omega;simp(maxSteps:=2000000) only[Ty.w,simprocAttr,ho',wn,b0,k1,k2,c1,c2,c3,hlen])));have c3':decide (-1099511627776≤value)=false:=c3;first|exact⟨by simp only[bEq,c1,e1,c2,c3',Bool.and_false,Bool.false_and],G1⟩|(simp only[bEq,c1,e1,c2,Bool.true_and];exact G1)|exact G1
      |true=>
       refine pcall_body (ow:=fun _=>false) (wf:=fun _=>false) Ty.mixed Tryz.func68 rfl Ty.hb_68 (by rw[Tryz.ntmps68];simp) ?_;rw[Tryz.ntmps68,Tryz.results68];(repeat'(first|refine a_seq fun K hK=>?_|(refine a_block ?_)|((first|refine a_regionS ?_|refine a_region (fun K hK=>?_)|refine a_ret ?_);simp(maxSteps:=2000000) only[Ty.w,simprocAttr,ho',wn,b0,k1,k2,c1,c2,c3,hlen])|((first|refine a_skip ?_|refine a_exit ?_);try simp only[pst0,simprocAttr])|(refine a_cond _ (by(try simp(maxSteps:=2000000) only[Ty.w,simprocAttr,ho',wn,b0,k1,k2,c1,c2,c3,hlen]);rfl) (fun hb=>?_) (fun hb=>?_)<;>(try simp only[hb0,decide_eq_true_eq,decide_eq_false_iff_not,simprocAttr]at hb)<;>(try(exfalso;omega)))|(with_reducible refine ite_in (fun hb=>?_) (fun hb=>?_)<;>(try simp only[Decidable.not_not]at hb)<;>(try simp only[hb,if_true,if_false,not_false_eq_true,not_true_eq_false, ↓reduceIte])<;>(try simp only[hb0,decide_eq_true_eq,decide_eq_false_iff_not,simprocAttr]at hb)<;>(try(exfalso;omega)))|((first|refine hK _ _ ?_|(clear hK;refine hK _ _ ?_)|(clear hK;clear hK;refine hK _ _ ?_)|(clear hK;clear hK;clear hK;refine hK _ _ ?_));clear hK;try simp only[pst0,simprocAttr])|(rw[if_pos];rotate_left 1;omega;simp(maxSteps:=2000000) only[Ty.w,simprocAttr,ho',wn,b0,k1,k2,c1,c2,c3,hlen])));have c3':decide (-1099511627776≤value)=true:=c3;first|exact⟨by simp only[bEq,c1,e1,c2,c3',Bool.true_and],G1⟩|(simp only[bEq,c1,e1,c2,Bool.true_and];exact G1)|exact G1
   |false=>
    have hk2:¬ kind=2:=(by simpa using k2);rw[if_neg hk2];cases k3:(kind==3)with
    |false=>
     have hk3:¬ kind=3:=(by simpa using k3);rw[if_neg hk3];refine pcall_body (ow:=fun _=>false) (wf:=fun _=>false) Ty.mixed Tryz.func68 rfl Ty.hb_68 (by rw[Tryz.ntmps68];simp) ?_;rw[Tryz.ntmps68,Tryz.results68];(repeat'(first|refine a_seq fun K hK=>?_|(refine a_block ?_)|((first|refine a_regionS ?_|refine a_region (fun K hK=>?_)|refine a_ret ?_);simp(maxSteps:=2000000) only[Ty.w,simprocAttr,ho',wn,b0,k1,k2,k3])|((first|refine a_skip ?_|refine a_exit ?_);try simp only[pst0,simprocAttr])|(refine a_cond _ (by(try simp(maxSteps:=2000000) only[Ty.w,simprocAttr,ho',wn,b0,k1,k2,k3]);rfl) (fun hb=>?_) (fun hb=>?_)<;>(try simp only[hb0,decide_eq_true_eq,decide_eq_false_iff_not,simprocAttr]at hb)<;>(try(exfalso;omega)))|(with_reducible refine ite_in (fun hb=>?_) (fun hb=>?_)<;>(try simp only[Decidable.not_not]at hb)<;>(try simp only[hb,if_true,if_false,not_false_eq_true,not_true_eq_false, ↓reduceIte])<;>(try simp only[hb0,decide_eq_true_eq,decide_eq_false_iff_not,simprocAttr]at hb)<;>(try(exfalso;omega)))|((first|refine hK _ _ ?_|(clear hK;refine hK _ _ ?_)|(clear hK;clear hK;refine hK _ _ ?_)|(clear hK;clear hK;clear hK;refine hK _ _ ?_));clear hK;try simp only[pst0,simprocAttr])|(rw[if_pos];rotate_left 1;omega;simp(maxSteps:=2000000) only[Ty.w,simprocAttr,ho',wn,b0,k1,k2,k3])));first|exact G1|exact⟨rfl,G1⟩
    |true=>
     have hk3:kind=3:=(by simpa using k3);rw[if_pos hk3];cases c1:(text.data.toList==(#[]:Array UInt8).toList)with
     |false=>
      rw[if_neg (by simp[bEq,c1])];refine pcall_body (ow:=fun _=>false) (wf:=fun _=>false) Ty.mixed Tryz.func68 rfl Ty.hb_68 (by rw[Tryz.ntmps68];simp) ?_;rw[Tryz.ntmps68,Tryz.results68];(repeat'(first|refine a_seq fun K hK=>?_|(refine a_block ?_)|((first|refine a_regionS ?_|refine a_region (fun K hK=>?_)|refine a_ret ?_);simp(maxSteps:=2000000) only[Ty.w,simprocAttr,ho',wn,b0,k1,k2,k3,c1,Bool.not_false])|((first|refine a_skip ?_|refine a_exit ?_);try simp only[pst0,simprocAttr])|(refine a_cond _ (by(try simp(maxSteps:=2000000) only[Ty.w,simprocAttr,ho',wn,b0,k1,k2,k3,c1,Bool.not_false]);rfl) (fun hb=>?_) (fun hb=>?_)<;>(try simp only[hb0,decide_eq_true_eq,decide_eq_false_iff_not,simprocAttr]at hb)<;>(try(exfalso;omega)))|(with_reducible refine ite_in (fun hb=>?_) (fun hb=>?_)<;>(try simp only[Decidable.not_not]at hb)<;>(try simp only[hb,if_true,if_false,not_false_eq_true,not_true_eq_false, ↓reduceIte])<;>(try simp only[hb0,decide_eq_true_eq,decide_eq_false_iff_not,simprocAttr]at hb)<;>(try(exfalso;omega)))|((first|refine hK _ _ ?_|(clear hK;refine hK _ _ ?_)|(clear hK;clear hK;refine hK _ _ ?_)|(clear hK;clear hK;clear hK;refine hK _ _ ?_));clear hK;try simp only[pst0,simprocAttr])|(rw[if_pos];rotate_left 1;omega;simp(maxSteps:=2000000) only[Ty.w,simprocAttr,ho',wn,b0,k1,k2,k3,c1,Bool.not_false])));first|exact G1|exact⟨rfl,G1⟩
     |true=>
      cases c2:(value !=0)with
      |true=>
       rw[if_neg (by simp at c2;simp[c2])];refine pcall_body (ow:=fun _=>false) (wf:=fun _=>false) Ty.mixed Tryz.func68 rfl Ty.hb_68 (by rw[Tryz.ntmps68];simp) ?_;rw[Tryz.ntmps68,Tryz.results68];(repeat'(first|refine a_seq fun K hK=>?_|(refine a_block ?_)|((first|refine a_regionS ?_|refine a_region (fun K hK=>?_)|refine a_ret ?_);simp(maxSteps:=2000000) only[Ty.w,simprocAttr,ho',wn,b0,k1,k2,k3,c1,c2,Bool.not_true])|((first|refine a_skip ?_|refine a_exit ?_);try simp only[pst0,simprocAttr])|(refine a_cond _ (by(try simp(maxSteps:=2000000) only[Ty.w,simprocAttr,ho',wn,b0,k1,k2,k3,c1,c2,Bool.not_true]);rfl) (fun hb=>?_) (fun hb=>?_)<;>(try simp only[hb0,decide_eq_true_eq,decide_eq_false_iff_not,simprocAttr]at hb)<;>(try(exfalso;omega)))|(with_reducible refine ite_in (fun hb=>?_) (fun hb=>?_)<;>(try simp only[Decidable.not_not]at hb)<;>(try simp only[hb,if_true,if_false,not_false_eq_true,not_true_eq_false, ↓reduceIte])<;>(try simp only[hb0,decide_eq_true_eq,decide_eq_false_iff_not,simprocAttr]at hb)<;>(try(exfalso;omega)))|((first|refine hK _ _ ?_|(clear hK;refine hK _ _ ?_)|(clear hK;clear hK;refine hK _ _ ?_)|(clear hK;clear hK;clear hK;refine hK _ _ ?_));clear hK;try simp only[pst0,simprocAttr])|(rw[if_pos];rotate_left 1;omega;simp(maxSteps:=2000000) only[Ty.w,simprocAttr,ho',wn,b0,k1,k2,k3,c1,c2,Bool.not_true])));first|exact G1|exact⟨rfl,G1⟩
      |false=>
       cases c3:((d:Int)==32)with
       |true=>
        rw[if_neg (by simp at c3;simp;omega)];refine pcall_body (ow:=fun _=>false) (wf:=fun _=>false) Ty.mixed Tryz.func68 rfl Ty.hb_68 (by rw[Tryz.ntmps68];simp) ?_;rw[Tryz.ntmps68,Tryz.results68];(repeat'(first|refine a_seq fun K hK=>?_|(refine a_block ?_)|((first|refine a_regionS ?_|refine a_region (fun K hK=>?_)|refine a_ret ?_);simp(maxSteps:=2000000) only[Ty.w,simprocAttr,ho',wn,b0,k1,k2,k3,c1,c2,c3,Bool.not_true])|((first|refine a_skip ?_|refine a_exit ?_);try simp only[pst0,simprocAttr])|(refine a_cond _ (by(try simp(maxSteps:=2000000) only[Ty.w,simprocAttr,ho',wn,b0,k1,k2,k3,c1,c2,c3,Bool.not_true]);rfl) (fun hb=>?_) (fun hb=>?_)<;>(try simp only[hb0,decide_eq_true_eq,decide_eq_false_iff_not,simprocAttr]at hb)<;>(try(exfalso;omega)))|(with_reducible refine ite_in (fun hb=>?_) (fun hb=>?_)<;>(try simp only[Decidable.not_not]at hb)<;>(try simp only[hb,if_true,if_false,not_false_eq_true,not_true_eq_false, ↓reduceIte])<;>(try simp only[hb0,decide_eq_true_eq,decide_eq_false_iff_not,simprocAttr]at hb)<;>(try(exfalso;omega)))|((first|refine hK _ _ ?_|(clear hK;refine hK _ _ ?_)|(clear hK;clear hK;refine hK _ _ ?_)|(clear hK;clear hK;clear hK;refine hK _ _ ?_));clear hK;try simp only[pst0,simprocAttr])|(rw[if_pos];rotate_left 1;omega;simp(maxSteps:=2000000) only[Ty.w,simprocAttr,ho',wn,b0,k1,k2,k3,c1,c2,c3,Bool.not_true])));first|exact G1|exact⟨rfl,G1⟩
       |false=>
        rw[if_pos (by simp at c2 c3;exact⟨c1,c2,by omega⟩)];refine pcall_body (ow:=fun _=>false) (wf:=fun _=>false) Ty.mixed Tryz.func68 rfl Ty.hb_68 (by rw[Tryz.ntmps68];simp) ?_;rw[Tryz.ntmps68,Tryz.results68];(repeat'(first|refine a_seq fun K hK=>?_|(refine a_block ?_)|((first|refine a_regionS ?_|refine a_region (fun K hK=>?_)|refine a_ret ?_);simp(maxSteps:=2000000) only[Ty.w,simprocAttr,ho',wn,b0,k1,k2,k3,c1,c2,c3,Bool.not_true,hlen])|((first|refine a_skip ?_|refine a_exit ?_);try simp only[pst0,simprocAttr])|(refine a_cond _ (by(try simp(maxSteps:=2000000) only[Ty.w,simprocAttr,ho',wn,b0,k1,k2,k3,c1,c2,c3,Bool.not_true,hlen]);rfl) (fun hb=>?_) (fun hb=>?_)<;>(try simp only[hb0,decide_eq_true_eq,decide_eq_false_iff_not,simprocAttr]at hb)<;>(try(exfalso;omega)))|(with_reducible refine ite_in (fun hb=>?_) (fun hb=>?_)<;>(try simp only[Decidable.not_not]at hb)<;>(try simp only[hb,if_true,if_false,not_false_eq_true,not_true_eq_false, ↓reduceIte])<;>(try simp only[hb0,decide_eq_true_eq,decide_eq_false_iff_not,simprocAttr]at hb)<;>(try(exfalso;omega)))|((first|refine hK _ _ ?_|(clear hK;refine hK _ _ ?_)|(clear hK;clear hK;refine hK _ _ ?_)|(clear hK;clear hK;clear hK;refine hK _ _ ?_));clear hK;try simp only[pst0,simprocAttr])|(rw[if_pos];rotate_left 1;omega;simp(maxSteps:=2000000) only[Ty.w,simprocAttr,ho',wn,b0,k1,k2,k3,c1,c2,c3,Bool.not_true,hlen])));generalize hV:svalids kids (d+1) (n+1)=V;refine a_loop (fun c S h'=>S 1= .sc (.int .i64 d)∧S 2= .ptr id 0 0∧S 89= .imm 6 (Sx.rows kids)∧S 90= .sc (.int .i64 kids.length)∧ ∃ k n':Nat,S 91= .sc (.int .i64 k)∧k≤kids.length∧c=kids.length-k∧n'≤4096∧GrowX h id (cntO n') h'∧V=svalids (kids.drop k) (d+1) n') kids.length ?_ ?_
        ·simp only[Ty.w,simprocAttr];exact⟨0,n+1,rfl,by omega,rfl,by simp at b0;omega,G1,hV.symm⟩
        ·clear G1 ho';rintro c S h' ⟨g1,g2,g89,g90,k,n',g91,hkl,rfl,hn',hG,hinv⟩;by_cases hlt:k<kids.length
         ·have hdk:decide ((k:Int)<(kids.length:Int))=true:=(by simp;omega);have w7:IntKind.i64.wrap ((k:Int)+1)=k+1:=(by unfold bigN at hk;rw[wrap64 (by omega) (by omega)]);have wd:IntKind.i64.wrap ((d:Int)+1)=(d:Int)+1:=(by rw[wrap64 (by omega) (by omega)]);obtain⟨e,hx⟩: ∃ e,kids[k]? =some e:=⟨_,List.getElem?_eq_getElem hlt⟩;have hmem:=List.mem_of_getElem? hx;have hc:=ih e hmem (hks e hmem) (d+1) n' (by simp at c3;omega) hn' id;have hle:=svalid_le e (d+1) n';rw[drop_of_get hx]at hinv;simp only[svalids]at hinv;generalize svalid e (d+1) n'=W at hc hle hinv;obtain⟨b,n''⟩:=W;simp only[natc]at hc hle hinv;have hr:=Sx.rows_get hx;have hne:id≠h'.next:=by have:=hG.le;omega
          have hne':(h'.next=id)=False:=(by simp;omega);have hc2:=hc ((h'.new (.arr 6 [[.sc (.int .i64 0),.sc (.int .i64 0),.sc (.int .i64 0),.sc (.int .i64 0),.sc (.string ⟨#[]⟩),.sc (.slice none 0 0)]])).set h'.next (.arr 6 [e.cells])) (by simp only[Heap.set,Heap.new];rw[if_neg hne,if_neg hne];exact hG.at_);have hG2:GrowX h id (cntO n') ((h'.new (.arr 6 [[.sc (.int .i64 0),.sc (.int .i64 0),.sc (.int .i64 0),.sc (.int .i64 0),.sc (.string ⟨#[]⟩),.sc (.slice none 0 0)]])).set h'.next (.arr 6 [e.cells])):=(hG.new hid).set hid hG.le;obtain⟨ki,va,li,co,te,ks⟩:=e;simp only[Sx.cells]at hr hc2 hG2;(repeat'(first|refine a_seq fun K hK=>?_|(refine a_block ?_)|((first|refine a_regionS ?_|refine a_region (fun K hK=>?_)|refine a_ret ?_);simp(maxSteps:=2000000) only[Ty.w,simprocAttr,g1,g2,g89,g90,g91,hlen,hdk,hr,wd])|((first|refine a_skip ?_|refine a_exit ?_);try simp only[pst0,simprocAttr])|(refine a_cond _ (by(try simp(maxSteps:=2000000) only[Ty.w,simprocAttr,g1,g2,g89,g90,g91,hlen,hdk,hr,wd]);rfl) (fun hb=>?_) (fun hb=>?_)<;>(try simp only[hb0,decide_eq_true_eq,decide_eq_false_iff_not,simprocAttr]at hb)<;>(try(exfalso;omega)))|(with_reducible refine ite_in (fun hb=>?_) (fun hb=>?_)<;>(try simp only[Decidable.not_not]at hb)<;>(try simp only[hb,if_true,if_false,not_false_eq_true,not_true_eq_false, ↓reduceIte])<;>(try simp only[hb0,decide_eq_true_eq,decide_eq_false_iff_not,simprocAttr]at hb)<;>(try(exfalso;omega)))|((first|refine hK _ _ ?_|(clear hK;refine hK _ _ ?_)|(clear hK;clear hK;refine hK _ _ ?_)|(clear hK;clear hK;clear hK;refine hK _ _ ?_));clear hK;try simp only[pst0,simprocAttr])|(rw[if_pos];rotate_left 1;omega;simp(maxSteps:=2000000) only[Ty.w,simprocAttr,g1,g2,g89,g90,g91,hlen,hdk,hr,wd])));refine owp_useH (hc2) (by(try simp only[Ty.w,simprocAttr,g1,g2,g89,g90,g91,hlen,hdk,hr,wd]);try rfl) ?_;simp(maxSteps:=2000000) only[Ty.w,simprocAttr,g1,g2,g89,g90,g91,hlen,hdk,hr,wd];cases b with
          |false=>
           subst hinv;(repeat'(first|refine a_seq fun K hK=>?_|(refine a_block ?_)|((first|refine a_regionS ?_|refine a_region (fun K hK=>?_)|refine a_ret ?_);simp(maxSteps:=2000000) only[Ty.w,simprocAttr,g1,g2,g89,g90,g91,w7,Bool.not_false])|((first|refine a_skip ?_|refine a_exit ?_);try simp only[pst0,simprocAttr])|(refine a_cond _ (by(try simp(maxSteps:=2000000) only[Ty.w,simprocAttr,g1,g2,g89,g90,g91,w7,Bool.not_false]);rfl) (fun hb=>?_) (fun hb=>?_)<;>(try simp only[hb0,decide_eq_true_eq,decide_eq_false_iff_not,simprocAttr]at hb)<;>(try(exfalso;omega)))|(with_reducible refine ite_in (fun hb=>?_) (fun hb=>?_)<;>(try simp only[Decidable.not_not]at hb)<;>(try simp only[hb,if_true,if_false,not_false_eq_true,not_true_eq_false, ↓reduceIte])<;>(try simp only[hb0,decide_eq_true_eq,decide_eq_false_iff_not,simprocAttr]at hb)<;>(try(exfalso;omega)))|((first|refine hK _ _ ?_|(clear hK;refine hK _ _ ?_)|(clear hK;clear hK;refine hK _ _ ?_)|(clear hK;clear hK;clear hK;refine hK _ _ ?_));clear hK;try simp only[pst0,simprocAttr])|(rw[if_pos];rotate_left 1;omega;simp(maxSteps:=2000000) only[Ty.w,simprocAttr,g1,g2,g89,g90,g91,w7,Bool.not_false])));exact hG2.put
          |true=>
           (repeat'(first|refine a_seq fun K hK=>?_|(refine a_block ?_)|((first|refine a_regionS ?_|refine a_region (fun K hK=>?_)|refine a_ret ?_);simp(maxSteps:=2000000) only[Ty.w,simprocAttr,g1,g2,g89,g90,g91,w7,Bool.not_true])|((first|refine a_skip ?_|refine a_exit ?_);try simp only[pst0,simprocAttr])|(refine a_cond _ (by(try simp(maxSteps:=2000000) only[Ty.w,simprocAttr,g1,g2,g89,g90,g91,w7,Bool.not_true]);rfl) (fun hb=>?_) (fun hb=>?_)<;>(try simp only[hb0,decide_eq_true_eq,decide_eq_false_iff_not,simprocAttr]at hb)<;>(try(exfalso;omega)))|(with_reducible refine ite_in (fun hb=>?_) (fun hb=>?_)<;>(try simp only[Decidable.not_not]at hb)<;>(try simp only[hb,if_true,if_false,not_false_eq_true,not_true_eq_false, ↓reduceIte])<;>(try simp only[hb0,decide_eq_true_eq,decide_eq_false_iff_not,simprocAttr]at hb)<;>(try(exfalso;omega)))|((first|refine hK _ _ ?_|(clear hK;refine hK _ _ ?_)|(clear hK;clear hK;refine hK _ _ ?_)|(clear hK;clear hK;clear hK;refine hK _ _ ?_));clear hK;try simp only[pst0,simprocAttr])|(rw[if_pos];rotate_left 1;omega;simp(maxSteps:=2000000) only[Ty.w,simprocAttr,g1,g2,g89,g90,g91,w7,Bool.not_true])));exact⟨kids.length-(k+1),by omega,k+1,n'',by simp,by omega,rfl,hle rfl,hG2.put,hinv⟩
         ·have hdk:decide ((k:Int)<(kids.length:Int))=false:=(by simp;omega);rw[List.drop_eq_nil_of_le (by omega)]at hinv;simp only[svalids]at hinv;subst hinv;(repeat'(first|refine a_seq fun K hK=>?_|(refine a_block ?_)|((first|refine a_regionS ?_|refine a_region (fun K hK=>?_)|refine a_ret ?_);simp(maxSteps:=2000000) only[Ty.w,simprocAttr,g1,g2,g89,g90,g91,hdk])|((first|refine a_skip ?_|refine a_exit ?_);try simp only[pst0,simprocAttr])|(refine a_cond _ (by(try simp(maxSteps:=2000000) only[Ty.w,simprocAttr,g1,g2,g89,g90,g91,hdk]);rfl) (fun hb=>?_) (fun hb=>?_)<;>(try simp only[hb0,decide_eq_true_eq,decide_eq_false_iff_not,simprocAttr]at hb)<;>(try(exfalso;omega)))|(with_reducible refine ite_in (fun hb=>?_) (fun hb=>?_)<;>(try simp only[Decidable.not_not]at hb)<;>(try simp only[hb,if_true,if_false,not_false_eq_true,not_true_eq_false, ↓reduceIte])<;>(try simp only[hb0,decide_eq_true_eq,decide_eq_false_iff_not,simprocAttr]at hb)<;>(try(exfalso;omega)))|((first|refine hK _ _ ?_|(clear hK;refine hK _ _ ?_)|(clear hK;clear hK;refine hK _ _ ?_)|(clear hK;clear hK;clear hK;refine hK _ _ ?_));clear hK;try simp only[pst0,simprocAttr])|(rw[if_pos];rotate_left 1;omega;simp(maxSteps:=2000000) only[Ty.w,simprocAttr,g1,g2,g89,g90,g91,hdk])));(try rw[hV]);first|exact⟨rfl,hG⟩|exact hG
theorem svalid_c{x:Sx}(hx:x.ok)(h:Heap):PCall Tryz.prog 30 [.agg x.cells] h fun r h'=>r= .sc (.bool (svalid x 0 0).1)∧h'=h:=by
 have hc:=valid_c x hx 0 0 (by omega) (by omega) h.next ((h.new (.arr 1 [[.sc (.int .i64 0)]])).set h.next (.arr 1 [[.sc (.int .i64 0)]])) (by simp[Heap.set,cntO])
 refine PCall.quiet Ty.hb_30 ?_;generalize svalid x 0 0=W at hc;obtain⟨b,n⟩:=W;obtain⟨ki,va,li,co,te,ks⟩:=x;simp only[Sx.cells,Int.natCast_zero]at hc⊢;refine pcall_body (ow:=fun _=>false) (wf:=fun _=>false) Ty.mixed Tryz.func30 rfl Ty.hb_30 (by rw[Tryz.ntmps30];simp) ?_;rw[Tryz.ntmps30,Tryz.results30];repeat'(first|refine a_seq fun K hK=>?_|(refine a_block ?_)|((first|refine a_regionS ?_|refine a_region (fun K hK=>?_)|refine a_ret ?_);simp(maxSteps:=2000000) only[Ty.w,simprocAttr])|((first|refine a_skip ?_|refine a_exit ?_);try simp only[pst0,simprocAttr])|(refine a_cond _ (by(try simp(maxSteps:=2000000) only[Ty.w,simprocAttr]);rfl) (fun hb=>?_) (fun hb=>?_)<;>(try simp only[hb0,decide_eq_true_eq,decide_eq_false_iff_not,simprocAttr]at hb)<;>(try(exfalso;omega)))|(with_reducible refine ite_in (fun hb=>?_) (fun hb=>?_)<;>(try simp only[Decidable.not_not]at hb)<;>(try simp only[hb,if_true,if_false,not_false_eq_true,not_true_eq_false, ↓reduceIte])<;>(try simp only[hb0,decide_eq_true_eq,decide_eq_false_iff_not,simprocAttr]at hb)<;>(try(exfalso;omega)))|((first|refine hK _ _ ?_|(clear hK;refine hK _ _ ?_)|(clear hK;clear hK;refine hK _ _ ?_)|(clear hK;clear hK;clear hK;refine hK _ _ ?_));clear hK;try simp only[pst0,simprocAttr])|(rw[if_pos];rotate_left 1;omega;simp(maxSteps:=2000000) only[Ty.w,simprocAttr]))
 refine owp_useH (hc) (by(try simp only[Ty.w,simprocAttr,]);try rfl) ?_;simp(maxSteps:=2000000) only[Ty.w,simprocAttr,];repeat'(first|refine a_seq fun K hK=>?_|(refine a_block ?_)|((first|refine a_regionS ?_|refine a_region (fun K hK=>?_)|refine a_ret ?_);simp(maxSteps:=2000000) only[Ty.w,simprocAttr])|((first|refine a_skip ?_|refine a_exit ?_);try simp only[pst0,simprocAttr])|(refine a_cond _ (by(try simp(maxSteps:=2000000) only[Ty.w,simprocAttr]);rfl) (fun hb=>?_) (fun hb=>?_)<;>(try simp only[hb0,decide_eq_true_eq,decide_eq_false_iff_not,simprocAttr]at hb)<;>(try(exfalso;omega)))|(with_reducible refine ite_in (fun hb=>?_) (fun hb=>?_)<;>(try simp only[Decidable.not_not]at hb)<;>(try simp only[hb,if_true,if_false,not_false_eq_true,not_true_eq_false, ↓reduceIte])<;>(try simp only[hb0,decide_eq_true_eq,decide_eq_false_iff_not,simprocAttr]at hb)<;>(try(exfalso;omega)))|((first|refine hK _ _ ?_|(clear hK;refine hK _ _ ?_)|(clear hK;clear hK;refine hK _ _ ?_)|(clear hK;clear hK;clear hK;refine hK _ _ ?_));clear hK;try simp only[pst0,simprocAttr])|(rw[if_pos];rotate_left 1;omega;simp(maxSteps:=2000000) only[Ty.w,simprocAttr]))
 exact(((Grow.refl h).new _).set (Nat.le_refl _) _).set (Nat.le_refl _) _
end Go.Proofs.YtjgkmmjnbcbmpaaGreat
namespace Go.Proofs.YtjgkmmjnbcbmpaaGreat
open Go.AM
set_option maxHeartbeats 2000000
set_option maxRecDepth 20000
mutual
def decR(h:Heap):Nat→List PV→Option Sx
 |0,_=>none
 |k+1,[.sc (.int .i64 a),.sc (.int .i64 b),.sc (.int .i64 c),.sc (.int .i64 d),.sc (.string t),ks]=>match ks with
  | .imm z rows=>if z=6∧ -9223372036854775808≤a∧a≤9223372036854775807∧ -9223372036854775808≤b∧b≤9223372036854775807∧t.size≤bigN∧rows.length≤bigN then(decRs h k rows).map fun l=> .mk a b c d t l else none
  | .own id off len=>match h.obj id with
   |some (.arr z rows)=>if z=6∧off+len≤rows.length∧ -9223372036854775808≤a∧a≤9223372036854775807∧ -9223372036854775808≤b∧b≤9223372036854775807∧t.size≤bigN∧len≤bigN then(decRs h k ((rows.drop off).take len)).map fun l=> .mk a b c d t l else none
   |_=>none
  | .emp=>if-9223372036854775808≤a∧a≤9223372036854775807∧ -9223372036854775808≤b∧b≤9223372036854775807∧t.size≤bigN then some (.mk a b c d t [])else none
  | .sc (.slice none 0 0)=>if-9223372036854775808≤a∧a≤9223372036854775807∧ -9223372036854775808≤b∧b≤9223372036854775807∧t.size≤bigN then some (.mk a b c d t [])else none
  |_=>none
 |_,_=>none
def decRs(h:Heap):Nat→List (List PV)→Option (List Sx)
 |0,_=>none
 |_+1,[]=>some []
 |k+1,r::rs=>match decR h k r with
  |some x=>(decRs h k rs).map (x::·)
  |none=>none
end
def decOk(β:Env)(h:Heap)(w:World)(k:Nat):Prop:= ∀ (r:List PV)(x:Sx),decR h k r=some x→x.ok∧r.length=6∧(∀ b o,RepS β h.next (Fz β (arrless h) w) w r b o→RepS β h.next (Fz β (arrless h) w) w x.cells b o)∧ ∀ vs,RepL β h.next (Fz β (arrless h) w) w r vs→RepL β h.next (Fz β (arrless h) w) w x.cells vs
def decsOk(β:Env)(h:Heap)(w:World)(k:Nat):Prop:= ∀ (rs:List (List PV))(l:List Sx),decRs h k rs=some l→Sx.oks l∧l.length=rs.length∧ ∀ b o,RepR β h.next (Fz β (arrless h) w) w 6 rs b o→RepR β h.next (Fz β (arrless h) w) w 6 (Sx.rows l) b o
theorem decs_of{β:Env}{hp:Heap}{w:World}(k:Nat)(h1:decOk β hp w k)(h2:decsOk β hp w k):decsOk β hp w (k+1):=by
 intro rs l h;cases rs with
 |nil=>
  simp only[decRs,Option.some.injEq]at h;subst h;exact⟨by simp only[Sx.oks],rfl,fun b o hr=>by simpa only[Sx.rows]using hr⟩
 |cons r rs=>
  simp only[decRs]at h;split at h
  ·rename_i x hx;simp only[Option.map_eq_some_iff]at h;obtain⟨l',hl,rfl⟩:=h;obtain⟨a1,a2,a3,_⟩:=h1 r x hx;obtain⟨b1,b2,b3⟩:=h2 rs l' hl;refine⟨by simp only[Sx.oks];exact⟨a1,b1⟩,by simp[b2],fun b o hr=>?_⟩;simp only[Sx.rows,RepR]at hr⊢;exact⟨⟨Sx.cells_len x,a3 b o hr.1.2⟩,b3 b _ hr.2⟩
  ·simp at h
theorem dec_of{β:Env}{hp:Heap}{w:World}(sm:Sim β hp w)(k:Nat)(h2:decsOk β hp w k):decOk β hp w (k+1):=by
 intro r x h;unfold decR at h;split at h
 case h_1=>simp at h
 case h_3=>simp at h
 rename_i kk a b c d t ks hkk;have:kk=k:=by omega
 subst this;have key: ∀ (l:List Sx),(∀ v,Rep β hp.next (Fz β (arrless hp) w) w ks v→Rep β hp.next (Fz β (arrless hp) w) w (.imm 6 (Sx.rows l)) v)→(∀ bb o,RepS β hp.next (Fz β (arrless hp) w) w [.sc (.int .i64 a),.sc (.int .i64 b),.sc (.int .i64 c),.sc (.int .i64 d),.sc (.string t),ks] bb o→RepS β hp.next (Fz β (arrless hp) w) w (Sx.mk a b c d t l).cells bb o)∧ ∀ vs,RepL β hp.next (Fz β (arrless hp) w) w [.sc (.int .i64 a),.sc (.int .i64 b),.sc (.int .i64 c),.sc (.int .i64 d),.sc (.string t),ks] vs→RepL β hp.next (Fz β (arrless hp) w) w (Sx.mk a b c d t l).cells vs:=by
  intro l hk;constructor
  ·intro bb o hr;simp only[Sx.cells,RepS,sPV]at hr⊢;obtain⟨r1,r2,r3,r4,r5,⟨v,g1,g2,g3⟩,r7⟩:=hr;exact⟨r1,r2,r3,r4,r5,⟨v,g1,g2,hk v g3⟩,r7⟩
  ·intro vs hr
   match vs,hr.len,hr with
   |[v1,v2,v3,v4,v5,v6],_,hr=>
    simp only[Sx.cells,RepL,sPV]at hr⊢;obtain⟨r1,r2,r3,r4,r5,r6,r7⟩:=hr;exact⟨r1,r2,r3,r4,r5,hk v6 r6,r7⟩
 split at h
 ·rename_i z rows;split at h
  ·rename_i hc;obtain⟨rfl,c1,c2,c3,c4,c5,c6⟩:=hc;simp only[Option.map_eq_some_iff]at h;obtain⟨l,hl,rfl⟩:=h;obtain⟨b1,b2,b3⟩:=h2 rows l hl;obtain⟨k1,k2⟩:=key l (fun v hv=>by
    simp only[Rep]at hv⊢;obtain⟨aa,cap,e1,e2,e3,e4⟩:=hv;refine⟨aa,cap,by rw[Sx.rows_len,b2];exact e1,by rw[Sx.rows_len,b2];exact e2,e3,?_⟩;rcases e4 with e4|⟨bb,o,f1,f2,f3⟩
    ·left;have hz:l.length=0:=(by rw[b2,e4];try rfl);have:l=[]:=List.length_eq_zero_iff.1 hz;rw[this];simp only[Sx.rows]
    ·exact .inr ⟨bb,o,f1,f2,b3 bb o f3⟩)
   exact⟨by simp only[Sx.ok];exact⟨⟨c1,c2⟩,⟨c3,c4⟩,c5,by rw[b2];exact c6,b1⟩,rfl,k1,k2⟩
  ·simp at h
 ·rename_i id off len;split at h
  case h_2=>simp at h
  rename_i z rows hob;split at h
  ·rename_i hc;obtain⟨rfl,c0,c1,c2,c3,c4,c5,c6⟩:=hc;simp only[Option.map_eq_some_iff]at h;obtain⟨l,hl,rfl⟩:=h;obtain⟨b1,b2,b3⟩:=h2 _ l hl;have hlen:((rows.drop off).take len).length=len:=(by simp;omega);rw[hlen]at b2;have mvS:Mv β hp.next (Fz β hp w) w β hp.next (Fz β (arrless hp) w) w:=⟨Nat.le_refl _,fun _ _ _=>rfl,fun b hb=>⟨⟨hb.1,fun id hs=>hb.2.1 id (by
    obtain⟨o,ho⟩:=Option.isSome_iff_exists.1 hs;rw[arrless_some ho];try rfl),hb.2.2⟩,rfl⟩,rfl⟩
   have hk0:=sm.ok id _ hob;have hk:=ObjOk.mv mvS (fun _ _=>rfl) hk0;obtain⟨k1,k2⟩:=key l (fun v hv=>by
    simp only[Rep]at hv⊢;obtain⟨hid,aa,cap,e1,e2,e3,e4⟩:=hv;refine⟨aa,cap,by rw[Sx.rows_len,b2];exact e1,by rw[Sx.rows_len,b2];exact e2,e3,?_⟩;rcases e4 with e4|⟨bb,f1,f2,f3⟩
    ·left;have hz:l.length=0:=(by omega);have:l=[]:=List.length_eq_zero_iff.1 hz;rw[this];simp only[Sx.rows]
    ·simp only[ObjOk]at hk;obtain⟨hz,hk⟩:=hk;rcases hk with⟨hk,_⟩|⟨b',c',e',fr,g1,g2,g3,g4,g5,g6⟩
     ·rw [hk]at f1;simp at f1
     ·rw [f1]at g1;simp at g1;subst g1;rw[hz]at f2;refine .inr ⟨bb,_,?_,f2,b3 bb _ ((g6.drop off).take len)⟩;refine⟨hk0.blk_lt f1,fun j hj hbb=>?_,sm.nx id (by rw[hob];try rfl) bb f1⟩;have hjl:(hp.obj j).isSome=true:=by
       obtain⟨o,ho⟩:=Option.isSome_iff_exists.1 hj;rw[arrless_some ho];try rfl
      have:=sm.inj id j (by rw[hob];try rfl) hjl bb f1 hbb;subst this;rw[arrless_blk hob hk0 f1]at hj;simp at hj)
   exact⟨by simp only[Sx.ok];exact⟨⟨c1,c2⟩,⟨c3,c4⟩,c5,by rw[b2];exact c6,b1⟩,rfl,k1,k2⟩
  ·simp at h
 ·split at h
  ·rename_i hc;obtain⟨c1,c2,c3,c4,c5⟩:=hc;simp only[Option.some.injEq]at h;subst h;obtain⟨k1,k2⟩:=key [] (fun v hv=>by
    simp only[Rep,Sx.rows]at hv⊢;obtain⟨aa,rfl⟩:=hv;exact⟨aa,0,rfl,by simp,by simp[maxLen],.inl trivial⟩)
   exact⟨by simp only[Sx.ok,Sx.oks,and_true];exact⟨⟨c1,c2⟩,⟨c3,c4⟩,c5,by simp⟩,rfl,k1,k2⟩
  ·simp at h
 ·split at h
  ·rename_i hc;obtain⟨c1,c2,c3,c4,c5⟩:=hc;simp only[Option.some.injEq]at h;subst h;obtain⟨k1,k2⟩:=key [] (fun v hv=>by
    simp only[Rep,Sx.rows]at hv⊢;subst hv;exact⟨none,0,rfl,by simp,by simp[maxLen],.inl trivial⟩)
   exact⟨by simp only[Sx.ok,Sx.oks,and_true];exact⟨⟨c1,c2⟩,⟨c3,c4⟩,c5,by simp⟩,rfl,k1,k2⟩
  ·simp at h
 ·simp at h
theorem dec_ok{β:Env}{hp:Heap}{w:World}(sm:Sim β hp w): ∀ k,decOk β hp w k∧decsOk β hp w k
 |0=>⟨fun r x h=>by simp[decR]at h,fun rs l h=>by simp[decRs]at h⟩
 |k+1=>⟨dec_of sm k (dec_ok sm k).2,decs_of k (dec_ok sm k).1 (dec_ok sm k).2⟩
theorem valid_of{cs:List PV}{x:Sx}{k:Nat}{h:Heap}(hd:decR h k cs=some x)(hok:x.ok):PCall Tryz.prog 30 [.agg cs] h fun r h'=>r= .sc (.bool (svalid x 0 0).1)∧h'=h:=by
 refine PCall.lend (svalid_c hok (arrless h)) fun β w vals sm hr=>?_;obtain⟨_,_,_,g⟩:=(dec_ok sm k).1 cs x hd;have mvS:Mv β h.next (Fz β h w) w β h.next (Fz β (arrless h) w) w:=⟨Nat.le_refl _,fun _ _ _=>rfl,fun b hb=>⟨⟨hb.1,fun id hs=>hb.2.1 id (by
  obtain⟨o,ho⟩:=Option.isSome_iff_exists.1 hs;rw[arrless_some ho];try rfl),hb.2.2⟩,rfl⟩,rfl⟩
 have hr:=RepL.mv mvS _ _ hr
 match vals,hr.len,hr with
 |[v],_,hr=>
  simp only[RepL,Rep,and_true]at hr⊢;obtain⟨xs,e1,e2,e3⟩:=hr;exact⟨xs,e1,e2,g xs e3⟩
theorem PCall.ofSim{P:Program}{f:FuncId}{args:List PV}{h:Heap}{K:PV→Heap→Prop}(hc:(∃ β w,Sim β h w)→PCall P f args h K):PCall P f args h K:=fun β w vals sm hr=>hc ⟨β,w,sm⟩ β w vals sm hr
theorem pcall_indexString{P:Program}{f:FuncId}{fn:Func}(hf:P.funcs[f]? =some fn)(hname:(fn.name== "runtime.NumGoroutine")=false)(hb:fn.body.isNone=true)(hn:Extern.findNext fn=none)(he:Extern.find fn=some Extern.BytealgIndex.index){g id:Nat}{lo hi:Int}(hg:P.globals.findIdx? (·.name== "internal/bytealg.MaxLen")=some g)(s t:ByteArray)(h:Heap)(hob:h.obj id=some (.glb g lo hi))(h2:2≤t.size)(hlo:(t.size:Int)≤lo)(hs:s.size<4294967281):
  PCall P f [.sc (.string s),.sc (.string t)] h (fun r h'=>r= .sc (.int .i64 (Go.Lib.index s.data.toList t.data.toList))∧h'=h):=by
 intro β w vals sm hr;have hk:=sm.ok id _ hob;simp only[ObjOk]at hk;obtain⟨_,_,m,hm1,_,hm⟩:=hk
 match vals,hr.len,hr with
 |[x,y],_,hr=>
  simp only[RepL,Rep]at hr;obtain⟨rfl,rfl,_⟩:=hr;refine .inr ⟨.int .i64 (Go.Lib.index s.data.toList t.data.toList),w,?_,_,h,β,_,rfl,⟨rfl,rfl⟩,sm,by simp only[RepH,Rep],Ext.refl⟩;rw[run_callFunc_extern hf hname hb hn he,Go.Lib.run_indexString s t w g m hg hm h2 (by omega) hs];try rfl
theorem ixs_ok:(Tryz.f157.name== "runtime.NumGoroutine")=false∧Tryz.f157.body.isNone=true∧Extern.findNext Tryz.f157=none∧Extern.find Tryz.f157=some Extern.BytealgIndex.index:=
 ⟨by kernel_rfl,by kernel_rfl,by kernel_rfl,by kernel_rfl⟩
theorem ixs_g:Tryz.prog.globals.findIdx? (·.name== "internal/bytealg.MaxLen")=some 0:=by kernel_rfl
def ckExt(f:FuncId)(args:List PV)(h:Heap):Option PV:=
 if f=61 then(match args with|[.sc (.string s)]=>if s.size≤9223372036854775807 then some (.sc (.bool (nameB s)))else none|_=>none)
 else if f=62 then(match args with|[.sc (.string s)]=>if s.size≤9223372036854775807 then some (.sc (.bool (varB s)))else none|_=>none)
 else if f=30 then(match args with|[.agg cs]=>(decR h 5000 cs).map fun x=> .sc (.bool (svalid x 0 0).1)|_=>none)
 else if f=153 then(match args with|[.sc (.string s),.sc (.int .u8 c)]=>some (.sc (.int .i64 (firstIdx s c.toNat.toUInt8)))|_=>none)
 else if f=157 then(match args with
  |[.sc (.string s),.sc (.string t)]=>(match h.obj 0 with
   |some (.glb 0 lo _)=>if 2≤t.size∧(t.size:Int)≤lo∧s.size<4294967281 then some (.sc (.int .i64 (Go.Lib.index s.data.toList t.data.toList)))else none
   |_=>none)
  |_=>none)
 else none
theorem ckExt_ok:ExtOk2 Tryz.prog ckExt:=by
 intro f args r h hx;unfold ckExt at hx;split at hx
 ·rename_i hf;split at hx
  ·split at hx
   ·rename_i hs;simp only[Option.some.injEq]at hx;subst hx;subst hf;exact fname_c hs
   ·simp at hx
  ·simp at hx
 split at hx
 ·rename_i hf;split at hx
  ·split at hx
   ·rename_i hs;simp only[Option.some.injEq]at hx;subst hx;subst hf;exact fvariable_c hs
   ·simp at hx
  ·simp at hx
 split at hx
 ·rename_i hf;split at hx
  ·simp only[Option.map_eq_some_iff]at hx;obtain⟨x,hd,rfl⟩:=hx;subst hf;exact PCall.ofSim fun⟨β,w,sm⟩=>valid_of hd ((dec_ok sm 5000).1 _ x hd).1
  ·simp at hx
 split at hx
 ·rename_i hf;split at hx
  ·simp only[Option.some.injEq]at hx;subst hx;subst hf;exact pcall_indexByte Tryz.func153 ixb_ok.1 ixb_ok.2.1 ixb_ok.2.2.1 ixb_ok.2.2.2 _ _ _
  ·simp at hx
 split at hx
 ·rename_i hf;split at hx
  ·split at hx
   ·rename_i hob;split at hx
    ·rename_i hc;simp only[Option.some.injEq]at hx;subst hx;subst hf;exact pcall_indexString Tryz.func157 ixs_ok.1 ixs_ok.2.1 ixs_ok.2.2.1 ixs_ok.2.2.2 ixs_g _ _ _ hob hc.1 hc.2.1 hc.2.2
    ·simp at hx
   ·simp at hx
  ·simp at hx
 ·simp at hx
end Go.Proofs.YtjgkmmjnbcbmpaaGreat
namespace Go.AM
def subI:List UInt8→List UInt8→Bool
 |[],t=>t.isEmpty
 |b::l,t=>t.isPrefixOf (b::l)||subI l t
def resvL:List UInt8:=[32,97,110,100,32,111,114,32,110,111,116,32,105,109,112,108,121,32,102,111,114,97,108,108,32,101,120,105,115,116,115,32,119,104,101,110,32,97,115,115,105,103,110,32,105,110,99,114,101,97,115,101,32,100,101,99,114,101,97,115,101,32,111,98,106,101,99,116,32]
theorem subI_drop: ∀ {l t:List UInt8},subI l t=true→ ∃ i,i≤l.length∧t.isPrefixOf (l.drop i)=true
 |[],t,h=>⟨0,by simp,by
   unfold subI at h;cases t with
   |nil=>rfl
   |cons _ _=>cases h⟩
 |b::l,t,h=>by
  unfold subI at h;rw[Bool.or_eq_true]at h;rcases h with h|h
  ·exact ⟨0,by simp,h⟩
  ·obtain ⟨i,h1,h2⟩:=subI_drop h;exact⟨i+1,by simp;omega,h2⟩
theorem pre_split: ∀ {s l:List UInt8},(s++[32]).isPrefixOf l=true→(∀ c∈s,c≠32)→s=l.takeWhile fun c=>c !=32
 |[],[],h,_=>by simp at h
 |[],c::l,h,_=>by
  simp at h;subst h;simp
 |a::s,[],h,_=>by simp at h
 |a::s,c::l,h,hs=>by
  simp only[List.cons_append,List.isPrefixOf,Bool.and_eq_true,beq_iff_eq]at h;obtain⟨rfl,h⟩:=h;have ha:=hs a (List.mem_cons_self ..);have ih:=pre_split (s:=s) (l:=l) h fun c hc=>hs c (List.mem_cons_of_mem _ hc);rw[List.takeWhile_cons];simp[ha, ← ih]
def wordP(s:List UInt8):Bool:=!s.isEmpty&&!subI s [32]&&subI resvL ([32]++s++[32])
theorem sub_space: ∀ l:List UInt8,subI l [32]=l.any fun c=>c==32
 |[]=>rfl
 |c::l=>by
  unfold subI;rw[sub_space l];have:List.isPrefixOf [32] (c::l)=(c==32):=by
   simp only[List.isPrefixOf,Bool.and_true];cases q:(c==32)with
   |true=>simp at q;subst q;rfl
   |false=>cases q2:((32:UInt8)==c)with
    |false=>rfl
    |true=>simp at q2;subst q2;simp at q
  rw[this,List.any_cons]
end Go.AM
namespace Go.Proofs.YtjgkmmjnbcbmpaaGreat
open Go.AM
def wordsL:List (List UInt8):=words.map fun w=>w.data.toList
def firstW(i:Nat):List UInt8:=(resvL.drop (i+1)).takeWhile fun c=>c !=32
theorem word_tab:(List.range 70).all (fun i=>!(resvL[i]? ==some 32)||(firstW i).isEmpty||wordsL.any (fun w=>w==firstW i))=true:=by decide+kernel
theorem wordP_words(s:ByteArray):wordP s.data.toList=words.any fun w=>bEq s w:=by
 have e:(words.any fun w=>bEq s w)=wordsL.any fun w=>s.data.toList==w:=by
  unfold wordsL bEq;rw[List.any_map];try rfl
 rw[e];generalize s.data.toList=t;cases q:wordsL.any fun w=>t==w with
 |true=>
  rw[List.any_eq_true]at q;obtain⟨w,hw,h⟩:=q;have:=beq_iff_eq.1 h;subst this;have all:(wordsL.all fun w=>wordP w)=true:=by decide+kernel
  exact List.all_eq_true.1 all _ hw
 |false=>
  cases r:wordP t with
  |false=>rfl
  |true=>
   exfalso;unfold wordP at r;simp only[Bool.and_eq_true,Bool.not_eq_true']at r;obtain⟨⟨r1,r2⟩,r3⟩:=r;rw[sub_space,List.any_eq_false]at r2;obtain⟨i,hi,hp⟩:=subI_drop r3;have hl:resvL.length=69:=rfl;rw[hl]at hi;cases hd:resvL.drop i with
   |nil=>rw[hd]at hp;simp at hp
   |cons c l=>
    rw[hd]at hp;simp only[List.cons_append,List.nil_append,List.isPrefixOf,Bool.and_eq_true,beq_iff_eq]at hp;obtain⟨rfl,hp⟩:=hp;have h1:resvL[i]? =some 32:=by
     have:=congrArg (fun l=>l[0]?) hd;simpa using this
    have h2:resvL.drop (i+1)=l:=by
     have:=congrArg (List.drop 1) hd;simpa[List.drop_drop]using this
    have h3:=pre_split hp fun c hc=>(by simpa using r2 c hc);have h4:=List.all_eq_true.1 word_tab i (List.mem_range.2 (by omega));unfold firstW at h4;rw[h1,h2, ← h3,r1]at h4;simp only[beq_self_eq_true,Bool.not_true,Bool.false_or]at h4;have h5:(wordsL.any fun w=>t==w)=true:=by
     rw[List.any_eq_true]at h4⊢;obtain⟨w,hw,e⟩:=h4;exact⟨w,hw,by rw[beq_iff_eq]at e⊢;exact e.symm⟩
    rw[q]at h5;cases h5
end Go.Proofs.YtjgkmmjnbcbmpaaGreat
namespace Go.Proofs.YtjgkmmjnbcbmpaaGreat
open Go.RowKit Go.Maps Go.Sort Go.Shelf
set_option maxHeartbeats 4000000
set_option maxRecDepth 20000
def layC_ren:Ren:=⟨fun x=>match x with|144=>135|143=>148|219=>154|217=>145|225=>157|224=>158|267=>159|266=>153|314=>160|n=>n,fun x=>match x with|9=>9|4=>4|3=>3|5=>5|46=>213|146=>215|51=>214|n=>n,fun x=>match x with|1=>0|n=>n⟩
theorem layC:Lays.n144 Tryz.prog layC_ren where
 mixed:=by kernel_rfl
 f143:=Tryz.func148.trans (congrArg some (by kernel_rfl))
 f144:=Tryz.func135.trans (congrArg some (by kernel_rfl))
 f217:=Tryz.func145.trans (congrArg some (by kernel_rfl))
 f219:=Tryz.func154.trans (congrArg some (by kernel_rfl))
 f224:=Tryz.func158.trans (congrArg some (by kernel_rfl))
 f225:=Tryz.func157.trans (congrArg some (by kernel_rfl))
 f266:=Tryz.func153.trans (congrArg some (by kernel_rfl))
 f267:=Tryz.func159.trans (congrArg some (by kernel_rfl))
 f314:=Tryz.func160.trans (congrArg some (by kernel_rfl))
 t3:=Tryz.underlying3
 a3:=Tryz.isAgg3
 z3:=Tryz.sizeOf3
 v3:=Tryz.zeroValue3
 t4:=Tryz.underlying4
 a4:=Tryz.isAgg4
 z4:=Tryz.sizeOf4
 v4:=Tryz.zeroValue4
 t5:=Tryz.underlying5
 a5:=Tryz.isAgg5
 z5:=Tryz.sizeOf5
 v5:=Tryz.zeroValue5
 t9:=Tryz.underlying9
 a9:=Tryz.isAgg9
 z9:=Tryz.sizeOf9
 v9:=Tryz.zeroValue9
 t46:=Tryz.underlying213
 a46:=Tryz.isAgg213
 z46:=Tryz.sizeOf213
 v46:=Tryz.zeroValue213
 t51:=Tryz.underlying214
 a51:=Tryz.isAgg214
 z51:=Tryz.sizeOf214
 v51:=Tryz.zeroValue214
 t146:=Tryz.underlying215
 a146:=Tryz.isAgg215
 z146:=Tryz.sizeOf215
 v146:=Tryz.zeroValue215
 g1:=by kernel_rfl
end Go.Proofs.YtjgkmmjnbcbmpaaGreat
