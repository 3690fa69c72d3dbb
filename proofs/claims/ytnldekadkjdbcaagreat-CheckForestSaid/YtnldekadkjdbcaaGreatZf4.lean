/- What the claim rests on, part 4: the abstract machine, contracts of the functions, plain data. -/
import Derived.Test.YtnldekadkjdbcaaGreatProg
import Derived.Shelf.SlIter.Nil
import Derived.Shelf.SortM.Plain
import Derived.Shelf.SortM.SortNone
import Derived.Shelf.Strings.Search3
import Derived.Sort.KeysCollected
import Derived.Test.YtnldekadkjdbcaaGreatZf3
set_option linter.unusedVariables false
set_option linter.unusedSimpArgs false
set_option linter.unusedSectionVars false
namespace Go.Proofs.YtnldekadkjdbcaaGreat
open Go.AM
namespace Ty
theorem mixed:Tryz.prog.follows .mixedOrders=true:=by kernel_rfl
theorem kT_22:kT Tryz.prog 22=5:=by kernel_rfl
theorem kT_3:kT Tryz.prog 3=2:=by kernel_rfl
theorem kT_34:kT Tryz.prog 34=8:=by kernel_rfl
theorem zeroT_34:zeroT Tryz.prog 34=some [.string ⟨#[]⟩,.slice none 0 0,.slice none 0 0,.slice none 0 0,.slice none 0 0,.slice none 0 0,.slice none 0 0]:=by kernel_rfl
theorem fieldsT_34:fieldsT Tryz.prog 34=some [(0,1),(1,1),(2,1),(3,1),(4,1),(5,1),(6,1)]:=by kernel_rfl
theorem hb_5:hasBody Tryz.prog 5=true:=by kernel_rfl
theorem hb_6:hasBody Tryz.prog 6=true:=by kernel_rfl
theorem kT_24:kT Tryz.prog 24=4:=by kernel_rfl
theorem hb_7:hasBody Tryz.prog 7=true:=by kernel_rfl
theorem hb_8:hasBody Tryz.prog 8=true:=by kernel_rfl
theorem kT_26:kT Tryz.prog 26=7:=by kernel_rfl
theorem hb_10:hasBody Tryz.prog 10=true:=by kernel_rfl
theorem hb_9:hasBody Tryz.prog 9=true:=by kernel_rfl
theorem elT_22:elT Tryz.prog 22=some (2,32):=by kernel_rfl
theorem fldT_45_0:fldT Tryz.prog 45 0=some (0,1,false):=by kernel_rfl
theorem szT_9:szT Tryz.prog 9=some 1:=by kernel_rfl
theorem aggB_9:aggB Tryz.prog 9=false:=by kernel_rfl
theorem hb_11:hasBody Tryz.prog 11=true:=by kernel_rfl
theorem hb_12:hasBody Tryz.prog 12=true:=by kernel_rfl
theorem kT_4:kT Tryz.prog 4=1:=by kernel_rfl
theorem zeroT_55:zeroT Tryz.prog 55=some [.string ⟨#[]⟩,.string ⟨#[]⟩,.slice none 0 0,.slice none 0 0,.slice none 0 0,.string ⟨#[]⟩,.string ⟨#[]⟩,.slice none 0 0,.slice none 0 0,.slice none 0 0,.slice none 0 0]:=by kernel_rfl
theorem szT_34:szT Tryz.prog 34=some 7:=by kernel_rfl
theorem aggB_34:aggB Tryz.prog 34=true:=by kernel_rfl
theorem szT_55:szT Tryz.prog 55=some 11:=by kernel_rfl
theorem aggB_55:aggB Tryz.prog 55=true:=by kernel_rfl
theorem fldT_55_5:fldT Tryz.prog 55 5=some (5,6,true):=by kernel_rfl
theorem szT_53:szT Tryz.prog 53=some 6:=by kernel_rfl
theorem aggB_53:aggB Tryz.prog 53=true:=by kernel_rfl
theorem fldT_34_1:fldT Tryz.prog 34 1=some (1,1,false):=by kernel_rfl
theorem szT_22:szT Tryz.prog 22=some 1:=by kernel_rfl
theorem aggB_22:aggB Tryz.prog 22=false:=by kernel_rfl
theorem hb_18:hasBody Tryz.prog 18=true:=by kernel_rfl
theorem fldT_45_1:fldT Tryz.prog 45 1=some (1,1,false):=by kernel_rfl
theorem kT_9:kT Tryz.prog 9=3:=by kernel_rfl
theorem hb_19:hasBody Tryz.prog 19=true:=by kernel_rfl
theorem hb_20:hasBody Tryz.prog 20=true:=by kernel_rfl
theorem kT_61:kT Tryz.prog 61=2:=by kernel_rfl
theorem zvT_61:zvT Tryz.prog 61=some (.int .i64 0):=by kernel_rfl
theorem szT_45:szT Tryz.prog 45=some 2:=by kernel_rfl
theorem aggB_45:aggB Tryz.prog 45=true:=by kernel_rfl
theorem zeroT_45:zeroT Tryz.prog 45=some [.string ⟨#[]⟩,.string ⟨#[]⟩]:=by kernel_rfl
theorem hb_21:hasBody Tryz.prog 21=true:=by kernel_rfl
theorem kT_68:kT Tryz.prog 68=8:=by kernel_rfl
theorem zeroT_68:zeroT Tryz.prog 68=some [.map none]:=by kernel_rfl
theorem fieldsT_68:fieldsT Tryz.prog 68=some [(0,1)]:=by kernel_rfl
theorem fldT_68_0:fldT Tryz.prog 68 0=some (0,1,false):=by kernel_rfl
theorem szT_66:szT Tryz.prog 66=some 1:=by kernel_rfl
theorem aggB_66:aggB Tryz.prog 66=false:=by kernel_rfl
theorem mapT_66:mapT Tryz.prog 66=some (3,(.string ⟨#[]⟩)):=by kernel_rfl
theorem hb_22:hasBody Tryz.prog 22=true:=by kernel_rfl
theorem hb_23:hasBody Tryz.prog 23=true:=by kernel_rfl
theorem kT_41:kT Tryz.prog 41=5:=by kernel_rfl
theorem elT_41:elT Tryz.prog 41=some (1,16):=by kernel_rfl
theorem hb_25:hasBody Tryz.prog 25=true:=by kernel_rfl
theorem hb_24:hasBody Tryz.prog 24=true:=by kernel_rfl
theorem elZ_41:elZ Tryz.prog 41=some [.string ⟨#[]⟩]:=by kernel_rfl
theorem hb_26:hasBody Tryz.prog 26=true:=by kernel_rfl
theorem hb_28:hasBody Tryz.prog 28=true:=by kernel_rfl
theorem hb_27:hasBody Tryz.prog 27=true:=by kernel_rfl
theorem hb_29:hasBody Tryz.prog 29=true:=by kernel_rfl
theorem hb_30:hasBody Tryz.prog 30=true:=by kernel_rfl
theorem kT_80:kT Tryz.prog 80=8:=by kernel_rfl
theorem zeroT_80:zeroT Tryz.prog 80=some [.string ⟨#[]⟩,.string ⟨#[]⟩,.int .i64 0,.slice none 0 0,.slice none 0 0]:=by kernel_rfl
theorem fieldsT_80:fieldsT Tryz.prog 80=some [(0,1),(1,1),(2,1),(3,1),(4,1)]:=by kernel_rfl
theorem szT_80:szT Tryz.prog 80=some 5:=by kernel_rfl
theorem aggB_80:aggB Tryz.prog 80=true:=by kernel_rfl
theorem kT_45:kT Tryz.prog 45=8:=by kernel_rfl
theorem fieldsT_45:fieldsT Tryz.prog 45=some [(0,1),(1,1)]:=by kernel_rfl
theorem elZ_22:elZ Tryz.prog 22=some [.string ⟨#[]⟩,.string ⟨#[]⟩]:=by kernel_rfl
theorem kT_82:kT Tryz.prog 82=8:=by kernel_rfl
theorem zeroT_82:zeroT Tryz.prog 82=some [.string ⟨#[]⟩,.slice none 0 0]:=by kernel_rfl
theorem fieldsT_82:fieldsT Tryz.prog 82=some [(0,1),(1,1)]:=by kernel_rfl
theorem elT_29:elT Tryz.prog 29=some (2,40):=by kernel_rfl
theorem elZ_29:elZ Tryz.prog 29=some [.string ⟨#[]⟩,.slice none 0 0]:=by kernel_rfl
theorem kT_84:kT Tryz.prog 84=8:=by kernel_rfl
theorem zeroT_84:zeroT Tryz.prog 84=some [.string ⟨#[]⟩,.slice none 0 0,.int .i64 0,.int .i64 0]:=by kernel_rfl
theorem fieldsT_84:fieldsT Tryz.prog 84=some [(0,1),(1,1),(2,1),(3,1)]:=by kernel_rfl
theorem elT_30:elT Tryz.prog 30=some (4,56):=by kernel_rfl
theorem elZ_30:elZ Tryz.prog 30=some [.string ⟨#[]⟩,.slice none 0 0,.int .i64 0,.int .i64 0]:=by kernel_rfl
theorem elT_50:elT Tryz.prog 50=some (5,88):=by kernel_rfl
theorem elZ_50:elZ Tryz.prog 50=some [.string ⟨#[]⟩,.string ⟨#[]⟩,.int .i64 0,.slice none 0 0,.slice none 0 0]:=by kernel_rfl
theorem kT_53:kT Tryz.prog 53=8:=by kernel_rfl
theorem zeroT_53:zeroT Tryz.prog 53=some [.string ⟨#[]⟩,.string ⟨#[]⟩,.slice none 0 0,.slice none 0 0,.slice none 0 0,.slice none 0 0]:=by kernel_rfl
theorem fieldsT_53:fieldsT Tryz.prog 53=some [(0,1),(1,1),(2,1),(3,1),(4,1),(5,1)]:=by kernel_rfl
theorem elT_51:elT Tryz.prog 51=some (6,128):=by kernel_rfl
theorem elZ_51:elZ Tryz.prog 51=some [.string ⟨#[]⟩,.string ⟨#[]⟩,.slice none 0 0,.slice none 0 0,.slice none 0 0,.slice none 0 0]:=by kernel_rfl
theorem kT_87:kT Tryz.prog 87=8:=by kernel_rfl
theorem zeroT_87:zeroT Tryz.prog 87=some [.int .i64 0,.slice none 0 0,.string ⟨#[]⟩,.string ⟨#[]⟩,.slice none 0 0,.slice none 0 0,.slice none 0 0,.slice none 0 0,.string ⟨#[]⟩,.slice none 0 0,.string ⟨#[]⟩,.string ⟨#[]⟩,.int .i64 0,.slice none 0 0,.slice none 0 0]:=by kernel_rfl
theorem fieldsT_87:fieldsT Tryz.prog 87=some [(0,1),(1,1),(2,6),(8,1),(9,1),(10,5)]:=by kernel_rfl
theorem elT_88:elT Tryz.prog 88=some (15,288):=by kernel_rfl
theorem elZ_88:elZ Tryz.prog 88=some [.int .i64 0,.slice none 0 0,.string ⟨#[]⟩,.string ⟨#[]⟩,.slice none 0 0,.slice none 0 0,.slice none 0 0,.slice none 0 0,.string ⟨#[]⟩,.slice none 0 0,.string ⟨#[]⟩,.string ⟨#[]⟩,.int .i64 0,.slice none 0 0,.slice none 0 0]:=by kernel_rfl
theorem kT_90:kT Tryz.prog 90=8:=by kernel_rfl
theorem zeroT_90:zeroT Tryz.prog 90=some [.string ⟨#[]⟩,.slice none 0 0,.int .i64 0,.string ⟨#[]⟩,.string ⟨#[]⟩,.slice none 0 0,.slice none 0 0,.slice none 0 0,.slice none 0 0,.slice none 0 0]:=by kernel_rfl
theorem fieldsT_90:fieldsT Tryz.prog 90=some [(0,1),(1,1),(2,1),(3,6),(9,1)]:=by kernel_rfl
theorem elT_31:elT Tryz.prog 31=some (10,200):=by kernel_rfl
theorem elZ_31:elZ Tryz.prog 31=some [.string ⟨#[]⟩,.slice none 0 0,.int .i64 0,.string ⟨#[]⟩,.string ⟨#[]⟩,.slice none 0 0,.slice none 0 0,.slice none 0 0,.slice none 0 0,.slice none 0 0]:=by kernel_rfl
theorem kT_92:kT Tryz.prog 92=8:=by kernel_rfl
theorem zeroT_92:zeroT Tryz.prog 92=some [.string ⟨#[]⟩,.slice none 0 0]:=by kernel_rfl
theorem fieldsT_92:fieldsT Tryz.prog 92=some [(0,1),(1,1)]:=by kernel_rfl
theorem elT_48:elT Tryz.prog 48=some (2,40):=by kernel_rfl
theorem elZ_48:elZ Tryz.prog 48=some [.string ⟨#[]⟩,.slice none 0 0]:=by kernel_rfl
theorem kT_94:kT Tryz.prog 94=8:=by kernel_rfl
theorem zeroT_94:zeroT Tryz.prog 94=some [.string ⟨#[]⟩,.slice none 0 0,.int .i64 0]:=by kernel_rfl
theorem fieldsT_94:fieldsT Tryz.prog 94=some [(0,2),(2,1)]:=by kernel_rfl
theorem elT_49:elT Tryz.prog 49=some (3,48):=by kernel_rfl
theorem elZ_49:elZ Tryz.prog 49=some [.string ⟨#[]⟩,.slice none 0 0,.int .i64 0]:=by kernel_rfl
theorem kT_55:kT Tryz.prog 55=8:=by kernel_rfl
theorem fieldsT_55:fieldsT Tryz.prog 55=some [(0,1),(1,1),(2,1),(3,1),(4,1),(5,6)]:=by kernel_rfl
theorem kT_96:kT Tryz.prog 96=8:=by kernel_rfl
theorem zeroT_96:zeroT Tryz.prog 96=some [.string ⟨#[]⟩,.slice none 0 0,.int .i64 0,.string ⟨#[]⟩,.string ⟨#[]⟩,.slice none 0 0,.slice none 0 0,.slice none 0 0,.slice none 0 0,.string ⟨#[]⟩,.string ⟨#[]⟩,.slice none 0 0,.slice none 0 0,.slice none 0 0,.slice none 0 0,.string ⟨#[]⟩,.string ⟨#[]⟩,.slice none 0 0,.slice none 0 0,.slice none 0 0,.slice none 0 0,.slice none 0 0,.slice none 0 0]:=by kernel_rfl
theorem fieldsT_96:fieldsT Tryz.prog 96=some [(0,1),(1,1),(2,1),(3,6),(9,6),(15,6),(21,1),(22,1)]:=by kernel_rfl
theorem elT_32:elT Tryz.prog 32=some (23,480):=by kernel_rfl
theorem elZ_32:elZ Tryz.prog 32=some [.string ⟨#[]⟩,.slice none 0 0,.int .i64 0,.string ⟨#[]⟩,.string ⟨#[]⟩,.slice none 0 0,.slice none 0 0,.slice none 0 0,.slice none 0 0,.string ⟨#[]⟩,.string ⟨#[]⟩,.slice none 0 0,.slice none 0 0,.slice none 0 0,.slice none 0 0,.string ⟨#[]⟩,.string ⟨#[]⟩,.slice none 0 0,.slice none 0 0,.slice none 0 0,.slice none 0 0,.slice none 0 0,.slice none 0 0]:=by kernel_rfl
theorem kT_5:kT Tryz.prog 5=2:=by kernel_rfl
theorem hb_34:hasBody Tryz.prog 34=true:=by kernel_rfl
theorem hb_35:hasBody Tryz.prog 35=true:=by kernel_rfl
theorem hb_36:hasBody Tryz.prog 36=true:=by kernel_rfl
theorem kT_66:kT Tryz.prog 66=6:=by kernel_rfl
theorem intT_3:intT Tryz.prog 3=some .i64:=by kernel_rfl
theorem intT_103:intT Tryz.prog 103=some .u64:=by kernel_rfl
theorem kT_103:kT Tryz.prog 103=2:=by kernel_rfl
theorem hb_41:hasBody Tryz.prog 41=true:=by kernel_rfl
theorem zeroT_107:zeroT Tryz.prog 107=some [.int .i64 0,.int .i64 0,.int .i64 0,.int .i64 0,.string ⟨#[]⟩,.slice none 0 0]:=by kernel_rfl
theorem szT_107:szT Tryz.prog 107=some 6:=by kernel_rfl
theorem aggB_107:aggB Tryz.prog 107=true:=by kernel_rfl
theorem kT_116:kT Tryz.prog 116=8:=by kernel_rfl
theorem zeroT_116:zeroT Tryz.prog 116=some [.string ⟨#[]⟩,.slice none 0 0,.slice none 0 0,.slice none 0 0,.slice none 0 0,.slice none 0 0,.slice none 0 0,.string ⟨#[]⟩,.string ⟨#[]⟩,.slice none 0 0,.slice none 0 0,.slice none 0 0,.string ⟨#[]⟩,.string ⟨#[]⟩,.slice none 0 0,.slice none 0 0,.slice none 0 0,.slice none 0 0,.pointer none,.map none,.map none,.map none,.slice none 0 0]:=by kernel_rfl
theorem fieldsT_116:fieldsT Tryz.prog 116=some [(0,7),(7,11),(18,1),(19,1),(20,1),(21,1),(22,1)]:=by kernel_rfl
theorem fldT_116_2:fldT Tryz.prog 116 2=some (18,1,false):=by kernel_rfl
theorem szT_24:szT Tryz.prog 24=some 1:=by kernel_rfl
theorem aggB_24:aggB Tryz.prog 24=false:=by kernel_rfl
theorem elT_117:elT Tryz.prog 117=some (1,8):=by kernel_rfl
theorem elZ_117:elZ Tryz.prog 117=some [.int .i64 0]:=by kernel_rfl
theorem kT_117:kT Tryz.prog 117=5:=by kernel_rfl
theorem szT_3:szT Tryz.prog 3=some 1:=by kernel_rfl
theorem aggB_3:aggB Tryz.prog 3=false:=by kernel_rfl
theorem kT_121:kT Tryz.prog 121=2:=by kernel_rfl
theorem intT_129:intT Tryz.prog 129=some .u32:=by kernel_rfl
theorem kT_129:kT Tryz.prog 129=2:=by kernel_rfl
theorem kT_134:kT Tryz.prog 134=8:=by kernel_rfl
theorem zeroT_134:zeroT Tryz.prog 134=some [.bool false]:=by kernel_rfl
theorem fieldsT_134:fieldsT Tryz.prog 134=some [(0,1)]:=by kernel_rfl
theorem fldT_34_0:fldT Tryz.prog 34 0=some (0,1,false):=by kernel_rfl
theorem elT_105:elT Tryz.prog 105=some (6,72):=by kernel_rfl
theorem elZ_105:elZ Tryz.prog 105=some [.int .i64 0,.int .i64 0,.int .i64 0,.int .i64 0,.string ⟨#[]⟩,.slice none 0 0]:=by kernel_rfl
theorem fldT_34_2:fldT Tryz.prog 34 2=some (2,1,false):=by kernel_rfl
theorem fldT_34_3:fldT Tryz.prog 34 3=some (3,1,false):=by kernel_rfl
theorem szT_29:szT Tryz.prog 29=some 1:=by kernel_rfl
theorem aggB_29:aggB Tryz.prog 29=false:=by kernel_rfl
theorem kT_29:kT Tryz.prog 29=5:=by kernel_rfl
theorem szT_82:szT Tryz.prog 82=some 2:=by kernel_rfl
theorem aggB_82:aggB Tryz.prog 82=true:=by kernel_rfl
theorem fldT_82_0:fldT Tryz.prog 82 0=some (0,1,false):=by kernel_rfl
theorem fldT_82_1:fldT Tryz.prog 82 1=some (1,1,false):=by kernel_rfl
theorem kT_105:kT Tryz.prog 105=5:=by kernel_rfl
theorem fldT_34_4:fldT Tryz.prog 34 4=some (4,1,false):=by kernel_rfl
theorem szT_30:szT Tryz.prog 30=some 1:=by kernel_rfl
theorem aggB_30:aggB Tryz.prog 30=false:=by kernel_rfl
theorem kT_30:kT Tryz.prog 30=5:=by kernel_rfl
theorem szT_84:szT Tryz.prog 84=some 4:=by kernel_rfl
theorem aggB_84:aggB Tryz.prog 84=true:=by kernel_rfl
theorem fldT_84_0:fldT Tryz.prog 84 0=some (0,1,false):=by kernel_rfl
theorem fldT_84_1:fldT Tryz.prog 84 1=some (1,1,false):=by kernel_rfl
theorem fldT_84_2:fldT Tryz.prog 84 2=some (2,1,false):=by kernel_rfl
theorem fldT_84_3:fldT Tryz.prog 84 3=some (3,1,false):=by kernel_rfl
theorem fldT_34_5:fldT Tryz.prog 34 5=some (5,1,false):=by kernel_rfl
theorem szT_31:szT Tryz.prog 31=some 1:=by kernel_rfl
theorem aggB_31:aggB Tryz.prog 31=false:=by kernel_rfl
theorem kT_31:kT Tryz.prog 31=5:=by kernel_rfl
theorem szT_90:szT Tryz.prog 90=some 10:=by kernel_rfl
theorem aggB_90:aggB Tryz.prog 90=true:=by kernel_rfl
theorem fldT_107_5:fldT Tryz.prog 107 5=some (5,1,false):=by kernel_rfl
theorem szT_105:szT Tryz.prog 105=some 1:=by kernel_rfl
theorem aggB_105:aggB Tryz.prog 105=false:=by kernel_rfl
theorem fldT_34_6:fldT Tryz.prog 34 6=some (6,1,false):=by kernel_rfl
theorem szT_32:szT Tryz.prog 32=some 1:=by kernel_rfl
theorem aggB_32:aggB Tryz.prog 32=false:=by kernel_rfl
theorem kT_32:kT Tryz.prog 32=5:=by kernel_rfl
theorem szT_96:szT Tryz.prog 96=some 23:=by kernel_rfl
theorem aggB_96:aggB Tryz.prog 96=true:=by kernel_rfl
theorem fldT_134_0:fldT Tryz.prog 134 0=some (0,1,false):=by kernel_rfl
theorem szT_4:szT Tryz.prog 4=some 1:=by kernel_rfl
theorem aggB_4:aggB Tryz.prog 4=false:=by kernel_rfl
theorem hb_68:hasBody Tryz.prog 68=true:=by kernel_rfl
theorem kT_107:kT Tryz.prog 107=8:=by kernel_rfl
theorem fieldsT_107:fieldsT Tryz.prog 107=some [(0,1),(1,1),(2,1),(3,1),(4,1),(5,1)]:=by kernel_rfl
theorem fldT_55_0:fldT Tryz.prog 55 0=some (0,1,false):=by kernel_rfl
theorem fldT_55_1:fldT Tryz.prog 55 1=some (1,1,false):=by kernel_rfl
theorem fldT_55_2:fldT Tryz.prog 55 2=some (2,1,false):=by kernel_rfl
theorem fldT_55_3:fldT Tryz.prog 55 3=some (3,1,false):=by kernel_rfl
theorem szT_48:szT Tryz.prog 48=some 1:=by kernel_rfl
theorem aggB_48:aggB Tryz.prog 48=false:=by kernel_rfl
theorem kT_48:kT Tryz.prog 48=5:=by kernel_rfl
theorem fldT_55_4:fldT Tryz.prog 55 4=some (4,1,false):=by kernel_rfl
theorem szT_49:szT Tryz.prog 49=some 1:=by kernel_rfl
theorem aggB_49:aggB Tryz.prog 49=false:=by kernel_rfl
theorem kT_49:kT Tryz.prog 49=5:=by kernel_rfl
theorem szT_92:szT Tryz.prog 92=some 2:=by kernel_rfl
theorem aggB_92:aggB Tryz.prog 92=true:=by kernel_rfl
theorem szT_94:szT Tryz.prog 94=some 3:=by kernel_rfl
theorem aggB_94:aggB Tryz.prog 94=true:=by kernel_rfl
theorem fldT_94_0:fldT Tryz.prog 94 0=some (0,2,true):=by kernel_rfl
theorem fldT_94_1:fldT Tryz.prog 94 1=some (2,1,false):=by kernel_rfl
theorem fldT_53_0:fldT Tryz.prog 53 0=some (0,1,false):=by kernel_rfl
theorem fldT_53_5:fldT Tryz.prog 53 5=some (5,1,false):=by kernel_rfl
theorem szT_51:szT Tryz.prog 51=some 1:=by kernel_rfl
theorem aggB_51:aggB Tryz.prog 51=false:=by kernel_rfl
theorem kT_51:kT Tryz.prog 51=5:=by kernel_rfl
theorem fldT_116_0:fldT Tryz.prog 116 0=some (0,7,true):=by kernel_rfl
theorem fldT_116_6:fldT Tryz.prog 116 6=some (22,1,false):=by kernel_rfl
theorem zeroT_47:zeroT Tryz.prog 47=some [.nilFunc]:=by kernel_rfl
theorem szT_47:szT Tryz.prog 47=some 1:=by kernel_rfl
theorem aggB_47:aggB Tryz.prog 47=false:=by kernel_rfl
theorem fldT_116_1:fldT Tryz.prog 116 1=some (7,11,true):=by kernel_rfl
theorem szT_41:szT Tryz.prog 41=some 1:=by kernel_rfl
theorem aggB_41:aggB Tryz.prog 41=false:=by kernel_rfl
theorem intT_164:intT Tryz.prog 164=some .u64:=by kernel_rfl
theorem kT_164:kT Tryz.prog 164=2:=by kernel_rfl
theorem zeroT_164:zeroT Tryz.prog 164=some [.int .u64 0]:=by kernel_rfl
theorem szT_164:szT Tryz.prog 164=some 1:=by kernel_rfl
theorem aggB_164:aggB Tryz.prog 164=false:=by kernel_rfl
theorem zeroT_3:zeroT Tryz.prog 3=some [.int .i64 0]:=by kernel_rfl
theorem intT_5:intT Tryz.prog 5=some .u8:=by kernel_rfl
theorem kT_131:kT Tryz.prog 131=2:=by kernel_rfl
theorem intT_131:intT Tryz.prog 131=some .u64:=by kernel_rfl
theorem hb_105:hasBody Tryz.prog 105=true:=by kernel_rfl
theorem hb_106:hasBody Tryz.prog 106=true:=by kernel_rfl
theorem fldT_90_0:fldT Tryz.prog 90 0=some (0,1,false):=by kernel_rfl
theorem fldT_90_2:fldT Tryz.prog 90 2=some (2,1,false):=by kernel_rfl
theorem fldT_90_1:fldT Tryz.prog 90 1=some (1,1,false):=by kernel_rfl
theorem fldT_90_3:fldT Tryz.prog 90 3=some (3,6,true):=by kernel_rfl
theorem fldT_90_4:fldT Tryz.prog 90 4=some (9,1,false):=by kernel_rfl
theorem szT_88:szT Tryz.prog 88=some 1:=by kernel_rfl
theorem aggB_88:aggB Tryz.prog 88=false:=by kernel_rfl
theorem kT_88:kT Tryz.prog 88=5:=by kernel_rfl
theorem fldT_96_0:fldT Tryz.prog 96 0=some (0,1,false):=by kernel_rfl
theorem fldT_96_1:fldT Tryz.prog 96 1=some (1,1,false):=by kernel_rfl
theorem fldT_96_2:fldT Tryz.prog 96 2=some (2,1,false):=by kernel_rfl
theorem fldT_96_3:fldT Tryz.prog 96 3=some (3,6,true):=by kernel_rfl
theorem fldT_96_4:fldT Tryz.prog 96 4=some (9,6,true):=by kernel_rfl
theorem fldT_96_5:fldT Tryz.prog 96 5=some (15,6,true):=by kernel_rfl
theorem fldT_96_6:fldT Tryz.prog 96 6=some (21,1,false):=by kernel_rfl
theorem fldT_96_7:fldT Tryz.prog 96 7=some (22,1,false):=by kernel_rfl
theorem hb_112:hasBody Tryz.prog 112=true:=by kernel_rfl
theorem fldT_92_0:fldT Tryz.prog 92 0=some (0,1,false):=by kernel_rfl
theorem fldT_92_1:fldT Tryz.prog 92 1=some (1,1,false):=by kernel_rfl
theorem fldT_53_3:fldT Tryz.prog 53 3=some (3,1,false):=by kernel_rfl
theorem zeroT_185:zeroT Tryz.prog 185=some [.slice none 0 0,.slice none 0 0,.slice none 0 0]:=by kernel_rfl
theorem kT_185:kT Tryz.prog 185=9:=by kernel_rfl
theorem arT_185:arT Tryz.prog 185=some (3,1):=by kernel_rfl
theorem szT_184:szT Tryz.prog 184=some 1:=by kernel_rfl
theorem aggB_184:aggB Tryz.prog 184=false:=by kernel_rfl
theorem kT_187:kT Tryz.prog 187=8:=by kernel_rfl
theorem zeroT_187:zeroT Tryz.prog 187=some [.string ⟨#[]⟩,.string ⟨#[]⟩]:=by kernel_rfl
theorem fieldsT_187:fieldsT Tryz.prog 187=some [(0,1),(1,1)]:=by kernel_rfl
theorem elT_184:elT Tryz.prog 184=some (2,32):=by kernel_rfl
theorem elZ_184:elZ Tryz.prog 184=some [.string ⟨#[]⟩,.string ⟨#[]⟩]:=by kernel_rfl
theorem kT_184:kT Tryz.prog 184=5:=by kernel_rfl
theorem szT_185:szT Tryz.prog 185=some 3:=by kernel_rfl
theorem aggB_185:aggB Tryz.prog 185=true:=by kernel_rfl
theorem mapT_189:mapT Tryz.prog 189=some (3,(.bool false)):=by kernel_rfl
theorem fldT_116_3:fldT Tryz.prog 116 3=some (19,1,false):=by kernel_rfl
theorem szT_113:szT Tryz.prog 113=some 1:=by kernel_rfl
theorem aggB_113:aggB Tryz.prog 113=false:=by kernel_rfl
theorem fldT_116_4:fldT Tryz.prog 116 4=some (20,1,false):=by kernel_rfl
theorem szT_114:szT Tryz.prog 114=some 1:=by kernel_rfl
theorem aggB_114:aggB Tryz.prog 114=false:=by kernel_rfl
theorem fldT_116_5:fldT Tryz.prog 116 5=some (21,1,false):=by kernel_rfl
theorem mapT_113:mapT Tryz.prog 113=some (3,(.slice none 0 0)):=by kernel_rfl
theorem mapT_114:mapT Tryz.prog 114=some (3,(.agg #[.string ⟨#[]⟩,.slice none 0 0,.int .i64 0,.int .i64 0])):=by kernel_rfl
theorem elT_192:elT Tryz.prog 192=some (1,24):=by kernel_rfl
theorem elZ_192:elZ Tryz.prog 192=some [.slice none 0 0]:=by kernel_rfl
theorem kT_192:kT Tryz.prog 192=5:=by kernel_rfl
theorem hb_136:hasBody Tryz.prog 136=true:=by kernel_rfl
theorem fldT_53_1:fldT Tryz.prog 53 1=some (1,1,false):=by kernel_rfl
theorem fldT_53_2:fldT Tryz.prog 53 2=some (2,1,false):=by kernel_rfl
theorem fldT_53_4:fldT Tryz.prog 53 4=some (4,1,false):=by kernel_rfl
theorem szT_50:szT Tryz.prog 50=some 1:=by kernel_rfl
theorem aggB_50:aggB Tryz.prog 50=false:=by kernel_rfl
theorem szT_87:szT Tryz.prog 87=some 15:=by kernel_rfl
theorem aggB_87:aggB Tryz.prog 87=true:=by kernel_rfl
theorem fldT_107_0:fldT Tryz.prog 107 0=some (0,1,false):=by kernel_rfl
theorem fldT_107_4:fldT Tryz.prog 107 4=some (4,1,false):=by kernel_rfl
theorem hb_143:hasBody Tryz.prog 143=true:=by kernel_rfl
theorem hb_144:hasBody Tryz.prog 144=true:=by kernel_rfl
theorem fldT_107_1:fldT Tryz.prog 107 1=some (1,1,false):=by kernel_rfl
theorem kT_207:kT Tryz.prog 207=8:=by kernel_rfl
theorem zeroT_207:zeroT Tryz.prog 207=some [.int .i64 0]:=by kernel_rfl
theorem fieldsT_207:fieldsT Tryz.prog 207=some [(0,1)]:=by kernel_rfl
theorem kT_50:kT Tryz.prog 50=5:=by kernel_rfl
theorem fldT_87_1:fldT Tryz.prog 87 1=some (1,1,false):=by kernel_rfl
theorem fldT_87_2:fldT Tryz.prog 87 2=some (2,6,true):=by kernel_rfl
theorem szT_187:szT Tryz.prog 187=some 2:=by kernel_rfl
theorem aggB_187:aggB Tryz.prog 187=true:=by kernel_rfl
theorem fldT_187_0:fldT Tryz.prog 187 0=some (0,1,false):=by kernel_rfl
theorem fldT_187_1:fldT Tryz.prog 187 1=some (1,1,false):=by kernel_rfl
theorem hb_162:hasBody Tryz.prog 162=true:=by kernel_rfl
theorem strsT_45:strsT Tryz.prog 45=some 2:=by kernel_rfl
theorem fldT_80_0:fldT Tryz.prog 80 0=some (0,1,false):=by kernel_rfl
theorem fldT_80_1:fldT Tryz.prog 80 1=some (1,1,false):=by kernel_rfl
theorem fldT_80_2:fldT Tryz.prog 80 2=some (2,1,false):=by kernel_rfl
theorem fldT_80_3:fldT Tryz.prog 80 3=some (3,1,false):=by kernel_rfl
theorem fldT_80_4:fldT Tryz.prog 80 4=some (4,1,false):=by kernel_rfl
theorem fldT_87_3:fldT Tryz.prog 87 3=some (8,1,false):=by kernel_rfl
theorem fldT_87_4:fldT Tryz.prog 87 4=some (9,1,false):=by kernel_rfl
theorem fldT_87_0:fldT Tryz.prog 87 0=some (0,1,false):=by kernel_rfl
theorem fldT_87_5:fldT Tryz.prog 87 5=some (10,5,true):=by kernel_rfl
theorem intT_9:intT Tryz.prog 9=none:=by kernel_rfl
theorem intT_226:intT Tryz.prog 226=none:=by kernel_rfl
theorem kT_226:kT Tryz.prog 226=5:=by kernel_rfl
theorem u8T_226:u8T Tryz.prog 226=true:=by kernel_rfl
theorem elT_226:elT Tryz.prog 226=some (1,1):=by kernel_rfl
theorem szT_5:szT Tryz.prog 5=some 1:=by kernel_rfl
theorem aggB_5:aggB Tryz.prog 5=false:=by kernel_rfl
theorem hb_169:hasBody Tryz.prog 169=true:=by kernel_rfl
theorem hb_170:hasBody Tryz.prog 170=true:=by kernel_rfl
theorem hb_171:hasBody Tryz.prog 171=true:=by kernel_rfl
theorem zeroT_233:zeroT Tryz.prog 233=some [.pointer none,.slice none 0 0]:=by kernel_rfl
theorem hb_188:hasBody Tryz.prog 188=true:=by kernel_rfl
theorem fldT_207_0:fldT Tryz.prog 207 0=some (0,1,false):=by kernel_rfl
theorem hb_190:hasBody Tryz.prog 190=true:=by kernel_rfl
theorem fldT_233_1:fldT Tryz.prog 233 1=some (1,1,false):=by kernel_rfl
theorem szT_226:szT Tryz.prog 226=some 1:=by kernel_rfl
theorem aggB_226:aggB Tryz.prog 226=false:=by kernel_rfl
theorem fldT_233_0:fldT Tryz.prog 233 0=some (0,1,false):=by kernel_rfl
theorem szT_231:szT Tryz.prog 231=some 1:=by kernel_rfl
theorem aggB_231:aggB Tryz.prog 231=false:=by kernel_rfl
theorem kT_231:kT Tryz.prog 231=4:=by kernel_rfl
theorem intT_231:intT Tryz.prog 231=none:=by kernel_rfl
theorem intT_242:intT Tryz.prog 242=none:=by kernel_rfl
theorem kT_242:kT Tryz.prog 242=11:=by kernel_rfl
theorem hb_3:hasBody Tryz.prog 3=true:=by kernel_rfl
set_option maxRecDepth 20000
theorem all:type_of% (And.intro kT_22 (And.intro kT_3 (And.intro kT_34 (And.intro zeroT_34 (And.intro fieldsT_34 (And.intro kT_24 (And.intro kT_26 (And.intro elT_22 (And.intro fldT_45_0 (And.intro szT_9 (And.intro aggB_9 (And.intro kT_4 (And.intro zeroT_55 (And.intro szT_34 (And.intro aggB_34 (And.intro szT_55 (And.intro aggB_55 (And.intro fldT_55_5 (And.intro szT_53 (And.intro aggB_53 (And.intro fldT_34_1 (And.intro szT_22 (And.intro aggB_22 (And.intro fldT_45_1 (And.intro kT_9 (And.intro kT_61 (And.intro zvT_61 (And.intro szT_45 (And.intro aggB_45 (And.intro zeroT_45 (And.intro kT_68 (And.intro zeroT_68 (And.intro fieldsT_68 (And.intro fldT_68_0 (And.intro szT_66 (And.intro aggB_66 (And.intro mapT_66 (And.intro kT_41 (And.intro elT_41 (And.intro elZ_41 (And.intro kT_80 (And.intro zeroT_80 (And.intro fieldsT_80 (And.intro szT_80 (And.intro aggB_80 (And.intro kT_45 (And.intro fieldsT_45 (And.intro elZ_22 (And.intro kT_82 (And.intro zeroT_82 (And.intro fieldsT_82 (And.intro elT_29 (And.intro elZ_29 (And.intro kT_84 (And.intro zeroT_84 (And.intro fieldsT_84 (And.intro elT_30 (And.intro elZ_30 (And.intro elT_50 (And.intro elZ_50 (And.intro kT_53 (And.intro zeroT_53 (And.intro fieldsT_53 (And.intro elT_51 (And.intro elZ_51 (And.intro kT_87 (And.intro zeroT_87 (And.intro fieldsT_87 (And.intro elT_88 (And.intro elZ_88 (And.intro kT_90 (And.intro zeroT_90 (And.intro fieldsT_90 (And.intro elT_31 (And.intro elZ_31 (And.intro kT_92 (And.intro zeroT_92 (And.intro fieldsT_92 (And.intro elT_48 (And.intro elZ_48 (And.intro kT_94 (And.intro zeroT_94 (And.intro fieldsT_94 (And.intro elT_49 (And.intro elZ_49 (And.intro kT_55 (And.intro fieldsT_55 (And.intro kT_96 (And.intro zeroT_96 (And.intro fieldsT_96 (And.intro elT_32 (And.intro elZ_32 (And.intro kT_5 (And.intro kT_66 (And.intro intT_3 (And.intro intT_103 (And.intro kT_103 (And.intro zeroT_107 (And.intro szT_107 (And.intro aggB_107 (And.intro kT_116 (And.intro zeroT_116 (And.intro fieldsT_116 (And.intro fldT_116_2 (And.intro szT_24 (And.intro aggB_24 (And.intro elT_117 (And.intro elZ_117 (And.intro kT_117 (And.intro szT_3 (And.intro aggB_3 (And.intro kT_121 (And.intro intT_129 (And.intro kT_129 (And.intro kT_134 (And.intro zeroT_134 (And.intro fieldsT_134 (And.intro fldT_34_0 (And.intro elT_105 (And.intro elZ_105 (And.intro fldT_34_2 (And.intro fldT_34_3 (And.intro szT_29 (And.intro aggB_29 (And.intro kT_29 (And.intro szT_82 (And.intro aggB_82 (And.intro fldT_82_0 (And.intro fldT_82_1 (And.intro kT_105 (And.intro fldT_34_4 (And.intro szT_30 (And.intro aggB_30 (And.intro kT_30 (And.intro szT_84 (And.intro aggB_84 (And.intro fldT_84_0 (And.intro fldT_84_1 (And.intro fldT_84_2 (And.intro fldT_84_3 (And.intro fldT_34_5 (And.intro szT_31 (And.intro aggB_31 (And.intro kT_31 (And.intro szT_90 (And.intro aggB_90 (And.intro fldT_107_5 (And.intro szT_105 (And.intro aggB_105 (And.intro fldT_34_6 (And.intro szT_32 (And.intro aggB_32 (And.intro kT_32 (And.intro szT_96 (And.intro aggB_96 (And.intro fldT_134_0 (And.intro szT_4 (And.intro aggB_4 (And.intro kT_107 (And.intro fieldsT_107 (And.intro fldT_55_0 (And.intro fldT_55_1 (And.intro fldT_55_2 (And.intro fldT_55_3 (And.intro szT_48 (And.intro aggB_48 (And.intro kT_48 (And.intro fldT_55_4 (And.intro szT_49 (And.intro aggB_49 (And.intro kT_49 (And.intro szT_92 (And.intro aggB_92 (And.intro szT_94 (And.intro aggB_94 (And.intro fldT_94_0 (And.intro fldT_94_1 (And.intro fldT_53_0 (And.intro fldT_53_5 (And.intro szT_51 (And.intro aggB_51 (And.intro kT_51 (And.intro fldT_116_0 (And.intro fldT_116_6 (And.intro zeroT_47 (And.intro szT_47 (And.intro aggB_47 (And.intro fldT_116_1 (And.intro szT_41 (And.intro aggB_41 (And.intro intT_164 (And.intro kT_164 (And.intro zeroT_164 (And.intro szT_164 (And.intro aggB_164 (And.intro zeroT_3 (And.intro intT_5 (And.intro kT_131 (And.intro intT_131 (And.intro fldT_90_0 (And.intro fldT_90_2 (And.intro fldT_90_1 (And.intro fldT_90_3 (And.intro fldT_90_4 (And.intro szT_88 (And.intro aggB_88 (And.intro kT_88 (And.intro fldT_96_0 (And.intro fldT_96_1 (And.intro fldT_96_2 (And.intro fldT_96_3 (And.intro fldT_96_4 (And.intro fldT_96_5 (And.intro fldT_96_6 (And.intro fldT_96_7 (And.intro fldT_92_0 (And.intro fldT_92_1 (And.intro fldT_53_3 (And.intro zeroT_185 (And.intro kT_185 (And.intro arT_185 (And.intro szT_184 (And.intro aggB_184 (And.intro kT_187 (And.intro zeroT_187 (And.intro fieldsT_187 (And.intro elT_184 (And.intro elZ_184 (And.intro kT_184 (And.intro szT_185 (And.intro aggB_185 (And.intro mapT_189 (And.intro fldT_116_3 (And.intro szT_113 (And.intro aggB_113 (And.intro fldT_116_4 (And.intro szT_114 (And.intro aggB_114 (And.intro fldT_116_5 (And.intro mapT_113 (And.intro mapT_114 (And.intro elT_192 (And.intro elZ_192 (And.intro kT_192 (And.intro fldT_53_1 (And.intro fldT_53_2 (And.intro fldT_53_4 (And.intro szT_50 (And.intro aggB_50 (And.intro szT_87 (And.intro aggB_87 (And.intro fldT_107_0 (And.intro fldT_107_4 (And.intro fldT_107_1 (And.intro kT_207 (And.intro zeroT_207 (And.intro fieldsT_207 (And.intro kT_50 (And.intro fldT_87_1 (And.intro fldT_87_2 (And.intro szT_187 (And.intro aggB_187 (And.intro fldT_187_0 (And.intro fldT_187_1 (And.intro strsT_45 (And.intro fldT_80_0 (And.intro fldT_80_1 (And.intro fldT_80_2 (And.intro fldT_80_3 (And.intro fldT_80_4 (And.intro fldT_87_3 (And.intro fldT_87_4 (And.intro fldT_87_0 (And.intro fldT_87_5 (And.intro intT_9 (And.intro intT_226 (And.intro kT_226 (And.intro u8T_226 (And.intro elT_226 (And.intro szT_5 (And.intro aggB_5 (And.intro zeroT_233 (And.intro fldT_207_0 (And.intro fldT_233_1 (And.intro szT_226 (And.intro aggB_226 (And.intro fldT_233_0 (And.intro szT_231 (And.intro aggB_231 (And.intro kT_231 (And.intro intT_231 (And.intro intT_242 (kT_242))))))))))))))))))))))))))))))))))))))))))))))))))))))))))))))))))))))))))))))))))))))))))))))))))))))))))))))))))))))))))))))))))))))))))))))))))))))))))))))))))))))))))))))))))))))))))))))))))))))))))))))))))))))))))))))))))))))))))))))))))))))))))))))))))))))))))))))))))))))))))))))))))))):=And.intro kT_22 (And.intro kT_3 (And.intro kT_34 (And.intro zeroT_34 (And.intro fieldsT_34 (And.intro kT_24 (And.intro kT_26 (And.intro elT_22 (And.intro fldT_45_0 (And.intro szT_9 (And.intro aggB_9 (And.intro kT_4 (And.intro zeroT_55 (And.intro szT_34 (And.intro aggB_34 (And.intro szT_55 (And.intro aggB_55 (And.intro fldT_55_5 (And.intro szT_53 (And.intro aggB_53 (And.intro fldT_34_1 (And.intro szT_22 (And.intro aggB_22 (And.intro fldT_45_1 (And.intro kT_9 (And.intro kT_61 (And.intro zvT_61 (And.intro szT_45 (And.intro aggB_45 (And.intro zeroT_45 (And.intro kT_68 (And.intro zeroT_68 (And.intro fieldsT_68 (And.intro fldT_68_0 (And.intro szT_66 (And.intro aggB_66 (And.intro mapT_66 (And.intro kT_41 (And.intro elT_41 (And.intro elZ_41 (And.intro kT_80 (And.intro zeroT_80 (And.intro fieldsT_80 (And.intro szT_80 (And.intro aggB_80 (And.intro kT_45 (And.intro fieldsT_45 (And.intro elZ_22 (And.intro kT_82 (And.intro zeroT_82 (And.intro fieldsT_82 (And.intro elT_29 (And.intro elZ_29 (And.intro kT_84 (And.intro zeroT_84 (And.intro fieldsT_84 (And.intro elT_30 (And.intro elZ_30 (And.intro elT_50 (And.intro elZ_50 (And.intro kT_53 (And.intro zeroT_53 (And.intro fieldsT_53 (And.intro elT_51 (And.intro elZ_51 (And.intro kT_87 (And.intro zeroT_87 (And.intro fieldsT_87 (And.intro elT_88 (And.intro elZ_88 (And.intro kT_90 (And.intro zeroT_90 (And.intro fieldsT_90 (And.intro elT_31 (And.intro elZ_31 (And.intro kT_92 (And.intro zeroT_92 (And.intro fieldsT_92 (And.intro elT_48 (And.intro elZ_48 (And.intro kT_94 (And.intro zeroT_94 (And.intro fieldsT_94 (And.intro elT_49 (And.intro elZ_49 (And.intro kT_55 (And.intro fieldsT_55 (And.intro kT_96 (And.intro zeroT_96 (And.intro fieldsT_96 (And.intro elT_32 (And.intro elZ_32 (And.intro kT_5 (And.intro kT_66 (And.intro intT_3 (And.intro intT_103 (And.intro kT_103 (And.intro zeroT_107 (And.intro szT_107 (And.intro aggB_107 (And.intro kT_116 (And.intro zeroT_116 (And.intro fieldsT_116 (And.intro fldT_116_2 (And.intro szT_24 (And.intro aggB_24 (And.intro elT_117 (And.intro elZ_117 (And.intro kT_117 (And.intro szT_3 (And.intro aggB_3 (And.intro kT_121 (And.intro intT_129 (And.intro kT_129 (And.intro kT_134 (And.intro zeroT_134 (And.intro fieldsT_134 (And.intro fldT_34_0 (And.intro elT_105 (And.intro elZ_105 (And.intro fldT_34_2 (And.intro fldT_34_3 (And.intro szT_29 (And.intro aggB_29 (And.intro kT_29 (And.intro szT_82 (And.intro aggB_82 (And.intro fldT_82_0 (And.intro fldT_82_1 (And.intro kT_105 (And.intro fldT_34_4 (And.intro szT_30 (And.intro aggB_30 (And.intro kT_30 (And.intro szT_84 (And.intro aggB_84 (And.intro fldT_84_0 (And.intro fldT_84_1 (And.intro fldT_84_2 (And.intro fldT_84_3 (And.intro fldT_34_5 (And.intro szT_31 (And.intro aggB_31 (And.intro kT_31 (And.intro szT_90 (And.intro aggB_90 (And.intro fldT_107_5 (And.intro szT_105 (And.intro aggB_105 (And.intro fldT_34_6 (And.intro szT_32 (And.intro aggB_32 (And.intro kT_32 (And.intro szT_96 (And.intro aggB_96 (And.intro fldT_134_0 (And.intro szT_4 (And.intro aggB_4 (And.intro kT_107 (And.intro fieldsT_107 (And.intro fldT_55_0 (And.intro fldT_55_1 (And.intro fldT_55_2 (And.intro fldT_55_3 (And.intro szT_48 (And.intro aggB_48 (And.intro kT_48 (And.intro fldT_55_4 (And.intro szT_49 (And.intro aggB_49 (And.intro kT_49 (And.intro szT_92 (And.intro aggB_92 (And.intro szT_94 (And.intro aggB_94 (And.intro fldT_94_0 (And.intro fldT_94_1 (And.intro fldT_53_0 (And.intro fldT_53_5 (And.intro szT_51 (And.intro aggB_51 (And.intro kT_51 (And.intro fldT_116_0 (And.intro fldT_116_6 (And.intro zeroT_47 (And.intro szT_47 (And.intro aggB_47 (And.intro fldT_116_1 (And.intro szT_41 (And.intro aggB_41 (And.intro intT_164 (And.intro kT_164 (And.intro zeroT_164 (And.intro szT_164 (And.intro aggB_164 (And.intro zeroT_3 (And.intro intT_5 (And.intro kT_131 (And.intro intT_131 (And.intro fldT_90_0 (And.intro fldT_90_2 (And.intro fldT_90_1 (And.intro fldT_90_3 (And.intro fldT_90_4 (And.intro szT_88 (And.intro aggB_88 (And.intro kT_88 (And.intro fldT_96_0 (And.intro fldT_96_1 (And.intro fldT_96_2 (And.intro fldT_96_3 (And.intro fldT_96_4 (And.intro fldT_96_5 (And.intro fldT_96_6 (And.intro fldT_96_7 (And.intro fldT_92_0 (And.intro fldT_92_1 (And.intro fldT_53_3 (And.intro zeroT_185 (And.intro kT_185 (And.intro arT_185 (And.intro szT_184 (And.intro aggB_184 (And.intro kT_187 (And.intro zeroT_187 (And.intro fieldsT_187 (And.intro elT_184 (And.intro elZ_184 (And.intro kT_184 (And.intro szT_185 (And.intro aggB_185 (And.intro mapT_189 (And.intro fldT_116_3 (And.intro szT_113 (And.intro aggB_113 (And.intro fldT_116_4 (And.intro szT_114 (And.intro aggB_114 (And.intro fldT_116_5 (And.intro mapT_113 (And.intro mapT_114 (And.intro elT_192 (And.intro elZ_192 (And.intro kT_192 (And.intro fldT_53_1 (And.intro fldT_53_2 (And.intro fldT_53_4 (And.intro szT_50 (And.intro aggB_50 (And.intro szT_87 (And.intro aggB_87 (And.intro fldT_107_0 (And.intro fldT_107_4 (And.intro fldT_107_1 (And.intro kT_207 (And.intro zeroT_207 (And.intro fieldsT_207 (And.intro kT_50 (And.intro fldT_87_1 (And.intro fldT_87_2 (And.intro szT_187 (And.intro aggB_187 (And.intro fldT_187_0 (And.intro fldT_187_1 (And.intro strsT_45 (And.intro fldT_80_0 (And.intro fldT_80_1 (And.intro fldT_80_2 (And.intro fldT_80_3 (And.intro fldT_80_4 (And.intro fldT_87_3 (And.intro fldT_87_4 (And.intro fldT_87_0 (And.intro fldT_87_5 (And.intro intT_9 (And.intro intT_226 (And.intro kT_226 (And.intro u8T_226 (And.intro elT_226 (And.intro szT_5 (And.intro aggB_5 (And.intro zeroT_233 (And.intro fldT_207_0 (And.intro fldT_233_1 (And.intro szT_226 (And.intro aggB_226 (And.intro fldT_233_0 (And.intro szT_231 (And.intro aggB_231 (And.intro kT_231 (And.intro intT_231 (And.intro intT_242 (kT_242))))))))))))))))))))))))))))))))))))))))))))))))))))))))))))))))))))))))))))))))))))))))))))))))))))))))))))))))))))))))))))))))))))))))))))))))))))))))))))))))))))))))))))))))))))))))))))))))))))))))))))))))))))))))))))))))))))))))))))))))))))))))))))))))))))))))))))))))))))))))))))))))))))
theorem w:type_of% (And.intro @w0 @all):=And.intro @w0 @all
end Ty
end Go.Proofs.YtnldekadkjdbcaaGreat
namespace Go.AM
structure Pm where
 name:ByteArray
 type:ByteArray
abbrev sPV(s:ByteArray):PV:= .sc (.string s)
def strRows(l:List ByteArray):List (List PV):=l.map fun s=>[sPV s]
def pmRow(p:Pm):List PV:=[sPV p.name,sPV p.type]
def pmRows(l:List Pm):List (List PV):=l.map pmRow
theorem pmRows_get{l:List Pm}{i:Nat}{p:Pm}(h:l[i]? =some p):(pmRows l)[i]? =some [sPV p.name,sPV p.type]:=by simp[pmRows,h,pmRow]
def bEq(a b:ByteArray):Bool:=a.data.toList==b.data.toList
def bigN:Nat:=1152921504606846976
def Pm.ok(p:Pm):Prop:=p.name.size≤bigN∧p.type.size≤bigN
structure Grow(h h':Heap):Prop where
 le:h.next≤h'.next
 old: ∀ id,id<h.next→h'.obj id=h.obj id
theorem Grow.refl(h:Heap):Grow h h:=⟨Nat.le_refl _,fun _ _=>rfl⟩
theorem Grow.new{h h':Heap}(g:Grow h h')(o:AObj):Grow h (h'.new o):=
 ⟨Nat.le_trans g.le (by simp[Heap.new]),fun id hid=>by simp only[Heap.new];rw[if_neg (by have:=g.le;omega)];exact g.old id hid⟩
theorem Grow.set{h h':Heap}(g:Grow h h'){id:Nat}(hid:h.next≤id)(o:AObj):Grow h (h'.set id o):=
 ⟨g.le,fun i hi=>by simp only[Heap.set];rw[if_neg (by omega)];exact g.old i hi⟩
theorem PCall.quiet{P:Program}{f:FuncId}{args:List PV}{h:Heap}{v:Value}(hb:hasBody P f=true)(hc:PCall P f args h fun r h'=>r= .sc v∧Grow h h'):PCall P f args h fun r h'=>r= .sc v∧h'=h:=by
 refine pcall_wf hb fun hw=>PCall.drop (hc.mono ?_);rintro r h' ⟨rfl,g⟩;refine⟨.sc v,h,⟨rfl,rfl⟩,by simp only[FrzTo],Nat.le_refl _,fun id o ho=>?_⟩;have hid:=hw id (by rw[ho];try rfl);exact⟨by rw[g.old id hid];exact ho,hid,.inl ho⟩
end Go.AM
namespace Go.Proofs.YtnldekadkjdbcaaGreat
open Go.AM
set_option maxHeartbeats 2000000
set_option maxRecDepth 20000
def words:List ByteArray:=[⟨#[97,110,100]⟩,⟨#[111,114]⟩,⟨#[110,111,116]⟩,⟨#[105,109,112,108,121]⟩,⟨#[102,111,114,97,108,108]⟩,⟨#[101,120,105,115,116,115]⟩,⟨#[119,104,101,110]⟩,⟨#[97,115,115,105,103,110]⟩,⟨#[105,110,99,114,101,97,115,101]⟩,⟨#[100,101,99,114,101,97,115,101]⟩,⟨#[111,98,106,101,99,116]⟩]
theorem words_len:words.length=11:=rfl
def idxM(l:List ByteArray)(s:ByteArray):Int:=match l.findIdx? (fun w=>bEq s w)with
 |some i=>i
 |none=> -1
theorem strRows_get{l:List ByteArray}{i:Nat}{w:ByteArray}(h:l[i]? =some w):(strRows l)[i]? =some [sPV w]:=by simp[strRows,h]
theorem strRows_len(l:List ByteArray):(strRows l).length=l.length:=by simp[strRows]
theorem index_c{h:Heap}{l:List ByteArray}{s:ByteArray}(hl:l.length≤9223372036854775807):PCall Tryz.prog 41 [.imm 1 (strRows l),sPV s] h fun r h'=>r= .sc (.int .i64 (idxM l s))∧h'=h:=by
 have hlen:=strRows_len l;refine pcall_body (ow:=fun _=>false) (wf:=fun _=>false) Ty.mixed Tryz.func41 rfl Ty.hb_41 (by rw[Tryz.ntmps41];simp) ?_;rw[Tryz.ntmps41,Tryz.results41];repeat'(first|refine a_seq fun K hK=>?_|(refine a_block ?_)|((first|refine a_regionS ?_|refine a_region (fun K hK=>?_)|refine a_ret ?_);simp(maxSteps:=2000000) only[Ty.w,simprocAttr,hlen])|((first|refine a_skip ?_|refine a_exit ?_);try simp only[pst0,simprocAttr])|(refine a_cond _ (by(try simp(maxSteps:=2000000) only[Ty.w,simprocAttr,hlen]);rfl) (fun hb=>?_) (fun hb=>?_)<;>(try simp only[hb0,decide_eq_true_eq,decide_eq_false_iff_not,simprocAttr]at hb)<;>(try(exfalso;omega)))|(with_reducible refine ite_in (fun hb=>?_) (fun hb=>?_)<;>(try simp only[Decidable.not_not]at hb)<;>(try simp only[hb,if_true,if_false,not_false_eq_true,not_true_eq_false, ↓reduceIte])<;>(try simp only[hb0,decide_eq_true_eq,decide_eq_false_iff_not,simprocAttr]at hb)<;>(try(exfalso;omega)))|((first|refine hK _ _ ?_|(clear hK;refine hK _ _ ?_)|(clear hK;clear hK;refine hK _ _ ?_)|(clear hK;clear hK;clear hK;refine hK _ _ ?_));clear hK;try simp only[pst0,simprocAttr])|(rw[if_pos];rotate_left 1;omega;simp(maxSteps:=2000000) only[Ty.w,simprocAttr,hlen]))
 refine a_loop (fun m S h'=>h'=h∧S 0= .imm 1 (strRows l)∧S 1=sPV s∧S 7= .sc (.int .i64 l.length)∧ ∃ k:Nat,S 8= .sc (.int .i64 k)∧k≤l.length∧m=l.length-k∧ ∀ (i:Nat)(w:ByteArray),i<k→l[i]? =some w→bEq s w=false) l.length ?_ ?_
 ·simp only[Ty.w,simprocAttr];exact⟨0,rfl,by omega,rfl,by omega⟩
 ·rintro m S h' ⟨rfl,g0,g1,g7,k,g8,hk,rfl,hall⟩;by_cases hlt:k<l.length
  ·have hd:decide ((k:Int)<(l.length:Int))=true:=(by simp;omega);have w7:IntKind.i64.wrap ((k:Int)+1)=k+1:=(by rw[wrap64 (by omega) (by omega)]);obtain⟨w,hx⟩: ∃ w,l[k]? =some w:=⟨l[k],List.getElem?_eq_getElem hlt⟩;have hr:=strRows_get hx;cases he:bEq s w with
   |true=>
    have he':=he;unfold bEq at he';(repeat'(first|refine a_seq fun K hK=>?_|(refine a_block ?_)|((first|refine a_regionS ?_|refine a_region (fun K hK=>?_)|refine a_ret ?_);simp(maxSteps:=2000000) only[Ty.w,simprocAttr,g0,g1,g7,g8,hd,hr,he'])|((first|refine a_skip ?_|refine a_exit ?_);try simp only[pst0,simprocAttr])|(refine a_cond _ (by(try simp(maxSteps:=2000000) only[Ty.w,simprocAttr,g0,g1,g7,g8,hd,hr,he']);rfl) (fun hb=>?_) (fun hb=>?_)<;>(try simp only[hb0,decide_eq_true_eq,decide_eq_false_iff_not,simprocAttr]at hb)<;>(try(exfalso;omega)))|(with_reducible refine ite_in (fun hb=>?_) (fun hb=>?_)<;>(try simp only[Decidable.not_not]at hb)<;>(try simp only[hb,if_true,if_false,not_false_eq_true,not_true_eq_false, ↓reduceIte])<;>(try simp only[hb0,decide_eq_true_eq,decide_eq_false_iff_not,simprocAttr]at hb)<;>(try(exfalso;omega)))|((first|refine hK _ _ ?_|(clear hK;refine hK _ _ ?_)|(clear hK;clear hK;refine hK _ _ ?_)|(clear hK;clear hK;clear hK;refine hK _ _ ?_));clear hK;try simp only[pst0,simprocAttr])|(rw[if_pos];rotate_left 1;omega;simp(maxSteps:=2000000) only[Ty.w,simprocAttr,g0,g1,g7,g8,hd,hr,he'])));have:l.findIdx? (fun w=>bEq s w)=some k:=by
     rw[List.findIdx?_eq_some_iff_getElem];refine⟨hlt,?_,fun j hj=>?_⟩
     ·rw [List.getElem?_eq_getElem hlt]at hx;simp only[Option.some.injEq]at hx;rw[hx];exact he
     ·rw [hall j l[j] hj (List.getElem?_eq_getElem (by omega))];simp
    simp only[idxM,this]
   |false=>
    have he':=he;unfold bEq at he';(repeat'(first|refine a_seq fun K hK=>?_|(refine a_block ?_)|((first|refine a_regionS ?_|refine a_region (fun K hK=>?_)|refine a_ret ?_);simp(maxSteps:=2000000) only[Ty.w,simprocAttr,g0,g1,g7,g8,hd,hr,he',w7])|((first|refine a_skip ?_|refine a_exit ?_);try simp only[pst0,simprocAttr])|(refine a_cond _ (by(try simp(maxSteps:=2000000) only[Ty.w,simprocAttr,g0,g1,g7,g8,hd,hr,he',w7]);rfl) (fun hb=>?_) (fun hb=>?_)<;>(try simp only[hb0,decide_eq_true_eq,decide_eq_false_iff_not,simprocAttr]at hb)<;>(try(exfalso;omega)))|(with_reducible refine ite_in (fun hb=>?_) (fun hb=>?_)<;>(try simp only[Decidable.not_not]at hb)<;>(try simp only[hb,if_true,if_false,not_false_eq_true,not_true_eq_false, ↓reduceIte])<;>(try simp only[hb0,decide_eq_true_eq,decide_eq_false_iff_not,simprocAttr]at hb)<;>(try(exfalso;omega)))|((first|refine hK _ _ ?_|(clear hK;refine hK _ _ ?_)|(clear hK;clear hK;refine hK _ _ ?_)|(clear hK;clear hK;clear hK;refine hK _ _ ?_));clear hK;try simp only[pst0,simprocAttr])|(rw[if_pos];rotate_left 1;omega;simp(maxSteps:=2000000) only[Ty.w,simprocAttr,g0,g1,g7,g8,hd,hr,he',w7])));refine⟨l.length-(k+1),by omega,k+1,by simp,by omega,rfl,fun i w2 hi hw=>?_⟩;by_cases hik:i=k
    ·subst hik;rw[hx]at hw;simp at hw;rw[← hw];exact he
    ·exact hall i w2 (by omega) hw
  ·have hd:decide ((k:Int)<(l.length:Int))=false:=(by simp;omega);(repeat'(first|refine a_seq fun K hK=>?_|(refine a_block ?_)|((first|refine a_regionS ?_|refine a_region (fun K hK=>?_)|refine a_ret ?_);simp(maxSteps:=2000000) only[Ty.w,simprocAttr,g0,g1,g7,g8,hd])|((first|refine a_skip ?_|refine a_exit ?_);try simp only[pst0,simprocAttr])|(refine a_cond _ (by(try simp(maxSteps:=2000000) only[Ty.w,simprocAttr,g0,g1,g7,g8,hd]);rfl) (fun hb=>?_) (fun hb=>?_)<;>(try simp only[hb0,decide_eq_true_eq,decide_eq_false_iff_not,simprocAttr]at hb)<;>(try(exfalso;omega)))|(with_reducible refine ite_in (fun hb=>?_) (fun hb=>?_)<;>(try simp only[Decidable.not_not]at hb)<;>(try simp only[hb,if_true,if_false,not_false_eq_true,not_true_eq_false, ↓reduceIte])<;>(try simp only[hb0,decide_eq_true_eq,decide_eq_false_iff_not,simprocAttr]at hb)<;>(try(exfalso;omega)))|((first|refine hK _ _ ?_|(clear hK;refine hK _ _ ?_)|(clear hK;clear hK;refine hK _ _ ?_)|(clear hK;clear hK;clear hK;refine hK _ _ ?_));clear hK;try simp only[pst0,simprocAttr])|(rw[if_pos];rotate_left 1;omega;simp(maxSteps:=2000000) only[Ty.w,simprocAttr,g0,g1,g7,g8,hd])));have:l.findIdx? (fun w=>bEq s w)=none:=by
    rw[List.findIdx?_eq_none_iff];intro w hw;obtain⟨i,hi⟩:=List.getElem?_of_mem hw;have:i<l.length:=(List.getElem?_eq_some_iff.1 hi).1;exact hall i w (by omega) hi
   simp only[idxM,this]
theorem idxM_any(l:List ByteArray)(s:ByteArray):decide (idxM l s≥0)=l.any (fun w=>bEq s w):=by
 unfold idxM;cases h:l.findIdx? (fun w=>bEq s w)with
 |none=>
  rw[List.findIdx?_eq_none_iff]at h;have:l.any (fun w=>bEq s w)=false:=by simpa using h
  rw[this];try rfl
 |some i=>
  rw[List.findIdx?_eq_some_iff_getElem]at h;obtain⟨hi,h1,_⟩:=h;have:l.any (fun w=>bEq s w)=true:=List.any_eq_true.2 ⟨l[i],List.getElem_mem hi,h1⟩;rw[this];simp
theorem contains_c{h:Heap}{l:List ByteArray}{s:ByteArray}(hl:l.length≤9223372036854775807):PCall Tryz.prog 27 [.imm 1 (strRows l),sPV s] h fun r h'=>r= .sc (.bool (l.any fun w=>bEq s w))∧h'=h:=by
 refine pcall_body (ow:=fun _=>false) (wf:=fun _=>false) Ty.mixed Tryz.func27 rfl Ty.hb_27 (by rw[Tryz.ntmps27];simp) ?_;rw[Tryz.ntmps27,Tryz.results27];repeat'(first|refine a_seq fun K hK=>?_|(refine a_block ?_)|((first|refine a_regionS ?_|refine a_region (fun K hK=>?_)|refine a_ret ?_);simp(maxSteps:=2000000) only[Ty.w,simprocAttr])|((first|refine a_skip ?_|refine a_exit ?_);try simp only[pst0,simprocAttr])|(refine a_cond _ (by(try simp(maxSteps:=2000000) only[Ty.w,simprocAttr]);rfl) (fun hb=>?_) (fun hb=>?_)<;>(try simp only[hb0,decide_eq_true_eq,decide_eq_false_iff_not,simprocAttr]at hb)<;>(try(exfalso;omega)))|(with_reducible refine ite_in (fun hb=>?_) (fun hb=>?_)<;>(try simp only[Decidable.not_not]at hb)<;>(try simp only[hb,if_true,if_false,not_false_eq_true,not_true_eq_false, ↓reduceIte])<;>(try simp only[hb0,decide_eq_true_eq,decide_eq_false_iff_not,simprocAttr]at hb)<;>(try(exfalso;omega)))|((first|refine hK _ _ ?_|(clear hK;refine hK _ _ ?_)|(clear hK;clear hK;refine hK _ _ ?_)|(clear hK;clear hK;clear hK;refine hK _ _ ?_));clear hK;try simp only[pst0,simprocAttr])|(rw[if_pos];rotate_left 1;omega;simp(maxSteps:=2000000) only[Ty.w,simprocAttr]))
 refine owp_useQ (index_c (l:=l) (s:=s) hl) (by(try simp only[Ty.w,simprocAttr,]);try rfl) ?_;simp(maxSteps:=2000000) only[Ty.w,simprocAttr,];repeat'(first|refine a_seq fun K hK=>?_|(refine a_block ?_)|((first|refine a_regionS ?_|refine a_region (fun K hK=>?_)|refine a_ret ?_);simp(maxSteps:=2000000) only[Ty.w,simprocAttr])|((first|refine a_skip ?_|refine a_exit ?_);try simp only[pst0,simprocAttr])|(refine a_cond _ (by(try simp(maxSteps:=2000000) only[Ty.w,simprocAttr]);rfl) (fun hb=>?_) (fun hb=>?_)<;>(try simp only[hb0,decide_eq_true_eq,decide_eq_false_iff_not,simprocAttr]at hb)<;>(try(exfalso;omega)))|(with_reducible refine ite_in (fun hb=>?_) (fun hb=>?_)<;>(try simp only[Decidable.not_not]at hb)<;>(try simp only[hb,if_true,if_false,not_false_eq_true,not_true_eq_false, ↓reduceIte])<;>(try simp only[hb0,decide_eq_true_eq,decide_eq_false_iff_not,simprocAttr]at hb)<;>(try(exfalso;omega)))|((first|refine hK _ _ ?_|(clear hK;refine hK _ _ ?_)|(clear hK;clear hK;refine hK _ _ ?_)|(clear hK;clear hK;clear hK;refine hK _ _ ?_));clear hK;try simp only[pst0,simprocAttr])|(rw[if_pos];rotate_left 1;omega;simp(maxSteps:=2000000) only[Ty.w,simprocAttr]))
 rw[← idxM_any]
theorem reserved_c{h:Heap}:PCall Tryz.prog 136 [] h fun r h'=>r= .imm 1 (strRows words)∧h'=h:=by
 refine pcall_body (ow:=fun _=>false) (wf:=fun _=>false) Ty.mixed Tryz.func136 rfl Ty.hb_136 (by rw[Tryz.ntmps136];simp) ?_;rw[Tryz.ntmps136,Tryz.results136];repeat'(first|refine a_seq fun K hK=>?_|(refine a_block ?_)|((first|refine a_regionS ?_|refine a_region (fun K hK=>?_)|refine a_ret ?_);simp(maxSteps:=2000000) only[Ty.w,simprocAttr])|((first|refine a_skip ?_|refine a_exit ?_);try simp only[pst0,simprocAttr])|(refine a_cond _ (by(try simp(maxSteps:=2000000) only[Ty.w,simprocAttr]);rfl) (fun hb=>?_) (fun hb=>?_)<;>(try simp only[hb0,decide_eq_true_eq,decide_eq_false_iff_not,simprocAttr]at hb)<;>(try(exfalso;omega)))|(with_reducible refine ite_in (fun hb=>?_) (fun hb=>?_)<;>(try simp only[Decidable.not_not]at hb)<;>(try simp only[hb,if_true,if_false,not_false_eq_true,not_true_eq_false, ↓reduceIte])<;>(try simp only[hb0,decide_eq_true_eq,decide_eq_false_iff_not,simprocAttr]at hb)<;>(try(exfalso;omega)))|((first|refine hK _ _ ?_|(clear hK;refine hK _ _ ?_)|(clear hK;clear hK;refine hK _ _ ?_)|(clear hK;clear hK;clear hK;refine hK _ _ ?_));clear hK;try simp only[pst0,simprocAttr])|(rw[if_pos];rotate_left 1;omega;simp(maxSteps:=2000000) only[Ty.w,simprocAttr]))
 rfl
theorem rreserved_c{h:Heap}{s:ByteArray}:PCall Tryz.prog 34 [sPV s] h fun r h'=>r= .sc (.bool (words.any fun w=>bEq s w))∧h'=h:=by
 refine pcall_body (ow:=fun _=>false) (wf:=fun _=>false) Ty.mixed Tryz.func34 rfl Ty.hb_34 (by rw[Tryz.ntmps34];simp) ?_;rw[Tryz.ntmps34,Tryz.results34];repeat'(first|refine a_seq fun K hK=>?_|(refine a_block ?_)|((first|refine a_regionS ?_|refine a_region (fun K hK=>?_)|refine a_ret ?_);simp(maxSteps:=2000000) only[Ty.w,simprocAttr])|((first|refine a_skip ?_|refine a_exit ?_);try simp only[pst0,simprocAttr])|(refine a_cond _ (by(try simp(maxSteps:=2000000) only[Ty.w,simprocAttr]);rfl) (fun hb=>?_) (fun hb=>?_)<;>(try simp only[hb0,decide_eq_true_eq,decide_eq_false_iff_not,simprocAttr]at hb)<;>(try(exfalso;omega)))|(with_reducible refine ite_in (fun hb=>?_) (fun hb=>?_)<;>(try simp only[Decidable.not_not]at hb)<;>(try simp only[hb,if_true,if_false,not_false_eq_true,not_true_eq_false, ↓reduceIte])<;>(try simp only[hb0,decide_eq_true_eq,decide_eq_false_iff_not,simprocAttr]at hb)<;>(try(exfalso;omega)))|((first|refine hK _ _ ?_|(clear hK;refine hK _ _ ?_)|(clear hK;clear hK;refine hK _ _ ?_)|(clear hK;clear hK;clear hK;refine hK _ _ ?_));clear hK;try simp only[pst0,simprocAttr])|(rw[if_pos];rotate_left 1;omega;simp(maxSteps:=2000000) only[Ty.w,simprocAttr]))
 refine a_loop (fun m S h'=>h'=h∧S 0=sPV s∧S 3= .imm 1 (strRows words)∧ ∃ k:Nat,S 4= .sc (.int .i64 k)∧k≤11∧m=11-k∧ ∀ (i:Nat)(w:ByteArray),i<k→words[i]? =some w→bEq s w=false) 11 ?_ ?_
 ·simp only[Ty.w,simprocAttr];refine⟨rfl,0,rfl,by omega,rfl,by omega⟩
 ·rintro m S h' ⟨rfl,g0,g3,k,g4,hk,rfl,hall⟩;have hlen:(strRows words).length=11:=rfl;by_cases hlt:k<11
  ·have hd:decide ((k:Int)<11)=true:=(by simp;omega);have w7:IntKind.i64.wrap ((k:Int)+1)=k+1:=(by rw[wrap64 (by omega) (by omega)]);obtain⟨w,hx⟩: ∃ w,words[k]? =some w:=⟨words[k],List.getElem?_eq_getElem (by rw[words_len];exact hlt)⟩;have hr:=strRows_get hx;cases he:bEq s w with
   |true=>
    have he':(w.data.toList==s.data.toList)=true:=(by rw[BEq.comm];exact he);(repeat'(first|refine a_seq fun K hK=>?_|(refine a_block ?_)|((first|refine a_regionS ?_|refine a_region (fun K hK=>?_)|refine a_ret ?_);simp(maxSteps:=2000000) only[Ty.w,simprocAttr,g0,g3,g4,hlen,hd,hr,he'])|((first|refine a_skip ?_|refine a_exit ?_);try simp only[pst0,simprocAttr])|(refine a_cond _ (by(try simp(maxSteps:=2000000) only[Ty.w,simprocAttr,g0,g3,g4,hlen,hd,hr,he']);rfl) (fun hb=>?_) (fun hb=>?_)<;>(try simp only[hb0,decide_eq_true_eq,decide_eq_false_iff_not,simprocAttr]at hb)<;>(try(exfalso;omega)))|(with_reducible refine ite_in (fun hb=>?_) (fun hb=>?_)<;>(try simp only[Decidable.not_not]at hb)<;>(try simp only[hb,if_true,if_false,not_false_eq_true,not_true_eq_false, ↓reduceIte])<;>(try simp only[hb0,decide_eq_true_eq,decide_eq_false_iff_not,simprocAttr]at hb)<;>(try(exfalso;omega)))|((first|refine hK _ _ ?_|(clear hK;refine hK _ _ ?_)|(clear hK;clear hK;refine hK _ _ ?_)|(clear hK;clear hK;clear hK;refine hK _ _ ?_));clear hK;try simp only[pst0,simprocAttr])|(rw[if_pos];rotate_left 1;omega;simp(maxSteps:=2000000) only[Ty.w,simprocAttr,g0,g3,g4,hlen,hd,hr,he'])));rw[List.any_eq_true.2 ⟨w,List.mem_of_getElem? hx,he⟩]
   |false=>
    have he':(w.data.toList==s.data.toList)=false:=(by rw[BEq.comm];exact he);(repeat'(first|refine a_seq fun K hK=>?_|(refine a_block ?_)|((first|refine a_regionS ?_|refine a_region (fun K hK=>?_)|refine a_ret ?_);simp(maxSteps:=2000000) only[Ty.w,simprocAttr,g0,g3,g4,hlen,hd,hr,he',w7])|((first|refine a_skip ?_|refine a_exit ?_);try simp only[pst0,simprocAttr])|(refine a_cond _ (by(try simp(maxSteps:=2000000) only[Ty.w,simprocAttr,g0,g3,g4,hlen,hd,hr,he',w7]);rfl) (fun hb=>?_) (fun hb=>?_)<;>(try simp only[hb0,decide_eq_true_eq,decide_eq_false_iff_not,simprocAttr]at hb)<;>(try(exfalso;omega)))|(with_reducible refine ite_in (fun hb=>?_) (fun hb=>?_)<;>(try simp only[Decidable.not_not]at hb)<;>(try simp only[hb,if_true,if_false,not_false_eq_true,not_true_eq_false, ↓reduceIte])<;>(try simp only[hb0,decide_eq_true_eq,decide_eq_false_iff_not,simprocAttr]at hb)<;>(try(exfalso;omega)))|((first|refine hK _ _ ?_|(clear hK;refine hK _ _ ?_)|(clear hK;clear hK;refine hK _ _ ?_)|(clear hK;clear hK;clear hK;refine hK _ _ ?_));clear hK;try simp only[pst0,simprocAttr])|(rw[if_pos];rotate_left 1;omega;simp(maxSteps:=2000000) only[Ty.w,simprocAttr,g0,g3,g4,hlen,hd,hr,he',w7])));refine⟨11-(k+1),by omega,k+1,by simp,by omega,rfl,fun i w2 hi hw=>?_⟩;by_cases hik:i=k
    ·subst hik;rw[hx]at hw;simp at hw;rw[← hw];exact he
    ·exact hall i w2 (by omega) hw
  ·have hd:decide ((k:Int)<11)=false:=(by simp;omega);(repeat'(first|refine a_seq fun K hK=>?_|(refine a_block ?_)|((first|refine a_regionS ?_|refine a_region (fun K hK=>?_)|refine a_ret ?_);simp(maxSteps:=2000000) only[Ty.w,simprocAttr,g0,g3,g4,hlen,hd])|((first|refine a_skip ?_|refine a_exit ?_);try simp only[pst0,simprocAttr])|(refine a_cond _ (by(try simp(maxSteps:=2000000) only[Ty.w,simprocAttr,g0,g3,g4,hlen,hd]);rfl) (fun hb=>?_) (fun hb=>?_)<;>(try simp only[hb0,decide_eq_true_eq,decide_eq_false_iff_not,simprocAttr]at hb)<;>(try(exfalso;omega)))|(with_reducible refine ite_in (fun hb=>?_) (fun hb=>?_)<;>(try simp only[Decidable.not_not]at hb)<;>(try simp only[hb,if_true,if_false,not_false_eq_true,not_true_eq_false, ↓reduceIte])<;>(try simp only[hb0,decide_eq_true_eq,decide_eq_false_iff_not,simprocAttr]at hb)<;>(try(exfalso;omega)))|((first|refine hK _ _ ?_|(clear hK;refine hK _ _ ?_)|(clear hK;clear hK;refine hK _ _ ?_)|(clear hK;clear hK;clear hK;refine hK _ _ ?_));clear hK;try simp only[pst0,simprocAttr])|(rw[if_pos];rotate_left 1;omega;simp(maxSteps:=2000000) only[Ty.w,simprocAttr,g0,g3,g4,hlen,hd])));have:words.any (fun w=>bEq s w)=false:=by
    rw[List.any_eq_false];intro w hw;obtain⟨i,hi⟩:=List.getElem?_of_mem hw;have:i<words.length:=(List.getElem?_eq_some_iff.1 hi).1;rw[words_len]at this;rw[hall i w (by omega) hi];simp
   rw[this]
def letB(c:UInt8):Bool:=decide (97≤c.toNat)&&decide (c.toNat≤122)
def midB(c:UInt8):Bool:=letB c||(decide (48≤c.toNat)&&decide (c.toNat≤57))||decide (c.toNat=45)||decide (c.toNat=95)
def okAt(i:Nat)(c:UInt8):Bool:=letB c||(decide (i≠0)&&midB c)
def bytesOkB:List UInt8→Bool
 |[]=>true
 |c::l=>letB c&&l.all midB
def nameB(s:ByteArray):Bool:=bytesOkB s.data.toList&&decide (0<s.size)&&decide (s.size≤32)&&!(words.any fun w=>bEq s w)
def varB(s:ByteArray):Bool:=decide (2≤s.size)&&decide (s.size≤32)&&(match s.data.toList[0]? with|some c=>decide (c.toNat=63)|none=>false)&&nameB (s.extract 1 s.size)
theorem ba_get(s:ByteArray)(i:Nat):s[i]? =s.data.toList[i]?:=by
 rw[getElem?_def];by_cases hi:i<s.size
 ·rw [dif_pos hi,List.getElem?_eq_getElem (by simpa using hi)];rfl
 ·rw [dif_neg hi,List.getElem?_eq_none (by simp;omega)]
theorem letB_mid{c:UInt8}(h:letB c=true):midB c=true:=by simp[midB,h]
theorem bytesOk_true{l:List UInt8}(h: ∀ (j:Nat)(c:UInt8),l[j]? =some c→okAt j c=true):bytesOkB l=true:=by
 cases l with
 |nil=>rfl
 |cons c l=>
  simp only[bytesOkB,Bool.and_eq_true,List.all_eq_true];refine⟨by simpa[okAt]using h 0 c rfl,fun x hx=>?_⟩;obtain⟨i,hi⟩:=List.getElem?_of_mem hx;have:=h (i+1) x (by simpa using hi);simp only[okAt,Bool.or_eq_true,Bool.and_eq_true]at this;exact this.elim letB_mid (·.2)
theorem bytesOk_false{l:List UInt8}{j:Nat}{c:UInt8}(hj:l[j]? =some c)(h:okAt j c=false):bytesOkB l=false:=by
 cases l with
 |nil=>simp at hj
 |cons d l=>
  cases j with
  |zero=>
   simp at hj;subst hj;simp only[okAt]at h;simp at h;simp[bytesOkB,h]
  |succ j=>
   simp at hj;have hm:midB c=false:=(by simp[okAt]at h;exact h.2);have:l.all midB=false:=(by rw[List.all_eq_false];exact⟨c,List.mem_of_getElem? hj,by simp[hm]⟩);simp[bytesOkB,this]
end Go.Proofs.YtnldekadkjdbcaaGreat
namespace Go.AM
def subI:List UInt8→List UInt8→Bool
 |[],t=>t.isEmpty
 |b::l,t=>t.isPrefixOf (b::l)||subI l t
def resvL:List UInt8:=[32,97,110,100,32,111,114,32,110,111,116,32,105,109,112,108,121,32,102,111,114,97,108,108,32,101,120,105,115,116,115,32,119,104,101,110,32,97,115,115,105,103,110,32,105,110,99,114,101,97,115,101,32,100,101,99,114,101,97,115,101,32,111,98,106,101,99,116,32]
theorem subI_drop: ∀ {l t:List UInt8},subI l t=true→ ∃ i,i≤l.length∧t.isPrefixOf (l.drop i)=true
 |[],t,h=>⟨0,by simp,by
   unfold subI at h;cases t with
   |nil=>rfl
   |cons _ _=>cases h⟩
 |b::l,t,h=>by
  unfold subI at h;rw[Bool.or_eq_true]at h;rcases h with h|h
  ·exact ⟨0,by simp,h⟩
  ·obtain ⟨i,h1,h2⟩:=subI_drop h;exact⟨i+1,by simp;omega,h2⟩
theorem pre_split: ∀ {s l:List UInt8},(s++[32]).isPrefixOf l=true→(∀ c∈s,c≠32)→s=l.takeWhile fun c=>c !=32
 |[],[],h,_=>by simp at h
 |[],c::l,h,_=>by
  simp at h;subst h;simp
 |a::s,[],h,_=>by simp at h
 |a::s,c::l,h,hs=>by
  simp only[List.cons_append,List.isPrefixOf,Bool.and_eq_true,beq_iff_eq]at h;obtain⟨rfl,h⟩:=h;have ha:=hs a (List.mem_cons_self ..);have ih:=pre_split (s:=s) (l:=l) h fun c hc=>hs c (List.mem_cons_of_mem _ hc);rw[List.takeWhile_cons];simp[ha, ← ih]
def wordP(s:List UInt8):Bool:=!s.isEmpty&&!subI s [32]&&subI resvL ([32]++s++[32])
theorem sub_space: ∀ l:List UInt8,subI l [32]=l.any fun c=>c==32
 |[]=>rfl
 |c::l=>by
  unfold subI;rw[sub_space l];have:List.isPrefixOf [32] (c::l)=(c==32):=by
   simp only[List.isPrefixOf,Bool.and_true];cases q:(c==32)with
   |true=>simp at q;subst q;rfl
   |false=>cases q2:((32:UInt8)==c)with
    |false=>rfl
    |true=>simp at q2;subst q2;simp at q
  rw[this,List.any_cons]
end Go.AM
namespace Go.Proofs.YtnldekadkjdbcaaGreat
open Go.AM
def wordsL:List (List UInt8):=words.map fun w=>w.data.toList
def firstW(i:Nat):List UInt8:=(resvL.drop (i+1)).takeWhile fun c=>c !=32
theorem word_tab:(List.range 70).all (fun i=>!(resvL[i]? ==some 32)||(firstW i).isEmpty||wordsL.any (fun w=>w==firstW i))=true:=by decide+kernel
theorem wordP_words(s:ByteArray):wordP s.data.toList=words.any fun w=>bEq s w:=by
 have e:(words.any fun w=>bEq s w)=wordsL.any fun w=>s.data.toList==w:=by
  unfold wordsL bEq;rw[List.any_map];try rfl
 rw[e];generalize s.data.toList=t;cases q:wordsL.any fun w=>t==w with
 |true=>
  rw[List.any_eq_true]at q;obtain⟨w,hw,h⟩:=q;have:=beq_iff_eq.1 h;subst this;have all:(wordsL.all fun w=>wordP w)=true:=by decide+kernel
  exact List.all_eq_true.1 all _ hw
 |false=>
  cases r:wordP t with
  |false=>rfl
  |true=>
   exfalso;unfold wordP at r;simp only[Bool.and_eq_true,Bool.not_eq_true']at r;obtain⟨⟨r1,r2⟩,r3⟩:=r;rw[sub_space,List.any_eq_false]at r2;obtain⟨i,hi,hp⟩:=subI_drop r3;have hl:resvL.length=69:=rfl;rw[hl]at hi;cases hd:resvL.drop i with
   |nil=>rw[hd]at hp;simp at hp
   |cons c l=>
    rw[hd]at hp;simp only[List.cons_append,List.nil_append,List.isPrefixOf,Bool.and_eq_true,beq_iff_eq]at hp;obtain⟨rfl,hp⟩:=hp;have h1:resvL[i]? =some 32:=by
     have:=congrArg (fun l=>l[0]?) hd;simpa using this
    have h2:resvL.drop (i+1)=l:=by
     have:=congrArg (List.drop 1) hd;simpa[List.drop_drop]using this
    have h3:=pre_split hp fun c hc=>(by simpa using r2 c hc);have h4:=List.all_eq_true.1 word_tab i (List.mem_range.2 (by omega));unfold firstW at h4;rw[h1,h2, ← h3,r1]at h4;simp only[beq_self_eq_true,Bool.not_true,Bool.false_or]at h4;have h5:(wordsL.any fun w=>t==w)=true:=by
     rw[List.any_eq_true]at h4⊢;obtain⟨w,hw,e⟩:=h4;exact⟨w,hw,by rw[beq_iff_eq]at e⊢;exact e.symm⟩
    rw[q]at h5;cases h5
end Go.Proofs.YtnldekadkjdbcaaGreat
namespace Go.AM
def rootT:ByteArray:=⟨#[111,98,106,101,99,116]⟩
theorem bEq_iff{a b:ByteArray}:bEq a b=true↔a=b:=by
 unfold bEq;rw[beq_iff_eq];constructor
 ·intro h;cases a;cases b;simp only[Array.toList_inj]at h;simpa using h
 ·rintro rfl;rfl
theorem bEq_refl(a:ByteArray):bEq a a=true:=bEq_iff.2 rfl
def parT:List Pm→ByteArray→Option ByteArray
 |[],_=>none
 |p::l,t=>bif bEq p.name t then some p.type else parT l t
def parD(l:List Pm)(t:ByteArray):ByteArray:=(parT l t).getD ⟨#[]⟩
def hasT(l:List Pm)(t:ByteArray):Bool:=(parT l t).isSome||bEq t rootT
def cycP(l:List Pm)(t:ByteArray):Nat→ByteArray→Bool
 |0,_=>false
 |n+1,a=>bif bEq (parD l a) t then true else bif bEq (parD l a) rootT then false else cycP l t n (parD l a)
def cycR(l:List Pm)(t:ByteArray):Nat→ByteArray→Bool
 |0,_=>false
 |n+1,a=>bif bEq a rootT then false else bif bEq a t then true else cycR l t n (parD l a)
theorem cyc_same(l:List Pm){t:ByteArray}(ht:bEq t rootT=false): ∀ (n:Nat)(a:ByteArray),cycP l t n a=cycR l t n (parD l a)
 |0,_=>rfl
 |n+1,a=>by
  have ih:=cyc_same l ht n (parD l a);simp only[cycP,cycR,ih];cases q1:bEq (parD l a) rootT with
  |false=>simp only[cond_false]
  |true=>
   cases q2:bEq (parD l a) t with
   |false=>rfl
   |true=>
    rw[bEq_iff]at q1 q2;rw[← q2,q1,bEq_refl]at ht;cases ht
def chnT(l:List Pm):Nat→ByteArray→List ByteArray
 |0,t=>[t]
 |k+1,t=>bif bEq t rootT then[t]else t::chnT l k (parD l t)
def rchT(l:List Pm):Nat→ByteArray→Bool
 |0,t=>bEq t rootT
 |k+1,t=>bif bEq t rootT then true else rchT l k (parD l t)
def isR(l:List Pm)(b:ByteArray):Nat→ByteArray→Bool
 |0,a=>bEq a b
 |k+1,a=>bif bEq a b then true else bif bEq a rootT then false else isR l b k (parD l a)
theorem isR_chn(l:List Pm)(b:ByteArray): ∀ (k:Nat)(t:ByteArray)(m:Nat),rchT l k t=true→k≤m→isR l b m t=(chnT l k t).any fun x=>bEq x b
 |0,t,m,h,_=>by
  have h':bEq t rootT=true:=h;cases m with
  |zero=>simp[isR,chnT]
  |succ m=>simp only[isR,chnT,h',cond_true,List.any_cons,List.any_nil,Bool.or_false];cases bEq t b<;>rfl
 |k+1,t,m,h,hm=>by
  obtain⟨m,rfl⟩: ∃ m',m=m'+1:=⟨m-1,by omega⟩;unfold rchT at h;unfold isR chnT;cases q:bEq t rootT with
  |true=>simp only[cond_true,List.any_cons,List.any_nil,Bool.or_false];cases bEq t b<;>rfl
  |false=>
   rw[q]at h;simp only[cond_false]at h⊢;rw[isR_chn l b k _ m h (by omega),List.any_cons];cases bEq t b<;>rfl
def itT(l:List Pm):Nat→ByteArray→ByteArray
 |0,t=>t
 |k+1,t=>itT l k (parD l t)
theorem itT_succ(l:List Pm): ∀ (k:Nat)(t:ByteArray),itT l (k+1) t=parD l (itT l k t)
 |0,_=>rfl
 |k+1,t=>itT_succ l k (parD l t)
theorem itT_add(l:List Pm): ∀ (i j:Nat)(t:ByteArray),itT l (i+j) t=itT l j (itT l i t)
 |0,j,t=>by rw[Nat.zero_add];try rfl
 |i+1,j,t=>by rw[show i+1+j=(i+j)+1 by omega];exact itT_add l i j (parD l t)
theorem not_rch(l:List Pm): ∀ (k:Nat)(t:ByteArray),rchT l k t=false→ ∀ i,i≤k→bEq (itT l i t) rootT=false
 |0,t,h,i,hi=>by
  obtain rfl:i=0:=by omega
  exact h
 |k+1,t,h,i,hi=>by
  unfold rchT at h;cases q:bEq t rootT with
  |true=>rw[q]at h;cases h
  |false=>
   rw[q]at h;cases i with
   |zero=>exact q
   |succ i=>exact not_rch l k _ h i (by omega)
theorem cyc_of(l:List Pm)(t:ByteArray): ∀ (n d:Nat)(a:ByteArray),1≤d→d≤n→itT l d a=t→(∀ e,1≤e→e<d→bEq (itT l e a) rootT=false)→cycP l t n a=true
 |0,d,a,h1,h2,_,_=>by omega
 |n+1,d,a,h1,h2,h3,h4=>by
  unfold cycP;cases q:bEq (parD l a) t with
  |true=>rfl
  |false=>
   have hd:d≠1:=fun e=>by
    subst e;have:parD l a=t:=h3;rw[this,bEq_refl]at q;cases q
   have:=h4 1 (Nat.le_refl _) (by omega);have q2:bEq (parD l a) rootT=false:=this;rw[q2];obtain⟨d,rfl⟩: ∃ d',d=d'+1:=⟨d-1,by omega⟩;exact cyc_of l t n d (parD l a) (by omega) (by omega) h3 fun e he1 he2=>h4 (e+1) (by omega) (by omega)
theorem pigeon: ∀ (L:List ByteArray)(f:Nat→ByteArray),(∀ i,i≤L.length→f i∈L)→ ∃ i j,i<j∧j≤L.length∧f i=f j
 |[],f,h=>by have:=h 0 (Nat.le_refl _);cases this
 |a::L,f,h=>by
  by_cases he: ∃ i,i≤L.length+1∧f i=a
  ·obtain ⟨i0,hi0,e0⟩:=he;by_cases h2: ∃ j,j≤L.length+1∧j≠i0∧f j=a
   ·obtain ⟨j,hj,hne,ej⟩:=h2;rcases Nat.lt_or_gt_of_ne hne with g|g
    ·exact ⟨j,i0,g,by simpa using hi0,by rw[ej,e0]⟩
    ·exact ⟨i0,j,g,by simpa using hj,by rw[ej,e0]⟩
   ·have hno: ∀ j,j≤L.length+1→j≠i0→f j∈L:=fun j hj hne=>by
     rcases List.mem_cons.1 (h j (by simpa using hj))with e|e
     ·exact absurd ⟨j,hj,hne,e⟩ h2
     ·exact e
    obtain⟨i,j,hij,hj,e⟩:=pigeon L (fun i=>f (if i<i0 then i else i+1)) fun i hi=>by
     split
     ·exact hno i (by omega) (by omega)
     ·exact hno (i+1) (by omega) (by omega)
    refine⟨if i<i0 then i else i+1,if j<i0 then j else j+1,?_,?_,e⟩
    ·split<;>split<;>omega
    ·simp only[List.length_cons];split<;>omega
  ·obtain ⟨i,j,hij,hj,e⟩:=pigeon L f fun i hi=>by
    rcases List.mem_cons.1 (h i (by simp only[List.length_cons];omega))with e|e
    ·exact absurd ⟨i,by omega,e⟩ he
    ·exact e
   exact⟨i,j,hij,by simp only[List.length_cons];omega,e⟩
theorem parT_mem: ∀ {l:List Pm}{t y:ByteArray},parT l t=some y→ ∃ p∈l,p.name=t∧p.type=y
 |p::l,t,y,h=>by
  unfold parT at h;cases q:bEq p.name t with
  |true=>rw[q]at h;simp only[cond_true,Option.some.injEq]at h;exact⟨p,List.mem_cons_self ..,bEq_iff.1 q,h⟩
  |false=>
   rw[q]at h;obtain⟨p',h1,h2⟩:=parT_mem h;exact⟨p',List.mem_cons_of_mem _ h1,h2⟩
theorem parT_some: ∀ {l:List Pm}{p:Pm},p∈l→(parT l p.name).isSome=true
 |q::l,p,h=>by
  unfold parT;cases e:bEq q.name p.name with
  |true=>rfl
  |false=>
   rcases List.mem_cons.1 h with rfl|h
   ·rw [bEq_refl]at e;cases e
   ·exact parT_some h
theorem reach{l:List Pm}(hm: ∀ p∈l,hasT l p.type=true)(hc: ∀ p∈l,cycP l p.name l.length p.name=false){t:ByteArray}(ht:hasT l t=true):rchT l l.length t=true:=by
 cases q:rchT l l.length t with
 |true=>rfl
 |false=>
  exfalso;have hn:=not_rch l _ _ q;have hh: ∀ i,i≤l.length+1→hasT l (itT l i t)=true:=by
   intro i
   induction i with
   |zero=>intro _;exact ht
   |succ i ih=>
    intro hi;have h1:=ih (by omega);have h2:=hn i (by omega);unfold hasT at h1;rw[h2,Bool.or_false]at h1;obtain⟨y,hy⟩:=Option.isSome_iff_exists.1 h1;obtain⟨p,hp,e1,e2⟩:=parT_mem hy;rw[itT_succ];have:parD l (itT l i t)=p.type:=(by unfold parD;rw[hy,e2];try rfl);rw[this];exact hm p hp
  have hd: ∀ i,i≤l.length→itT l i t∈l.map (·.name):=fun i hi=>by
   have h1:=hh i (by omega);have h2:=hn i hi;unfold hasT at h1;rw[h2,Bool.or_false]at h1;obtain⟨y,hy⟩:=Option.isSome_iff_exists.1 h1;obtain⟨p,hp,e1,_⟩:=parT_mem hy;exact List.mem_map.2 ⟨p,hp,e1⟩
  obtain⟨i,j,hij,hj,e⟩:=pigeon (l.map (·.name)) (fun i=>itT l i t) fun i hi=>hd i (by simpa using hi);rw[List.length_map]at hj;obtain⟨p,hp,e1⟩:=List.mem_map.1 (hd i (by omega));have hcp:=hc p hp;rw[e1]at hcp;have:=cyc_of l (itT l i t) l.length (j-i) (itT l i t) (by omega) (by omega) (by rw[← itT_add,show i+(j-i)=j by omega];exact e.symm) fun e he1 he2=>by
   rw[← itT_add];exact hn _ (by omega)
  rw[this]at hcp;cases hcp
end Go.AM
namespace Go.AM
def entT(p:Pm):Value × PV:=(.string p.name,.sc (.string p.type))
def entsT(l:List Pm):List (Value × PV):=l.map entT
theorem keyEq_str(a b:ByteArray):keyEq (.string a) (.string b)=some (bEq b a):=by
 simp only[keyEq,Option.some.injEq];show ByteArray.beq a b=bEq b a;rw[ByteArray.beq,bEq,Bool.eq_iff_iff];simp only[beq_iff_eq,Array.toList_inj];exact eq_comm
theorem mfind_ents(t:ByteArray): ∀ l:List Pm,mfind (.string t) (entsT l)=some ((parT l t).map fun y=> .sc (.string y))
 |[]=>rfl
 |p::l=>by
  have ih:=mfind_ents t l;simp only[entsT,List.map_cons,entT,mfind,keyEq_str,parT]at ih⊢;cases bEq p.name t with
  |true=>rfl
  |false=>exact ih
theorem mput_ents(p:Pm): ∀ l:List Pm,parT l p.name=none→mput (.string p.name) (.sc (.string p.type)) (entsT l)=some (entsT (l++[p]))
 |[],_=>rfl
 |q::l,h=>by
  unfold parT at h;cases e:bEq q.name p.name with
  |true=>rw[e]at h;cases h
  |false=>
   rw[e]at h;have ih:=mput_ents p l h;simp only[entsT,List.map_cons,List.cons_append,entT,mput,keyEq_str,e]at ih⊢;rw[ih];try rfl
def dupF:List Pm→List Pm→Bool
 |_,[]=>false
 |seen,p::r=>(parT seen p.name).isSome||dupF (seen++[p]) r
theorem parT_app: ∀ (l m:List Pm)(t:ByteArray),parT (l++m) t=(parT l t).or (parT m t)
 |[],m,t=>by simp[parT]
 |p::l,m,t=>by
  simp only[List.cons_append,parT];cases bEq p.name t with
  |true=>rfl
  |false=>exact parT_app l m t
def fndA:List Pm→ByteArray→Int→Int
 |[],_,_=> -1
 |p::l,t,i=>bif bEq p.name t then i else fndA l t (i+1)
theorem fnd_none: ∀ {l:List Pm}{t:ByteArray}{i:Int},parT l t=none→fndA l t i= -1
 |[],_,_,_=>rfl
 |p::l,t,i,h=>by
  unfold parT at h;unfold fndA;cases e:bEq p.name t with
  |true=>rw[e]at h;cases h
  |false=>rw[e]at h;exact fnd_none h
theorem fnd_get: ∀ {l:List Pm}{t y:ByteArray}{i:Int},parT l t=some y→ ∃ (j:Nat)(p:Pm),fndA l t i=i+j∧l[j]? =some p∧p.type=y∧p.name=t
 |[],_,_,_,h=>by cases h
 |p::l,t,y,i,h=>by
  unfold parT at h;unfold fndA;cases e:bEq p.name t with
  |true=>
   rw[e]at h;simp only[cond_true,Option.some.injEq]at h;exact⟨0,p,by simp,rfl,h,bEq_iff.1 e⟩
  |false=>
   rw[e]at h;obtain⟨j,q,h1,h2,h3⟩:=fnd_get (i:=i+1) h;exact⟨j+1,q,by simp only[cond_false];rw[h1];omega,h2,h3⟩
theorem fnd_app: ∀ (l m:List Pm)(t:ByteArray)(i:Int),parT l t=none→fndA (l++m) t i=fndA m t (i+l.length)
 |[],m,t,i,_=>by simp
 |p::l,m,t,i,h=>by
  unfold parT at h;cases e:bEq p.name t with
  |true=>rw[e]at h;cases h
  |false=>
   rw[e]at h;simp only[List.cons_append,fndA,e,cond_false];rw[fnd_app l m t (i+1) h,List.length_cons];congr 1;omega
theorem fnd_pre{l m:List Pm}{t y:ByteArray}{i:Int}(h:parT l t=some y):fndA (l++m) t i=fndA l t i:=by
 induction l generalizing i with
 |nil=>cases h
 |cons p l ih=>
  unfold parT at h;simp only[List.cons_append,fndA];cases e:bEq p.name t with
  |true=>rfl
  |false=>
   rw[e]at h;exact ih h
theorem fnd_first{l:List Pm}{k:Nat}{p:Pm}(hp:l[k]? =some p):decide (fndA l p.name 0<(k:Int))=(parT (l.take k) p.name).isSome:=by
 have hk:k<l.length:=(List.getElem?_eq_some_iff.1 hp).1;have e:l=l.take k++l.drop k:=(List.take_append_drop k l).symm;cases q:parT (l.take k) p.name with
 |none=>
  have h1:=fnd_app (l.take k) (l.drop k) p.name 0 q;rw[← e]at h1;have h2:l.drop k=p::l.drop (k+1):=by
   rw[List.drop_eq_getElem_cons hk];rw[List.getElem?_eq_getElem hk,Option.some.injEq]at hp;rw[hp]
  rw[h1,h2];simp only[fndA,bEq_refl,cond_true,List.length_take];simp;omega
 |some y=>
  have h1:=fnd_pre (m:=l.drop k) (i:=0) q;rw[← e]at h1;obtain⟨j,r,h2,h3,_⟩:=fnd_get (i:=0) q;have h4:j<(l.take k).length:=(List.getElem?_eq_some_iff.1 h3).1;rw[List.length_take]at h4;rw[h1,h2];simp;omega
theorem fnd_par(l:List Pm)(t:ByteArray):decide (fndA l t 0<0)=!(parT l t).isSome:=by
 cases q:parT l t with
 |none=>rw[fnd_none q];try rfl
 |some y=>
  obtain⟨j,_,h1,_⟩:=fnd_get (i:=0) q;rw[h1];simp
end Go.AM
namespace Go.Proofs.YtnldekadkjdbcaaGreat
open Go.RowKit Go.Maps Go.Sort Go.Shelf
set_option maxHeartbeats 4000000
set_option maxRecDepth 20000
def layK_ren:Ren:=⟨fun x=>match x with|7=>25|10=>38|n=>n,fun x=>match x with|23=>66|26=>9|3=>9|28=>72|0=>0|27=>71|33=>62|4=>4|n=>n,fun x=>x⟩
theorem layK:SlLaysZ.n7 Tryz.prog layK_ren where
 mixed:=by kernel_rfl
 f7:=⟨"maps.Keys[map[string]string,string,string]",by decide+kernel,Tryz.func25.trans (congrArg some (by kernel_rfl))⟩
 f10:=⟨"maps.Keys[map[string]string,string,string]$1",by decide+kernel,Tryz.func38.trans (congrArg some (by kernel_rfl))⟩
 t0:=Tryz.underlying0
 a0:=Tryz.isAgg0
 z0:=Tryz.sizeOf0
 v0:=Tryz.zeroValue0
 t4:=Tryz.underlying4
 a4:=Tryz.isAgg4
 z4:=Tryz.sizeOf4
 v4:=Tryz.zeroValue4
 t23:=Tryz.underlying66
 a23:=Tryz.isAgg66
 z23:=Tryz.sizeOf66
 v23:=Tryz.zeroValue66
 t26:=Tryz.underlying9
 a26:=Tryz.isAgg9
 z26:=Tryz.sizeOf9
 v26:=Tryz.zeroValue9
 t27:=Tryz.underlying71
 a27:=Tryz.isAgg71
 z27:=Tryz.sizeOf71
 v27:=Tryz.zeroValue71
 t28:=Tryz.underlying72
 a28:=Tryz.isAgg72
 z28:=Tryz.sizeOf72
 v28:=Tryz.zeroValue72
 t33:=Tryz.underlying62
 a33:=Tryz.isAgg62
 z33:=Tryz.sizeOf62
 v33:=Tryz.zeroValue62
def layS_ren:Ren:=⟨fun x=>match x with|6=>24|8=>37|9=>26|11=>48|13=>40|12=>39|23=>58|24=>59|14=>49|15=>50|16=>51|17=>52|18=>53|19=>54|20=>55|21=>56|22=>57|25=>99|26=>100|27=>101|28=>102|29=>103|30=>104|31=>135|n=>n,fun x=>match x with|26=>9|28=>72|24=>41|0=>0|3=>3|37=>103|48=>129|50=>131|4=>4|40=>122|39=>121|45=>126|5=>5|9=>9|51=>164|55=>168|57=>196|58=>35|33=>62|n=>n,fun x=>x⟩
theorem layS:SlLaysZ.n6 Tryz.prog layS_ren where
 mixed:=by kernel_rfl
 f6:=⟨"slices.Sorted[string]",by decide+kernel,Tryz.func24.trans (congrArg some (by kernel_rfl))⟩
 f8:=⟨"slices.Collect[string]",by decide+kernel,Tryz.func37.trans (congrArg some (by kernel_rfl))⟩
 f11:=⟨"slices.AppendSeq[[]string,string]",by decide+kernel,Tryz.func48.trans (congrArg some (by kernel_rfl))⟩
 t0:=Tryz.underlying0
 a0:=Tryz.isAgg0
 z0:=Tryz.sizeOf0
 v0:=Tryz.zeroValue0
 t24:=Tryz.underlying41
 a24:=Tryz.isAgg41
 z24:=Tryz.sizeOf41
 v24:=Tryz.zeroValue41
 t26:=Tryz.underlying9
 a26:=Tryz.isAgg9
 z26:=Tryz.sizeOf9
 v26:=Tryz.zeroValue9
 t28:=Tryz.underlying72
 a28:=Tryz.isAgg72
 z28:=Tryz.sizeOf72
 v28:=Tryz.zeroValue72
 i26:=by kernel_rfl
def layM_ren:Ren:=⟨fun x=>match x with|6=>26|8=>40|9=>39|19=>58|20=>59|21=>49|22=>50|23=>51|24=>52|25=>53|26=>54|27=>55|28=>56|29=>57|36=>99|31=>100|32=>101|37=>102|38=>103|39=>104|41=>135|n=>n,fun x=>match x with|27=>41|29=>9|3=>3|32=>103|26=>41|0=>0|44=>129|46=>131|4=>4|36=>122|35=>121|41=>126|5=>5|9=>9|53=>164|57=>168|63=>196|64=>35|n=>n,fun x=>x⟩
theorem layM:SlLaysM.n6 Tryz.prog layM_ren where
 mixed:=by kernel_rfl
 f6:=⟨"slices.Sort[[]string,string]",by decide+kernel,Tryz.func26.trans (congrArg some (by kernel_rfl))⟩
 f8:=Tryz.func40.trans (congrArg some (by kernel_rfl))
 f9:=⟨"slices.pdqsortOrdered[string]",by decide+kernel,Tryz.func39.trans (congrArg some (by kernel_rfl))⟩
 f19:=Tryz.func58.trans (congrArg some (by kernel_rfl))
 f20:=Tryz.func59.trans (congrArg some (by kernel_rfl))
 f21:=⟨"slices.insertionSortOrdered[string]",by decide+kernel,Tryz.func49.trans (congrArg some (by kernel_rfl))⟩
 f22:=⟨"slices.heapSortOrdered[string]",by decide+kernel,Tryz.func50.trans (congrArg some (by kernel_rfl))⟩
 f23:=⟨"slices.breakPatternsOrdered[string]",by decide+kernel,Tryz.func51.trans (congrArg some (by kernel_rfl))⟩
 f24:=⟨"slices.choosePivotOrdered[string]",by decide+kernel,Tryz.func52.trans (congrArg some (by kernel_rfl))⟩
 f25:=⟨"slices.reverseRangeOrdered[string]",by decide+kernel,Tryz.func53.trans (congrArg some (by kernel_rfl))⟩
 f26:=⟨"slices.partialInsertionSortOrdered[string]",by decide+kernel,Tryz.func54.trans (congrArg some (by kernel_rfl))⟩
 f27:=⟨"cmp.Less[string]",by decide+kernel,Tryz.func55.trans (congrArg some (by kernel_rfl))⟩
 f28:=⟨"slices.partitionEqualOrdered[string]",by decide+kernel,Tryz.func56.trans (congrArg some (by kernel_rfl))⟩
 f29:=⟨"slices.partitionOrdered[string]",by decide+kernel,Tryz.func57.trans (congrArg some (by kernel_rfl))⟩
 f31:=Tryz.func100.trans (congrArg some (by kernel_rfl))
 f32:=Tryz.func101.trans (congrArg some (by kernel_rfl))
 f36:=⟨"slices.siftDownOrdered[string]",by decide+kernel,Tryz.func99.trans (congrArg some (by kernel_rfl))⟩
 f37:=⟨"slices.medianAdjacentOrdered[string]",by decide+kernel,Tryz.func102.trans (congrArg some (by kernel_rfl))⟩
 f38:=⟨"slices.medianOrdered[string]",by decide+kernel,Tryz.func103.trans (congrArg some (by kernel_rfl))⟩
 f39:=⟨"cmp.isNaN[string]",by decide+kernel,Tryz.func104.trans (congrArg some (by kernel_rfl))⟩
 f41:=⟨"slices.order2Ordered[string]",by decide+kernel,Tryz.func135.trans (congrArg some (by kernel_rfl))⟩
 t0:=Tryz.underlying0
 a0:=Tryz.isAgg0
 z0:=Tryz.sizeOf0
 v0:=Tryz.zeroValue0
 t3:=Tryz.underlying3
 a3:=Tryz.isAgg3
 z3:=Tryz.sizeOf3
 v3:=Tryz.zeroValue3
 t4:=Tryz.underlying4
 a4:=Tryz.isAgg4
 z4:=Tryz.sizeOf4
 v4:=Tryz.zeroValue4
 t5:=Tryz.underlying5
 a5:=Tryz.isAgg5
 z5:=Tryz.sizeOf5
 v5:=Tryz.zeroValue5
 t9:=Tryz.underlying9
 a9:=Tryz.isAgg9
 z9:=Tryz.sizeOf9
 v9:=Tryz.zeroValue9
 t26:=Tryz.underlying41
 a26:=Tryz.isAgg41
 z26:=Tryz.sizeOf41
 v26:=Tryz.zeroValue41
 t27:=Tryz.underlying41
 a27:=Tryz.isAgg41
 z27:=Tryz.sizeOf41
 v27:=Tryz.zeroValue41
 t29:=Tryz.underlying9
 a29:=Tryz.isAgg9
 z29:=Tryz.sizeOf9
 v29:=Tryz.zeroValue9
 t32:=Tryz.underlying103
 a32:=Tryz.isAgg103
 z32:=Tryz.sizeOf103
 v32:=Tryz.zeroValue103
 t35:=Tryz.underlying121
 a35:=Tryz.isAgg121
 z35:=Tryz.sizeOf121
 v35:=Tryz.zeroValue121
 t36:=Tryz.underlying122
 a36:=Tryz.isAgg122
 z36:=Tryz.sizeOf122
 v36:=Tryz.zeroValue122
 t41:=Tryz.underlying126
 a41:=Tryz.isAgg126
 z41:=Tryz.sizeOf126
 v41:=Tryz.zeroValue126
 t44:=Tryz.underlying129
 a44:=Tryz.isAgg129
 z44:=Tryz.sizeOf129
 v44:=Tryz.zeroValue129
 t46:=Tryz.underlying131
 a46:=Tryz.isAgg131
 z46:=Tryz.sizeOf131
 v46:=Tryz.zeroValue131
 t53:=Tryz.underlying164
 a53:=Tryz.isAgg164
 z53:=Tryz.sizeOf164
 v53:=Tryz.zeroValue164
 t57:=Tryz.underlying168
 a57:=Tryz.isAgg168
 z57:=Tryz.sizeOf168
 v57:=Tryz.zeroValue168
 t63:=Tryz.underlying196
 a63:=Tryz.isAgg196
 z63:=Tryz.sizeOf196
 v63:=Tryz.zeroValue196
 t64:=Tryz.underlying35
 a64:=Tryz.isAgg35
 z64:=Tryz.sizeOf35
 v64:=Tryz.zeroValue35
def layC_ren:Ren:=⟨fun x=>match x with|144=>47|143=>98|219=>134|217=>162|225=>163|224=>164|267=>165|266=>184|314=>185|n=>n,fun x=>match x with|9=>9|4=>4|3=>3|5=>5|46=>103|146=>238|51=>129|n=>n,fun x=>match x with|1=>0|n=>n⟩
theorem layC:Lays.n144 Tryz.prog layC_ren where
 mixed:=by kernel_rfl
 f143:=Tryz.func98.trans (congrArg some (by kernel_rfl))
 f144:=Tryz.func47.trans (congrArg some (by kernel_rfl))
 f217:=Tryz.func162.trans (congrArg some (by kernel_rfl))
 f219:=Tryz.func134.trans (congrArg some (by kernel_rfl))
 f224:=Tryz.func164.trans (congrArg some (by kernel_rfl))
 f225:=Tryz.func163.trans (congrArg some (by kernel_rfl))
 f266:=Tryz.func184.trans (congrArg some (by kernel_rfl))
 f267:=Tryz.func165.trans (congrArg some (by kernel_rfl))
 f314:=Tryz.func185.trans (congrArg some (by kernel_rfl))
 t3:=Tryz.underlying3
 a3:=Tryz.isAgg3
 z3:=Tryz.sizeOf3
 v3:=Tryz.zeroValue3
 t4:=Tryz.underlying4
 a4:=Tryz.isAgg4
 z4:=Tryz.sizeOf4
 v4:=Tryz.zeroValue4
 t5:=Tryz.underlying5
 a5:=Tryz.isAgg5
 z5:=Tryz.sizeOf5
 v5:=Tryz.zeroValue5
 t9:=Tryz.underlying9
 a9:=Tryz.isAgg9
 z9:=Tryz.sizeOf9
 v9:=Tryz.zeroValue9
 t46:=Tryz.underlying103
 a46:=Tryz.isAgg103
 z46:=Tryz.sizeOf103
 v46:=Tryz.zeroValue103
 t51:=Tryz.underlying129
 a51:=Tryz.isAgg129
 z51:=Tryz.sizeOf129
 v51:=Tryz.zeroValue129
 t146:=Tryz.underlying238
 a146:=Tryz.isAgg238
 z146:=Tryz.sizeOf238
 v146:=Tryz.zeroValue238
 g1:=by kernel_rfl
open Go.AM
set_option maxHeartbeats 800000
theorem byte_cls(c:UInt8):(letB c=true∧decide ((c.toNat:Int)≥97)=true∧decide ((c.toNat:Int)≤122)=true)∨
  (letB c=false∧decide ((c.toNat:Int)≥97)=false)∨(letB c=false∧midB c=false∧decide ((c.toNat:Int)≥97)=true∧decide ((c.toNat:Int)≤122)=false∧decide ((c.toNat:Int)<48)=false∧decide ((c.toNat:Int)>57)=true∧((c.toNat:Int) !=45)=true∧((c.toNat:Int) !=95)=true):=by
 by_cases h1:97≤c.toNat
 ·by_cases h2:c.toNat≤122
  ·exact .inl ⟨by simp[letB,h1,h2],by simp;omega,by simp;omega⟩
  ·refine .inr (.inr ⟨by simp[letB,h1,h2],by simp[midB,letB];omega,by simp;omega,by simp;omega,by simp;omega,by simp;omega,by simp;omega,by simp;omega⟩)
 ·exact .inr (.inl ⟨by simp[letB,h1],by simp;omega⟩)
theorem byte_cls2{c:UInt8}(h:decide ((c.toNat:Int)≥97)=false):
  (midB c=true∧decide ((c.toNat:Int)<48)=true∧((c.toNat:Int) !=45)=false)∨
  (midB c=false∧decide ((c.toNat:Int)<48)=true∧((c.toNat:Int) !=45)=true∧((c.toNat:Int) !=95)=true)∨
  (midB c=true∧decide ((c.toNat:Int)<48)=false∧decide ((c.toNat:Int)>57)=false)∨
  (midB c=true∧decide ((c.toNat:Int)<48)=false∧decide ((c.toNat:Int)>57)=true∧((c.toNat:Int) !=45)=true∧((c.toNat:Int) !=95)=false)∨
  (midB c=false∧decide ((c.toNat:Int)<48)=false∧decide ((c.toNat:Int)>57)=true∧((c.toNat:Int) !=45)=true∧((c.toNat:Int) !=95)=true):=by
 simp at h;by_cases h1:c.toNat<48
 ·by_cases h2:c.toNat=45
  ·exact .inl ⟨by simp[midB,h2],by simp;omega,by simp;omega⟩
  ·exact .inr (.inl ⟨by simp[midB,letB];omega,by simp;omega,by simp;omega,by simp;omega⟩)
 ·by_cases h2:c.toNat≤57
  ·exact .inr (.inr (.inl ⟨by simp[midB,letB];omega,by simp;omega,by simp;omega⟩))
  ·by_cases h3:c.toNat=95
   ·exact .inr (.inr (.inr (.inl ⟨by simp[midB,h3],by simp;omega,by simp;omega,by simp;omega,by simp;omega⟩)))
   ·exact .inr (.inr (.inr (.inr ⟨by simp[midB,letB];omega,by simp;omega,by simp;omega,by simp;omega,by simp;omega⟩)))
theorem byte_cls3(c:UInt8):(midB c=true∧decide ((c.toNat:Int)<97)=false∧decide ((c.toNat:Int)>122)=false)∨
  (midB c=false∧decide ((c.toNat:Int)<97)=false∧decide ((c.toNat:Int)>122)=true∧decide ((c.toNat:Int)<48)=false∧decide ((c.toNat:Int)>57)=true∧((c.toNat:Int) !=45)=true∧((c.toNat:Int) !=95)=true)∨
  (decide ((c.toNat:Int)<97)=true∧decide ((c.toNat:Int)≥97)=false):=by
 by_cases h1:97≤c.toNat
 ·by_cases h2:c.toNat≤122
  ·exact .inl ⟨by simp[midB,letB,h1,h2],by simp;omega,by simp;omega⟩
  ·exact .inr (.inl ⟨by simp[midB,letB];omega,by simp;omega,by simp;omega,by simp;omega,by simp;omega,by simp;omega,by simp;omega⟩)
 ·exact .inr (.inr ⟨by simp;omega,by simp;omega⟩)
theorem fname_c{h:Heap}{s:ByteArray}(hs:s.size≤9223372036854775807):PCall Tryz.prog 105 [sPV s] h fun r h'=>r= .sc (.bool (nameB s))∧h'=h:=by
 have hsl:s.data.toList.length=s.size:=by rw[Array.length_toList];try rfl
 refine pcall_body (ow:=fun _=>false) (wf:=fun _=>false) Ty.mixed Tryz.func105 rfl Ty.hb_105 (by rw[Tryz.ntmps105];simp) ?_;rw[Tryz.ntmps105,Tryz.results105];repeat'(first|refine a_seq fun K hK=>?_|(refine a_block ?_)|((first|refine a_regionS ?_|refine a_region (fun K hK=>?_)|refine a_ret ?_);simp(maxSteps:=2000000) only[Ty.w,simprocAttr])|((first|refine a_skip ?_|refine a_exit ?_);try simp only[pst0,simprocAttr])|(refine a_cond _ (by(try simp(maxSteps:=2000000) only[Ty.w,simprocAttr]);rfl) (fun hb=>?_) (fun hb=>?_)<;>(try simp only[hb0,decide_eq_true_eq,decide_eq_false_iff_not,simprocAttr]at hb)<;>(try(exfalso;omega)))|(with_reducible refine ite_in (fun hb=>?_) (fun hb=>?_)<;>(try simp only[Decidable.not_not]at hb)<;>(try simp only[hb,if_true,if_false,not_false_eq_true,not_true_eq_false, ↓reduceIte])<;>(try simp only[hb0,decide_eq_true_eq,decide_eq_false_iff_not,simprocAttr]at hb)<;>(try(exfalso;omega)))|((first|refine hK _ _ ?_|(clear hK;refine hK _ _ ?_)|(clear hK;clear hK;refine hK _ _ ?_)|(clear hK;clear hK;clear hK;refine hK _ _ ?_));clear hK;try simp only[pst0,simprocAttr])|(rw[if_pos];rotate_left 1;omega;simp(maxSteps:=2000000) only[Ty.w,simprocAttr]))
 refine a_loop (fun m S h'=>h'=h∧S 0=sPV s∧S 7= .sc (.int .i64 s.size)∧ ∃ k:Nat,S 8= .sc (.int .i64 k)∧k≤s.size∧m=s.size-k∧ ∀ (i:Nat)(c:UInt8),i<k→s.data.toList[i]? =some c→okAt i c=true) s.size ?_ ?_
 ·simp only[Ty.w,simprocAttr];exact⟨0,rfl,by omega,rfl,by omega⟩
 ·rintro m S h' ⟨rfl,g0,g7,k,g8,hk,rfl,hall⟩;by_cases hlt:k<s.size
  ·have hd:decide ((k:Int)<(s.size:Int))=true:=(by simp;omega);have w7:IntKind.i64.wrap ((k:Int)+1)=k+1:=(by rw[wrap64 (by omega) (by omega)]);obtain⟨c,hx⟩: ∃ c,s.data.toList[k]? =some c:=⟨_,List.getElem?_eq_getElem (by omega)⟩;have hr:s[k]? =some c:=(by rw[ba_get];exact hx);have bad:okAt k c=false→nameB s=false:=fun e=>(by simp[nameB,bytesOk_false hx e]);have good:okAt k c=true→ ∃ m',m'<s.size-k∧ ∃ k':Nat,(k:Int)+1=k'∧k'≤s.size∧m'=s.size-k'∧ ∀ (i:Nat)(c:UInt8),i<k'→s.data.toList[i]? =some c→okAt i c=true:=fun e=>by
    refine⟨s.size-(k+1),by omega,k+1,by simp,by omega,rfl,fun i c2 hi hw=>?_⟩;by_cases hik:i=k
    ·subst hik;rw[hx]at hw;simp at hw;rw[← hw];exact e
    ·exact hall i c2 (by omega) hw
   clear hall;have fin1: ∀ {e:Bool},okAt k c=false→e=false→PV.sc (.bool e)= .sc (.bool (nameB s)):=fun h1 h2=>(by rw[h2,bad h1]);rcases byte_cls c with⟨l1,c1,c2⟩|⟨l1,c1⟩|⟨l1,m1,c1,c2,c3,c4,c5,c6⟩
   ·(repeat' (first|refine a_seq fun K hK=>?_|(refine a_block ?_)|((first|refine a_regionS ?_|refine a_region (fun K hK=>?_)|refine a_ret ?_);simp(maxSteps:=2000000) only[Ty.w,simprocAttr,g0,g7,g8,hd,hr,w7,c1,c2])|((first|refine a_skip ?_|refine a_exit ?_);try simp only[pst0,simprocAttr])|(refine a_cond _ (by(try simp(maxSteps:=2000000) only[Ty.w,simprocAttr,g0,g7,g8,hd,hr,w7,c1,c2]);rfl) (fun hb=>?_) (fun hb=>?_)<;>(try simp only[hb0,decide_eq_true_eq,decide_eq_false_iff_not,simprocAttr]at hb)<;>(try(exfalso;omega)))|(with_reducible refine ite_in (fun hb=>?_) (fun hb=>?_)<;>(try simp only[Decidable.not_not]at hb)<;>(try simp only[hb,if_true,if_false,not_false_eq_true,not_true_eq_false, ↓reduceIte])<;>(try simp only[hb0,decide_eq_true_eq,decide_eq_false_iff_not,simprocAttr]at hb)<;>(try(exfalso;omega)))|((first|refine hK _ _ ?_|(clear hK;refine hK _ _ ?_)|(clear hK;clear hK;refine hK _ _ ?_)|(clear hK;clear hK;clear hK;refine hK _ _ ?_));clear hK;try simp only[pst0,simprocAttr])|(rw[if_pos];rotate_left 1;omega;simp(maxSteps:=2000000) only[Ty.w,simprocAttr,g0,g7,g8,hd,hr,w7,c1,c2])));have:=good (by simp[okAt,l1]);simpa using this
   ·cases k0:((k:Int)==0)with
    |true=>
     have hk0:k=0:=(by simpa using k0);have hbad:=bad (by simp[okAt,l1,hk0]);(repeat'(first|refine a_seq fun K hK=>?_|(refine a_block ?_)|((first|refine a_regionS ?_|refine a_region (fun K hK=>?_)|refine a_ret ?_);simp(maxSteps:=2000000) only[Ty.w,simprocAttr,g0,g7,g8,hd,hr,w7,c1,k0])|((first|refine a_skip ?_|refine a_exit ?_);try simp only[pst0,simprocAttr])|(refine a_cond _ (by(try simp(maxSteps:=2000000) only[Ty.w,simprocAttr,g0,g7,g8,hd,hr,w7,c1,k0]);rfl) (fun hb=>?_) (fun hb=>?_)<;>(try simp only[hb0,decide_eq_true_eq,decide_eq_false_iff_not,simprocAttr]at hb)<;>(try(exfalso;omega)))|(with_reducible refine ite_in (fun hb=>?_) (fun hb=>?_)<;>(try simp only[Decidable.not_not]at hb)<;>(try simp only[hb,if_true,if_false,not_false_eq_true,not_true_eq_false, ↓reduceIte])<;>(try simp only[hb0,decide_eq_true_eq,decide_eq_false_iff_not,simprocAttr]at hb)<;>(try(exfalso;omega)))|((first|refine hK _ _ ?_|(clear hK;refine hK _ _ ?_)|(clear hK;clear hK;refine hK _ _ ?_)|(clear hK;clear hK;clear hK;refine hK _ _ ?_));clear hK;try simp only[pst0,simprocAttr])|(rw[if_pos];rotate_left 1;omega;simp(maxSteps:=2000000) only[Ty.w,simprocAttr,g0,g7,g8,hd,hr,w7,c1,k0])));rw[hbad]
    |false=>
     have hk0:k≠0:=(by simpa using k0);rcases byte_cls2 c1 with⟨m1,c3,c5⟩|⟨m1,c3,c5,c6⟩|⟨m1,c3,c4⟩|⟨m1,c3,c4,c5,c6⟩|⟨m1,c3,c4,c5,c6⟩
     ·(repeat' (first|refine a_seq fun K hK=>?_|(refine a_block ?_)|((first|refine a_regionS ?_|refine a_region (fun K hK=>?_)|refine a_ret ?_);simp(maxSteps:=2000000) only[Ty.w,simprocAttr,g0,g7,g8,hd,hr,w7,c1,k0,c3,c5])|((first|refine a_skip ?_|refine a_exit ?_);try simp only[pst0,simprocAttr])|(refine a_cond _ (by(try simp(maxSteps:=2000000) only[Ty.w,simprocAttr,g0,g7,g8,hd,hr,w7,c1,k0,c3,c5]);rfl) (fun hb=>?_) (fun hb=>?_)<;>(try simp only[hb0,decide_eq_true_eq,decide_eq_false_iff_not,simprocAttr]at hb)<;>(try(exfalso;omega)))|(with_reducible refine ite_in (fun hb=>?_) (fun hb=>?_)<;>(try simp only[Decidable.not_not]at hb)<;>(try simp only[hb,if_true,if_false,not_false_eq_true,not_true_eq_false, ↓reduceIte])<;>(try simp only[hb0,decide_eq_true_eq,decide_eq_false_iff_not,simprocAttr]at hb)<;>(try(exfalso;omega)))|((first|refine hK _ _ ?_|(clear hK;refine hK _ _ ?_)|(clear hK;clear hK;refine hK _ _ ?_)|(clear hK;clear hK;clear hK;refine hK _ _ ?_));clear hK;try simp only[pst0,simprocAttr])|(rw[if_pos];rotate_left 1;omega;simp(maxSteps:=2000000) only[Ty.w,simprocAttr,g0,g7,g8,hd,hr,w7,c1,k0,c3,c5])));have:=good (by simp[okAt,m1,hk0]);simpa using this
     ·have hbad:=bad (by simp[okAt,l1,m1]);(repeat'(first|refine a_seq fun K hK=>?_|(refine a_block ?_)|((first|refine a_regionS ?_|refine a_region (fun K hK=>?_)|refine a_ret ?_);simp(maxSteps:=2000000) only[Ty.w,simprocAttr,g0,g7,g8,hd,hr,w7,c1,k0,c3,c5,c6])|((first|refine a_skip ?_|refine a_exit ?_);try simp only[pst0,simprocAttr])|(refine a_cond _ (by(try simp(maxSteps:=2000000) only[Ty.w,simprocAttr,g0,g7,g8,hd,hr,w7,c1,k0,c3,c5,c6]);rfl) (fun hb=>?_) (fun hb=>?_)<;>(try simp only[hb0,decide_eq_true_eq,decide_eq_false_iff_not,simprocAttr]at hb)<;>(try(exfalso;omega)))|(with_reducible refine ite_in (fun hb=>?_) (fun hb=>?_)<;>(try simp only[Decidable.not_not]at hb)<;>(try simp only[hb,if_true,if_false,not_false_eq_true,not_true_eq_false, ↓reduceIte])<;>(try simp only[hb0,decide_eq_true_eq,decide_eq_false_iff_not,simprocAttr]at hb)<;>(try(exfalso;omega)))|((first|refine hK _ _ ?_|(clear hK;refine hK _ _ ?_)|(clear hK;clear hK;refine hK _ _ ?_)|(clear hK;clear hK;clear hK;refine hK _ _ ?_));clear hK;try simp only[pst0,simprocAttr])|(rw[if_pos];rotate_left 1;omega;simp(maxSteps:=2000000) only[Ty.w,simprocAttr,g0,g7,g8,hd,hr,w7,c1,k0,c3,c5,c6])));rw[hbad]
     ·(repeat' (first|refine a_seq fun K hK=>?_|(refine a_block ?_)|((first|refine a_regionS ?_|refine a_region (fun K hK=>?_)|refine a_ret ?_);simp(maxSteps:=2000000) only[Ty.w,simprocAttr,g0,g7,g8,hd,hr,w7,c1,k0,c3,c4])|((first|refine a_skip ?_|refine a_exit ?_);try simp only[pst0,simprocAttr])|(refine a_cond _ (by(try simp(maxSteps:=2000000) only[Ty.w,simprocAttr,g0,g7,g8,hd,hr,w7,c1,k0,c3,c4]);rfl) (fun hb=>?_) (fun hb=>?_)<;>(try simp only[hb0,decide_eq_true_eq,decide_eq_false_iff_not,simprocAttr]at hb)<;>(try(exfalso;omega)))|(with_reducible refine ite_in (fun hb=>?_) (fun hb=>?_)<;>(try simp only[Decidable.not_not]at hb)<;>(try simp only[hb,if_true,if_false,not_false_eq_true,not_true_eq_false, ↓reduceIte])<;>(try simp only[hb0,decide_eq_true_eq,decide_eq_false_iff_not,simprocAttr]at hb)<;>(try(exfalso;omega)))|((first|refine hK _ _ ?_|(clear hK;refine hK _ _ ?_)|(clear hK;clear hK;refine hK _ _ ?_)|(clear hK;clear hK;clear hK;refine hK _ _ ?_));clear hK;try simp only[pst0,simprocAttr])|(rw[if_pos];rotate_left 1;omega;simp(maxSteps:=2000000) only[Ty.w,simprocAttr,g0,g7,g8,hd,hr,w7,c1,k0,c3,c4])));have:=good (by simp[okAt,m1,hk0]);simpa using this
     ·(repeat' (first|refine a_seq fun K hK=>?_|(refine a_block ?_)|((first|refine a_regionS ?_|refine a_region (fun K hK=>?_)|refine a_ret ?_);simp(maxSteps:=2000000) only[Ty.w,simprocAttr,g0,g7,g8,hd,hr,w7,c1,k0,c3,c4,c5,c6])|((first|refine a_skip ?_|refine a_exit ?_);try simp only[pst0,simprocAttr])|(refine a_cond _ (by(try simp(maxSteps:=2000000) only[Ty.w,simprocAttr,g0,g7,g8,hd,hr,w7,c1,k0,c3,c4,c5,c6]);rfl) (fun hb=>?_) (fun hb=>?_)<;>(try simp only[hb0,decide_eq_true_eq,decide_eq_false_iff_not,simprocAttr]at hb)<;>(try(exfalso;omega)))|(with_reducible refine ite_in (fun hb=>?_) (fun hb=>?_)<;>(try simp only[Decidable.not_not]at hb)<;>(try simp only[hb,if_true,if_false,not_false_eq_true,not_true_eq_false, ↓reduceIte])<;>(try simp only[hb0,decide_eq_true_eq,decide_eq_false_iff_not,simprocAttr]at hb)<;>(try(exfalso;omega)))|((first|refine hK _ _ ?_|(clear hK;refine hK _ _ ?_)|(clear hK;clear hK;refine hK _ _ ?_)|(clear hK;clear hK;clear hK;refine hK _ _ ?_));clear hK;try simp only[pst0,simprocAttr])|(rw[if_pos];rotate_left 1;omega;simp(maxSteps:=2000000) only[Ty.w,simprocAttr,g0,g7,g8,hd,hr,w7,c1,k0,c3,c4,c5,c6])));have:=good (by simp[okAt,m1,hk0]);simpa using this
     ·have hbad:=bad (by simp[okAt,l1,m1]);(repeat'(first|refine a_seq fun K hK=>?_|(refine a_block ?_)|((first|refine a_regionS ?_|refine a_region (fun K hK=>?_)|refine a_ret ?_);simp(maxSteps:=2000000) only[Ty.w,simprocAttr,g0,g7,g8,hd,hr,w7,c1,k0,c3,c4,c5,c6])|((first|refine a_skip ?_|refine a_exit ?_);try simp only[pst0,simprocAttr])|(refine a_cond _ (by(try simp(maxSteps:=2000000) only[Ty.w,simprocAttr,g0,g7,g8,hd,hr,w7,c1,k0,c3,c4,c5,c6]);rfl) (fun hb=>?_) (fun hb=>?_)<;>(try simp only[hb0,decide_eq_true_eq,decide_eq_false_iff_not,simprocAttr]at hb)<;>(try(exfalso;omega)))|(with_reducible refine ite_in (fun hb=>?_) (fun hb=>?_)<;>(try simp only[Decidable.not_not]at hb)<;>(try simp only[hb,if_true,if_false,not_false_eq_true,not_true_eq_false, ↓reduceIte])<;>(try simp only[hb0,decide_eq_true_eq,decide_eq_false_iff_not,simprocAttr]at hb)<;>(try(exfalso;omega)))|((first|refine hK _ _ ?_|(clear hK;refine hK _ _ ?_)|(clear hK;clear hK;refine hK _ _ ?_)|(clear hK;clear hK;clear hK;refine hK _ _ ?_));clear hK;try simp only[pst0,simprocAttr])|(rw[if_pos];rotate_left 1;omega;simp(maxSteps:=2000000) only[Ty.w,simprocAttr,g0,g7,g8,hd,hr,w7,c1,k0,c3,c4,c5,c6])));rw[hbad]
   ·have hbad:=bad (by simp[okAt,l1,m1]);cases k0:((k:Int)==0)with
    |true=>
     (repeat'(first|refine a_seq fun K hK=>?_|(refine a_block ?_)|((first|refine a_regionS ?_|refine a_region (fun K hK=>?_)|refine a_ret ?_);simp(maxSteps:=2000000) only[Ty.w,simprocAttr,g0,g7,g8,hd,hr,w7,c1,c2,k0])|((first|refine a_skip ?_|refine a_exit ?_);try simp only[pst0,simprocAttr])|(refine a_cond _ (by(try simp(maxSteps:=2000000) only[Ty.w,simprocAttr,g0,g7,g8,hd,hr,w7,c1,c2,k0]);rfl) (fun hb=>?_) (fun hb=>?_)<;>(try simp only[hb0,decide_eq_true_eq,decide_eq_false_iff_not,simprocAttr]at hb)<;>(try(exfalso;omega)))|(with_reducible refine ite_in (fun hb=>?_) (fun hb=>?_)<;>(try simp only[Decidable.not_not]at hb)<;>(try simp only[hb,if_true,if_false,not_false_eq_true,not_true_eq_false, ↓reduceIte])<;>(try simp only[hb0,decide_eq_true_eq,decide_eq_false_iff_not,simprocAttr]at hb)<;>(try(exfalso;omega)))|((first|refine hK _ _ ?_|(clear hK;refine hK _ _ ?_)|(clear hK;clear hK;refine hK _ _ ?_)|(clear hK;clear hK;clear hK;refine hK _ _ ?_));clear hK;try simp only[pst0,simprocAttr])|(rw[if_pos];rotate_left 1;omega;simp(maxSteps:=2000000) only[Ty.w,simprocAttr,g0,g7,g8,hd,hr,w7,c1,c2,k0])));rw[hbad]
    |false=>
     (repeat'(first|refine a_seq fun K hK=>?_|(refine a_block ?_)|((first|refine a_regionS ?_|refine a_region (fun K hK=>?_)|refine a_ret ?_);simp(maxSteps:=2000000) only[Ty.w,simprocAttr,g0,g7,g8,hd,hr,w7,c1,c2,k0,c3,c4,c5,c6])|((first|refine a_skip ?_|refine a_exit ?_);try simp only[pst0,simprocAttr])|(refine a_cond _ (by(try simp(maxSteps:=2000000) only[Ty.w,simprocAttr,g0,g7,g8,hd,hr,w7,c1,c2,k0,c3,c4,c5,c6]);rfl) (fun hb=>?_) (fun hb=>?_)<;>(try simp only[hb0,decide_eq_true_eq,decide_eq_false_iff_not,simprocAttr]at hb)<;>(try(exfalso;omega)))|(with_reducible refine ite_in (fun hb=>?_) (fun hb=>?_)<;>(try simp only[Decidable.not_not]at hb)<;>(try simp only[hb,if_true,if_false,not_false_eq_true,not_true_eq_false, ↓reduceIte])<;>(try simp only[hb0,decide_eq_true_eq,decide_eq_false_iff_not,simprocAttr]at hb)<;>(try(exfalso;omega)))|((first|refine hK _ _ ?_|(clear hK;refine hK _ _ ?_)|(clear hK;clear hK;refine hK _ _ ?_)|(clear hK;clear hK;clear hK;refine hK _ _ ?_));clear hK;try simp only[pst0,simprocAttr])|(rw[if_pos];rotate_left 1;omega;simp(maxSteps:=2000000) only[Ty.w,simprocAttr,g0,g7,g8,hd,hr,w7,c1,c2,k0,c3,c4,c5,c6])));rw[hbad]
  ·have hd:decide ((k:Int)<(s.size:Int))=false:=(by simp;omega);have hok:bytesOkB s.data.toList=true:=bytesOk_true fun j c hj=>hall j c (by have:=(List.getElem?_eq_some_iff.1 hj).1;omega) hj;clear hall;have hn:nameB s=(!(s.data.toList==(#[]:Array UInt8).toList)&&decide ((s.size:Int)≤32)&&!(words.any fun w=>bEq s w)):=by
    have e1:decide (0<s.size)=!(s.data.toList==(#[]:Array UInt8).toList):=by
     rw[← hsl];cases s.data.toList<;>simp
    have e2:decide ((s.size:Int)≤32)=decide (s.size≤32):=by
     exact decide_eq_decide.2 (by omega)
    simp only[nameB,hok,Bool.true_and,e1,e2]
   cases b1:(s.data.toList==(#[]:Array UInt8).toList)with
   |true=>
    (repeat'(first|refine a_seq fun K hK=>?_|(refine a_block ?_)|((first|refine a_regionS ?_|refine a_region (fun K hK=>?_)|refine a_ret ?_);simp(maxSteps:=2000000) only[Ty.w,simprocAttr,g0,g7,g8,hd,b1])|((first|refine a_skip ?_|refine a_exit ?_);try simp only[pst0,simprocAttr])|(refine a_cond _ (by(try simp(maxSteps:=2000000) only[Ty.w,simprocAttr,g0,g7,g8,hd,b1]);rfl) (fun hb=>?_) (fun hb=>?_)<;>(try simp only[hb0,decide_eq_true_eq,decide_eq_false_iff_not,simprocAttr]at hb)<;>(try(exfalso;omega)))|(with_reducible refine ite_in (fun hb=>?_) (fun hb=>?_)<;>(try simp only[Decidable.not_not]at hb)<;>(try simp only[hb,if_true,if_false,not_false_eq_true,not_true_eq_false, ↓reduceIte])<;>(try simp only[hb0,decide_eq_true_eq,decide_eq_false_iff_not,simprocAttr]at hb)<;>(try(exfalso;omega)))|((first|refine hK _ _ ?_|(clear hK;refine hK _ _ ?_)|(clear hK;clear hK;refine hK _ _ ?_)|(clear hK;clear hK;clear hK;refine hK _ _ ?_));clear hK;try simp only[pst0,simprocAttr])|(rw[if_pos];rotate_left 1;omega;simp(maxSteps:=2000000) only[Ty.w,simprocAttr,g0,g7,g8,hd,b1])));rw[hn,b1];try rfl
   |false=>
    cases b2:decide ((s.size:Int)≤32)with
    |false=>
     (repeat'(first|refine a_seq fun K hK=>?_|(refine a_block ?_)|((first|refine a_regionS ?_|refine a_region (fun K hK=>?_)|refine a_ret ?_);simp(maxSteps:=2000000) only[Ty.w,simprocAttr,g0,g7,g8,hd,b1,b2])|((first|refine a_skip ?_|refine a_exit ?_);try simp only[pst0,simprocAttr])|(refine a_cond _ (by(try simp(maxSteps:=2000000) only[Ty.w,simprocAttr,g0,g7,g8,hd,b1,b2]);rfl) (fun hb=>?_) (fun hb=>?_)<;>(try simp only[hb0,decide_eq_true_eq,decide_eq_false_iff_not,simprocAttr]at hb)<;>(try(exfalso;omega)))|(with_reducible refine ite_in (fun hb=>?_) (fun hb=>?_)<;>(try simp only[Decidable.not_not]at hb)<;>(try simp only[hb,if_true,if_false,not_false_eq_true,not_true_eq_false, ↓reduceIte])<;>(try simp only[hb0,decide_eq_true_eq,decide_eq_false_iff_not,simprocAttr]at hb)<;>(try(exfalso;omega)))|((first|refine hK _ _ ?_|(clear hK;refine hK _ _ ?_)|(clear hK;clear hK;refine hK _ _ ?_)|(clear hK;clear hK;clear hK;refine hK _ _ ?_));clear hK;try simp only[pst0,simprocAttr])|(rw[if_pos];rotate_left 1;omega;simp(maxSteps:=2000000) only[Ty.w,simprocAttr,g0,g7,g8,hd,b1,b2])));rw[hn,b1,b2];try rfl
    |true=>
     (repeat'(first|refine a_seq fun K hK=>?_|(refine a_block ?_)|((first|refine a_regionS ?_|refine a_region (fun K hK=>?_)|refine a_ret ?_);simp(maxSteps:=2000000) only[Ty.w,simprocAttr,g0,g7,g8,hd,b1,b2])|((first|refine a_skip ?_|refine a_exit ?_);try simp only[pst0,simprocAttr])|(refine a_cond _ (by(try simp(maxSteps:=2000000) only[Ty.w,simprocAttr,g0,g7,g8,hd,b1,b2]);rfl) (fun hb=>?_) (fun hb=>?_)<;>(try simp only[hb0,decide_eq_true_eq,decide_eq_false_iff_not,simprocAttr]at hb)<;>(try(exfalso;omega)))|(with_reducible refine ite_in (fun hb=>?_) (fun hb=>?_)<;>(try simp only[Decidable.not_not]at hb)<;>(try simp only[hb,if_true,if_false,not_false_eq_true,not_true_eq_false, ↓reduceIte])<;>(try simp only[hb0,decide_eq_true_eq,decide_eq_false_iff_not,simprocAttr]at hb)<;>(try(exfalso;omega)))|((first|refine hK _ _ ?_|(clear hK;refine hK _ _ ?_)|(clear hK;clear hK;refine hK _ _ ?_)|(clear hK;clear hK;clear hK;refine hK _ _ ?_));clear hK;try simp only[pst0,simprocAttr])|(rw[if_pos];rotate_left 1;omega;simp(maxSteps:=2000000) only[Ty.w,simprocAttr,g0,g7,g8,hd,b1,b2])));have hwl:words.length≤9223372036854775807:=(by rw[words_len];omega);refine owp_useQ (reserved_c) (by(try simp only[Ty.w,simprocAttr,]);try rfl) ?_;simp(maxSteps:=2000000) only[Ty.w,simprocAttr,];refine owp_useQ (contains_c (l:=words) (s:=s) hwl) (by(try simp only[Ty.w,simprocAttr,b1,b2,g0]);try rfl) ?_;simp(maxSteps:=2000000) only[Ty.w,simprocAttr,b1,b2,g0];(repeat'(first|refine a_seq fun K hK=>?_|(refine a_block ?_)|((first|refine a_regionS ?_|refine a_region (fun K hK=>?_)|refine a_ret ?_);simp(maxSteps:=2000000) only[Ty.w,simprocAttr,g0,b1,b2])|((first|refine a_skip ?_|refine a_exit ?_);try simp only[pst0,simprocAttr])|(refine a_cond _ (by(try simp(maxSteps:=2000000) only[Ty.w,simprocAttr,g0,b1,b2]);rfl) (fun hb=>?_) (fun hb=>?_)<;>(try simp only[hb0,decide_eq_true_eq,decide_eq_false_iff_not,simprocAttr]at hb)<;>(try(exfalso;omega)))|(with_reducible refine ite_in (fun hb=>?_) (fun hb=>?_)<;>(try simp only[Decidable.not_not]at hb)<;>(try simp only[hb,if_true,if_false,not_false_eq_true,not_true_eq_false, ↓reduceIte])<;>(try simp only[hb0,decide_eq_true_eq,decide_eq_false_iff_not,simprocAttr]at hb)<;>(try(exfalso;omega)))|((first|refine hK _ _ ?_|(clear hK;refine hK _ _ ?_)|(clear hK;clear hK;refine hK _ _ ?_)|(clear hK;clear hK;clear hK;refine hK _ _ ?_));clear hK;try simp only[pst0,simprocAttr])|(rw[if_pos];rotate_left 1;omega;simp(maxSteps:=2000000) only[Ty.w,simprocAttr,g0,b1,b2])));rw[hn,b1,b2];try rfl
theorem fvariable_c{h:Heap}{s:ByteArray}(hs:s.size≤9223372036854775807):PCall Tryz.prog 106 [sPV s] h fun r h'=>r= .sc (.bool (varB s))∧h'=h:=by
 cases b1:decide ((s.size:Int)>1)with
 |false=>
  have:varB s=false:=by simp at b1;simp[varB];omega
  refine pcall_body (ow:=fun _=>false) (wf:=fun _=>false) Ty.mixed Tryz.func106 rfl Ty.hb_106 (by rw[Tryz.ntmps106];simp) ?_;rw[Tryz.ntmps106,Tryz.results106];repeat'(first|refine a_seq fun K hK=>?_|(refine a_block ?_)|((first|refine a_regionS ?_|refine a_region (fun K hK=>?_)|refine a_ret ?_);simp(maxSteps:=2000000) only[Ty.w,simprocAttr,b1])|((first|refine a_skip ?_|refine a_exit ?_);try simp only[pst0,simprocAttr])|(refine a_cond _ (by(try simp(maxSteps:=2000000) only[Ty.w,simprocAttr,b1]);rfl) (fun hb=>?_) (fun hb=>?_)<;>(try simp only[hb0,decide_eq_true_eq,decide_eq_false_iff_not,simprocAttr]at hb)<;>(try(exfalso;omega)))|(with_reducible refine ite_in (fun hb=>?_) (fun hb=>?_)<;>(try simp only[Decidable.not_not]at hb)<;>(try simp only[hb,if_true,if_false,not_false_eq_true,not_true_eq_false, ↓reduceIte])<;>(try simp only[hb0,decide_eq_true_eq,decide_eq_false_iff_not,simprocAttr]at hb)<;>(try(exfalso;omega)))|((first|refine hK _ _ ?_|(clear hK;refine hK _ _ ?_)|(clear hK;clear hK;refine hK _ _ ?_)|(clear hK;clear hK;clear hK;refine hK _ _ ?_));clear hK;try simp only[pst0,simprocAttr])|(rw[if_pos];rotate_left 1;omega;simp(maxSteps:=2000000) only[Ty.w,simprocAttr,b1]))
  rw[this]
 |true=>
  cases b2:decide ((s.size:Int)≤32)with
  |false=>
   have:varB s=false:=(by simp at b2;simp[varB];omega);refine pcall_body (ow:=fun _=>false) (wf:=fun _=>false) Ty.mixed Tryz.func106 rfl Ty.hb_106 (by rw[Tryz.ntmps106];simp) ?_;rw[Tryz.ntmps106,Tryz.results106];(repeat'(first|refine a_seq fun K hK=>?_|(refine a_block ?_)|((first|refine a_regionS ?_|refine a_region (fun K hK=>?_)|refine a_ret ?_);simp(maxSteps:=2000000) only[Ty.w,simprocAttr,b1,b2])|((first|refine a_skip ?_|refine a_exit ?_);try simp only[pst0,simprocAttr])|(refine a_cond _ (by(try simp(maxSteps:=2000000) only[Ty.w,simprocAttr,b1,b2]);rfl) (fun hb=>?_) (fun hb=>?_)<;>(try simp only[hb0,decide_eq_true_eq,decide_eq_false_iff_not,simprocAttr]at hb)<;>(try(exfalso;omega)))|(with_reducible refine ite_in (fun hb=>?_) (fun hb=>?_)<;>(try simp only[Decidable.not_not]at hb)<;>(try simp only[hb,if_true,if_false,not_false_eq_true,not_true_eq_false, ↓reduceIte])<;>(try simp only[hb0,decide_eq_true_eq,decide_eq_false_iff_not,simprocAttr]at hb)<;>(try(exfalso;omega)))|((first|refine hK _ _ ?_|(clear hK;refine hK _ _ ?_)|(clear hK;clear hK;refine hK _ _ ?_)|(clear hK;clear hK;clear hK;refine hK _ _ ?_));clear hK;try simp only[pst0,simprocAttr])|(rw[if_pos];rotate_left 1;omega;simp(maxSteps:=2000000) only[Ty.w,simprocAttr,b1,b2])));rw[this]
  |true=>
   simp at b1 b2;have hsl:s.data.toList.length=s.size:=(by rw[Array.length_toList];try rfl);obtain⟨c,hx⟩: ∃ c,s.data.toList[0]? =some c:=⟨_,List.getElem?_eq_getElem (by omega)⟩;have hr:s[0]? =some c:=(by rw[ba_get];exact hx);have d1:decide ((s.size:Int)>1)=true:=(by simp;omega);have d2:decide ((s.size:Int)≤32)=true:=(by simp;omega);have q1:(1:Int)≤(s.size:Int):=(by omega);have hv:varB s=(decide (c.toNat=63)&&nameB (s.extract 1 s.size)):=by
    have e1:decide (2≤s.size)=true:=(by simp;omega);have e2:decide (s.size≤32)=true:=(by simp;omega);simp only[varB,e1,e2,hx,Bool.true_and]
   cases b3:((c.toNat:Int)==63)with
   |false=>
    have:¬ c.toNat=63:=(by simp at b3;omega);refine pcall_body (ow:=fun _=>false) (wf:=fun _=>false) Ty.mixed Tryz.func106 rfl Ty.hb_106 (by rw[Tryz.ntmps106];simp) ?_;rw[Tryz.ntmps106,Tryz.results106];(repeat'(first|refine a_seq fun K hK=>?_|(refine a_block ?_)|((first|refine a_regionS ?_|refine a_region (fun K hK=>?_)|refine a_ret ?_);simp(maxSteps:=2000000) only[Ty.w,simprocAttr,d1,d2,hr,b3])|((first|refine a_skip ?_|refine a_exit ?_);try simp only[pst0,simprocAttr])|(refine a_cond _ (by(try simp(maxSteps:=2000000) only[Ty.w,simprocAttr,d1,d2,hr,b3]);rfl) (fun hb=>?_) (fun hb=>?_)<;>(try simp only[hb0,decide_eq_true_eq,decide_eq_false_iff_not,simprocAttr]at hb)<;>(try(exfalso;omega)))|(with_reducible refine ite_in (fun hb=>?_) (fun hb=>?_)<;>(try simp only[Decidable.not_not]at hb)<;>(try simp only[hb,if_true,if_false,not_false_eq_true,not_true_eq_false, ↓reduceIte])<;>(try simp only[hb0,decide_eq_true_eq,decide_eq_false_iff_not,simprocAttr]at hb)<;>(try(exfalso;omega)))|((first|refine hK _ _ ?_|(clear hK;refine hK _ _ ?_)|(clear hK;clear hK;refine hK _ _ ?_)|(clear hK;clear hK;clear hK;refine hK _ _ ?_));clear hK;try simp only[pst0,simprocAttr])|(rw[if_pos];rotate_left 1;omega;simp(maxSteps:=2000000) only[Ty.w,simprocAttr,d1,d2,hr,b3])));rw[hv];simp[this]
   |true=>
    have:c.toNat=63:=(by simp at b3;omega);refine pcall_body (ow:=fun _=>false) (wf:=fun _=>false) Ty.mixed Tryz.func106 rfl Ty.hb_106 (by rw[Tryz.ntmps106];simp) ?_;rw[Tryz.ntmps106,Tryz.results106];have hsz:(s.extract 1 s.size).size≤9223372036854775807:=(by simp;omega);(repeat'(first|refine a_seq fun K hK=>?_|(refine a_block ?_)|((first|refine a_regionS ?_|refine a_region (fun K hK=>?_)|refine a_ret ?_);simp(maxSteps:=2000000) only[Ty.w,simprocAttr,d1,d2,hr,b3,q1,Option.getD_some,Option.getD_none,Int.le_refl])|((first|refine a_skip ?_|refine a_exit ?_);try simp only[pst0,simprocAttr])|(refine a_cond _ (by(try simp(maxSteps:=2000000) only[Ty.w,simprocAttr,d1,d2,hr,b3,q1,Option.getD_some,Option.getD_none,Int.le_refl]);rfl) (fun hb=>?_) (fun hb=>?_)<;>(try simp only[hb0,decide_eq_true_eq,decide_eq_false_iff_not,simprocAttr]at hb)<;>(try(exfalso;omega)))|(with_reducible refine ite_in (fun hb=>?_) (fun hb=>?_)<;>(try simp only[Decidable.not_not]at hb)<;>(try simp only[hb,if_true,if_false,not_false_eq_true,not_true_eq_false, ↓reduceIte])<;>(try simp only[hb0,decide_eq_true_eq,decide_eq_false_iff_not,simprocAttr]at hb)<;>(try(exfalso;omega)))|((first|refine hK _ _ ?_|(clear hK;refine hK _ _ ?_)|(clear hK;clear hK;refine hK _ _ ?_)|(clear hK;clear hK;clear hK;refine hK _ _ ?_));clear hK;try simp only[pst0,simprocAttr])|(rw[if_pos];rotate_left 1;omega;simp(maxSteps:=2000000) only[Ty.w,simprocAttr,d1,d2,hr,b3,q1,Option.getD_some,Option.getD_none,Int.le_refl])));refine owp_useQ (fname_c (s:=s.extract 1 s.size) hsz) (by(try simp only[Ty.w,simprocAttr,d1,d2,hr,b3,q1,Option.getD_some,Option.getD_none,Int.le_refl]);try rfl) ?_;simp(maxSteps:=2000000) only[Ty.w,simprocAttr,d1,d2,hr,b3,q1,Option.getD_some,Option.getD_none,Int.le_refl];(repeat'(first|refine a_seq fun K hK=>?_|(refine a_block ?_)|((first|refine a_regionS ?_|refine a_region (fun K hK=>?_)|refine a_ret ?_);simp(maxSteps:=2000000) only[Ty.w,simprocAttr,d1,d2,b3])|((first|refine a_skip ?_|refine a_exit ?_);try simp only[pst0,simprocAttr])|(refine a_cond _ (by(try simp(maxSteps:=2000000) only[Ty.w,simprocAttr,d1,d2,b3]);rfl) (fun hb=>?_) (fun hb=>?_)<;>(try simp only[hb0,decide_eq_true_eq,decide_eq_false_iff_not,simprocAttr]at hb)<;>(try(exfalso;omega)))|(with_reducible refine ite_in (fun hb=>?_) (fun hb=>?_)<;>(try simp only[Decidable.not_not]at hb)<;>(try simp only[hb,if_true,if_false,not_false_eq_true,not_true_eq_false, ↓reduceIte])<;>(try simp only[hb0,decide_eq_true_eq,decide_eq_false_iff_not,simprocAttr]at hb)<;>(try(exfalso;omega)))|((first|refine hK _ _ ?_|(clear hK;refine hK _ _ ?_)|(clear hK;clear hK;refine hK _ _ ?_)|(clear hK;clear hK;clear hK;refine hK _ _ ?_));clear hK;try simp only[pst0,simprocAttr])|(rw[if_pos];rotate_left 1;omega;simp(maxSteps:=2000000) only[Ty.w,simprocAttr,d1,d2,b3])));rw[hv,this];try rfl
theorem rname_c{h:Heap}{s:ByteArray}(hs:s.size≤9223372036854775807):PCall Tryz.prog 18 [sPV s] h fun r h'=>r= .sc (.bool (nameB s))∧h'=h:=by
 have hsl:s.data.toList.length=s.size:=by rw[Array.length_toList];try rfl
 cases b1:decide ((s.size:Int)<1)with
 |true=>
  have:nameB s=false:=by simp at b1;simp[nameB];intros;omega
  refine pcall_body (ow:=fun _=>false) (wf:=fun _=>false) Ty.mixed Tryz.func18 rfl Ty.hb_18 (by rw[Tryz.ntmps18];simp) ?_;rw[Tryz.ntmps18,Tryz.results18];repeat'(first|refine a_seq fun K hK=>?_|(refine a_block ?_)|((first|refine a_regionS ?_|refine a_region (fun K hK=>?_)|refine a_ret ?_);simp(maxSteps:=2000000) only[Ty.w,simprocAttr,b1])|((first|refine a_skip ?_|refine a_exit ?_);try simp only[pst0,simprocAttr])|(refine a_cond _ (by(try simp(maxSteps:=2000000) only[Ty.w,simprocAttr,b1]);rfl) (fun hb=>?_) (fun hb=>?_)<;>(try simp only[hb0,decide_eq_true_eq,decide_eq_false_iff_not,simprocAttr]at hb)<;>(try(exfalso;omega)))|(with_reducible refine ite_in (fun hb=>?_) (fun hb=>?_)<;>(try simp only[Decidable.not_not]at hb)<;>(try simp only[hb,if_true,if_false,not_false_eq_true,not_true_eq_false, ↓reduceIte])<;>(try simp only[hb0,decide_eq_true_eq,decide_eq_false_iff_not,simprocAttr]at hb)<;>(try(exfalso;omega)))|((first|refine hK _ _ ?_|(clear hK;refine hK _ _ ?_)|(clear hK;clear hK;refine hK _ _ ?_)|(clear hK;clear hK;clear hK;refine hK _ _ ?_));clear hK;try simp only[pst0,simprocAttr])|(rw[if_pos];rotate_left 1;omega;simp(maxSteps:=2000000) only[Ty.w,simprocAttr,b1]))
  rw[this]
 |false=>
  cases b2:decide ((s.size:Int)>32)with
  |true=>
   have:nameB s=false:=by
    simp at b2;have:¬ s.size≤32:=(by omega);simp[nameB,this]
   refine pcall_body (ow:=fun _=>false) (wf:=fun _=>false) Ty.mixed Tryz.func18 rfl Ty.hb_18 (by rw[Tryz.ntmps18];simp) ?_;rw[Tryz.ntmps18,Tryz.results18];(repeat'(first|refine a_seq fun K hK=>?_|(refine a_block ?_)|((first|refine a_regionS ?_|refine a_region (fun K hK=>?_)|refine a_ret ?_);simp(maxSteps:=2000000) only[Ty.w,simprocAttr,b1,b2])|((first|refine a_skip ?_|refine a_exit ?_);try simp only[pst0,simprocAttr])|(refine a_cond _ (by(try simp(maxSteps:=2000000) only[Ty.w,simprocAttr,b1,b2]);rfl) (fun hb=>?_) (fun hb=>?_)<;>(try simp only[hb0,decide_eq_true_eq,decide_eq_false_iff_not,simprocAttr]at hb)<;>(try(exfalso;omega)))|(with_reducible refine ite_in (fun hb=>?_) (fun hb=>?_)<;>(try simp only[Decidable.not_not]at hb)<;>(try simp only[hb,if_true,if_false,not_false_eq_true,not_true_eq_false, ↓reduceIte])<;>(try simp only[hb0,decide_eq_true_eq,decide_eq_false_iff_not,simprocAttr]at hb)<;>(try(exfalso;omega)))|((first|refine hK _ _ ?_|(clear hK;refine hK _ _ ?_)|(clear hK;clear hK;refine hK _ _ ?_)|(clear hK;clear hK;clear hK;refine hK _ _ ?_));clear hK;try simp only[pst0,simprocAttr])|(rw[if_pos];rotate_left 1;omega;simp(maxSteps:=2000000) only[Ty.w,simprocAttr,b1,b2])));rw[this]
  |false=>
   have b1':=b1;have b2':=b2;simp at b1' b2';obtain⟨c,hx⟩: ∃ c,s.data.toList[0]? =some c:=⟨_,List.getElem?_eq_getElem (by omega)⟩;have hr:s[0]? =some c:=(by rw[ba_get];exact hx);cases b3:decide ((c.toNat:Int)<97)with
   |true=>
    have:letB c=false:=(by simp at b3;simp[letB];omega);have:nameB s=false:=(by simp[nameB,bytesOk_false hx (by simp[okAt,this])]);refine pcall_body (ow:=fun _=>false) (wf:=fun _=>false) Ty.mixed Tryz.func18 rfl Ty.hb_18 (by rw[Tryz.ntmps18];simp) ?_;rw[Tryz.ntmps18,Tryz.results18];(repeat'(first|refine a_seq fun K hK=>?_|(refine a_block ?_)|((first|refine a_regionS ?_|refine a_region (fun K hK=>?_)|refine a_ret ?_);simp(maxSteps:=2000000) only[Ty.w,simprocAttr,b1,b2,b3,hr])|((first|refine a_skip ?_|refine a_exit ?_);try simp only[pst0,simprocAttr])|(refine a_cond _ (by(try simp(maxSteps:=2000000) only[Ty.w,simprocAttr,b1,b2,b3,hr]);rfl) (fun hb=>?_) (fun hb=>?_)<;>(try simp only[hb0,decide_eq_true_eq,decide_eq_false_iff_not,simprocAttr]at hb)<;>(try(exfalso;omega)))|(with_reducible refine ite_in (fun hb=>?_) (fun hb=>?_)<;>(try simp only[Decidable.not_not]at hb)<;>(try simp only[hb,if_true,if_false,not_false_eq_true,not_true_eq_false, ↓reduceIte])<;>(try simp only[hb0,decide_eq_true_eq,decide_eq_false_iff_not,simprocAttr]at hb)<;>(try(exfalso;omega)))|((first|refine hK _ _ ?_|(clear hK;refine hK _ _ ?_)|(clear hK;clear hK;refine hK _ _ ?_)|(clear hK;clear hK;clear hK;refine hK _ _ ?_));clear hK;try simp only[pst0,simprocAttr])|(rw[if_pos];rotate_left 1;omega;simp(maxSteps:=2000000) only[Ty.w,simprocAttr,b1,b2,b3,hr])));rw[this]
   |false=>
    cases b4:decide ((c.toNat:Int)>122)with
    |true=>
     have:letB c=false:=(by simp at b4;simp[letB];omega);have:nameB s=false:=(by simp[nameB,bytesOk_false hx (by simp[okAt,this])]);refine pcall_body (ow:=fun _=>false) (wf:=fun _=>false) Ty.mixed Tryz.func18 rfl Ty.hb_18 (by rw[Tryz.ntmps18];simp) ?_;rw[Tryz.ntmps18,Tryz.results18];(repeat'(first|refine a_seq fun K hK=>?_|(refine a_block ?_)|((first|refine a_regionS ?_|refine a_region (fun K hK=>?_)|refine a_ret ?_);simp(maxSteps:=2000000) only[Ty.w,simprocAttr,b1,b2,b3,b4,hr])|((first|refine a_skip ?_|refine a_exit ?_);try simp only[pst0,simprocAttr])|(refine a_cond _ (by(try simp(maxSteps:=2000000) only[Ty.w,simprocAttr,b1,b2,b3,b4,hr]);rfl) (fun hb=>?_) (fun hb=>?_)<;>(try simp only[hb0,decide_eq_true_eq,decide_eq_false_iff_not,simprocAttr]at hb)<;>(try(exfalso;omega)))|(with_reducible refine ite_in (fun hb=>?_) (fun hb=>?_)<;>(try simp only[Decidable.not_not]at hb)<;>(try simp only[hb,if_true,if_false,not_false_eq_true,not_true_eq_false, ↓reduceIte])<;>(try simp only[hb0,decide_eq_true_eq,decide_eq_false_iff_not,simprocAttr]at hb)<;>(try(exfalso;omega)))|((first|refine hK _ _ ?_|(clear hK;refine hK _ _ ?_)|(clear hK;clear hK;refine hK _ _ ?_)|(clear hK;clear hK;clear hK;refine hK _ _ ?_));clear hK;try simp only[pst0,simprocAttr])|(rw[if_pos];rotate_left 1;omega;simp(maxSteps:=2000000) only[Ty.w,simprocAttr,b1,b2,b3,b4,hr])));rw[this]
    |false=>
     have hlet:letB c=true:=(by simp at b3 b4;simp[letB];omega);refine pcall_body (ow:=fun _=>false) (wf:=fun _=>false) Ty.mixed Tryz.func18 rfl Ty.hb_18 (by rw[Tryz.ntmps18];simp) ?_;rw[Tryz.ntmps18,Tryz.results18];(repeat'(first|refine a_seq fun K hK=>?_|(refine a_block ?_)|((first|refine a_regionS ?_|refine a_region (fun K hK=>?_)|refine a_ret ?_);simp(maxSteps:=2000000) only[Ty.w,simprocAttr,b1,b2,b3,b4,hr])|((first|refine a_skip ?_|refine a_exit ?_);try simp only[pst0,simprocAttr])|(refine a_cond _ (by(try simp(maxSteps:=2000000) only[Ty.w,simprocAttr,b1,b2,b3,b4,hr]);rfl) (fun hb=>?_) (fun hb=>?_)<;>(try simp only[hb0,decide_eq_true_eq,decide_eq_false_iff_not,simprocAttr]at hb)<;>(try(exfalso;omega)))|(with_reducible refine ite_in (fun hb=>?_) (fun hb=>?_)<;>(try simp only[Decidable.not_not]at hb)<;>(try simp only[hb,if_true,if_false,not_false_eq_true,not_true_eq_false, ↓reduceIte])<;>(try simp only[hb0,decide_eq_true_eq,decide_eq_false_iff_not,simprocAttr]at hb)<;>(try(exfalso;omega)))|((first|refine hK _ _ ?_|(clear hK;refine hK _ _ ?_)|(clear hK;clear hK;refine hK _ _ ?_)|(clear hK;clear hK;clear hK;refine hK _ _ ?_));clear hK;try simp only[pst0,simprocAttr])|(rw[if_pos];rotate_left 1;omega;simp(maxSteps:=2000000) only[Ty.w,simprocAttr,b1,b2,b3,b4,hr])));cases b5:(words.any fun w=>bEq s w)with
     |true=>
      have:nameB s=false:=(by simp[nameB,b5]);refine owp_useQ (rreserved_c (s:=s)) (by(try simp only[Ty.w,simprocAttr,b1,b2,b3,b4,hr]);try rfl) ?_;simp(maxSteps:=2000000) only[Ty.w,simprocAttr,b1,b2,b3,b4,hr];(repeat'(first|refine a_seq fun K hK=>?_|(refine a_block ?_)|((first|refine a_regionS ?_|refine a_region (fun K hK=>?_)|refine a_ret ?_);simp(maxSteps:=2000000) only[Ty.w,simprocAttr,b5])|((first|refine a_skip ?_|refine a_exit ?_);try simp only[pst0,simprocAttr])|(refine a_cond _ (by(try simp(maxSteps:=2000000) only[Ty.w,simprocAttr,b5]);rfl) (fun hb=>?_) (fun hb=>?_)<;>(try simp only[hb0,decide_eq_true_eq,decide_eq_false_iff_not,simprocAttr]at hb)<;>(try(exfalso;omega)))|(with_reducible refine ite_in (fun hb=>?_) (fun hb=>?_)<;>(try simp only[Decidable.not_not]at hb)<;>(try simp only[hb,if_true,if_false,not_false_eq_true,not_true_eq_false, ↓reduceIte])<;>(try simp only[hb0,decide_eq_true_eq,decide_eq_false_iff_not,simprocAttr]at hb)<;>(try(exfalso;omega)))|((first|refine hK _ _ ?_|(clear hK;refine hK _ _ ?_)|(clear hK;clear hK;refine hK _ _ ?_)|(clear hK;clear hK;clear hK;refine hK _ _ ?_));clear hK;try simp only[pst0,simprocAttr])|(rw[if_pos];rotate_left 1;omega;simp(maxSteps:=2000000) only[Ty.w,simprocAttr,b5])));rw[this]
     |false=>
      refine owp_useQ (rreserved_c (s:=s)) (by(try simp only[Ty.w,simprocAttr,b1,b2,b3,b4,hr]);try rfl) ?_;simp(maxSteps:=2000000) only[Ty.w,simprocAttr,b1,b2,b3,b4,hr];(repeat'(first|refine a_seq fun K hK=>?_|(refine a_block ?_)|((first|refine a_regionS ?_|refine a_region (fun K hK=>?_)|refine a_ret ?_);simp(maxSteps:=2000000) only[Ty.w,simprocAttr,b5])|((first|refine a_skip ?_|refine a_exit ?_);try simp only[pst0,simprocAttr])|(refine a_cond _ (by(try simp(maxSteps:=2000000) only[Ty.w,simprocAttr,b5]);rfl) (fun hb=>?_) (fun hb=>?_)<;>(try simp only[hb0,decide_eq_true_eq,decide_eq_false_iff_not,simprocAttr]at hb)<;>(try(exfalso;omega)))|(with_reducible refine ite_in (fun hb=>?_) (fun hb=>?_)<;>(try simp only[Decidable.not_not]at hb)<;>(try simp only[hb,if_true,if_false,not_false_eq_true,not_true_eq_false, ↓reduceIte])<;>(try simp only[hb0,decide_eq_true_eq,decide_eq_false_iff_not,simprocAttr]at hb)<;>(try(exfalso;omega)))|((first|refine hK _ _ ?_|(clear hK;refine hK _ _ ?_)|(clear hK;clear hK;refine hK _ _ ?_)|(clear hK;clear hK;clear hK;refine hK _ _ ?_));clear hK;try simp only[pst0,simprocAttr])|(rw[if_pos];rotate_left 1;omega;simp(maxSteps:=2000000) only[Ty.w,simprocAttr,b5])));refine a_loop (fun m S h'=>h'=h∧S 0=sPV s∧ ∃ k:Nat,S 3= .sc (.int .i64 k)∧k≤s.size∧m=s.size-k∧ ∀ (i:Nat)(c:UInt8),i<k→s.data.toList[i]? =some c→midB c=true) s.size ?_ ?_
      ·simp only[Ty.w,simprocAttr];exact⟨0,rfl,by omega,rfl,by omega⟩
      ·rintro m S h' ⟨rfl,g0,k,g3,hk,rfl,hall⟩;by_cases hlt:k<s.size
       ·have hd:decide ((k:Int)<(s.size:Int))=true:=(by simp;omega);have w7:IntKind.i64.wrap ((k:Int)+1)=k+1:=(by rw[wrap64 (by omega) (by omega)]);obtain⟨d,hx2⟩: ∃ d,s.data.toList[k]? =some d:=⟨_,List.getElem?_eq_getElem (by omega)⟩;have hr2:s[k]? =some d:=(by rw[ba_get];exact hx2);have bad:midB d=false→nameB s=false:=fun e=>by
         by_cases hk0:k=0
         ·subst hk0;rw[hx]at hx2;simp at hx2;subst hx2;rw[letB_mid hlet]at e;simp at e
         ·simp [nameB,bytesOk_false hx2 (by simp[okAt,e];cases hl:letB d<;>simp;rw[letB_mid hl]at e;simp at e)]
        have good:midB d=true→ ∃ m',m'<s.size-k∧ ∃ k':Nat,(k:Int)+1=k'∧k'≤s.size∧m'=s.size-k'∧ ∀ (i:Nat)(c:UInt8),i<k'→s.data.toList[i]? =some c→midB c=true:=fun e=>by
         refine⟨s.size-(k+1),by omega,k+1,by simp,by omega,rfl,fun i c2 hi hw=>?_⟩;by_cases hik:i=k
         ·subst hik;rw[hx2]at hw;simp at hw;rw[← hw];exact e
         ·exact hall i c2 (by omega) hw
        clear hall;rcases byte_cls3 d with⟨m1,c1,c2⟩|⟨m1,c1,c2,c3,c4,c5,c6⟩|⟨c1,c2⟩
        ·(repeat' (first|refine a_seq fun K hK=>?_|(refine a_block ?_)|((first|refine a_regionS ?_|refine a_region (fun K hK=>?_)|refine a_ret ?_);simp(maxSteps:=2000000) only[Ty.w,simprocAttr,g0,g3,hd,hr2,w7,c1,c2])|((first|refine a_skip ?_|refine a_exit ?_);try simp only[pst0,simprocAttr])|(refine a_cond _ (by(try simp(maxSteps:=2000000) only[Ty.w,simprocAttr,g0,g3,hd,hr2,w7,c1,c2]);rfl) (fun hb=>?_) (fun hb=>?_)<;>(try simp only[hb0,decide_eq_true_eq,decide_eq_false_iff_not,simprocAttr]at hb)<;>(try(exfalso;omega)))|(with_reducible refine ite_in (fun hb=>?_) (fun hb=>?_)<;>(try simp only[Decidable.not_not]at hb)<;>(try simp only[hb,if_true,if_false,not_false_eq_true,not_true_eq_false, ↓reduceIte])<;>(try simp only[hb0,decide_eq_true_eq,decide_eq_false_iff_not,simprocAttr]at hb)<;>(try(exfalso;omega)))|((first|refine hK _ _ ?_|(clear hK;refine hK _ _ ?_)|(clear hK;clear hK;refine hK _ _ ?_)|(clear hK;clear hK;clear hK;refine hK _ _ ?_));clear hK;try simp only[pst0,simprocAttr])|(rw[if_pos];rotate_left 1;omega;simp(maxSteps:=2000000) only[Ty.w,simprocAttr,g0,g3,hd,hr2,w7,c1,c2])));have:=good m1;simpa using this
        ·have hbad:=bad m1;(repeat'(first|refine a_seq fun K hK=>?_|(refine a_block ?_)|((first|refine a_regionS ?_|refine a_region (fun K hK=>?_)|refine a_ret ?_);simp(maxSteps:=2000000) only[Ty.w,simprocAttr,g0,g3,hd,hr2,w7,c1,c2,c3,c4,c5,c6])|((first|refine a_skip ?_|refine a_exit ?_);try simp only[pst0,simprocAttr])|(refine a_cond _ (by(try simp(maxSteps:=2000000) only[Ty.w,simprocAttr,g0,g3,hd,hr2,w7,c1,c2,c3,c4,c5,c6]);rfl) (fun hb=>?_) (fun hb=>?_)<;>(try simp only[hb0,decide_eq_true_eq,decide_eq_false_iff_not,simprocAttr]at hb)<;>(try(exfalso;omega)))|(with_reducible refine ite_in (fun hb=>?_) (fun hb=>?_)<;>(try simp only[Decidable.not_not]at hb)<;>(try simp only[hb,if_true,if_false,not_false_eq_true,not_true_eq_false, ↓reduceIte])<;>(try simp only[hb0,decide_eq_true_eq,decide_eq_false_iff_not,simprocAttr]at hb)<;>(try(exfalso;omega)))|((first|refine hK _ _ ?_|(clear hK;refine hK _ _ ?_)|(clear hK;clear hK;refine hK _ _ ?_)|(clear hK;clear hK;clear hK;refine hK _ _ ?_));clear hK;try simp only[pst0,simprocAttr])|(rw[if_pos];rotate_left 1;omega;simp(maxSteps:=2000000) only[Ty.w,simprocAttr,g0,g3,hd,hr2,w7,c1,c2,c3,c4,c5,c6])));rw[hbad]
        ·rcases byte_cls2 c2 with⟨m1,c3,c5⟩|⟨m1,c3,c5,c6⟩|⟨m1,c3,c4⟩|⟨m1,c3,c4,c5,c6⟩|⟨m1,c3,c4,c5,c6⟩
         ·(repeat' (first|refine a_seq fun K hK=>?_|(refine a_block ?_)|((first|refine a_regionS ?_|refine a_region (fun K hK=>?_)|refine a_ret ?_);simp(maxSteps:=2000000) only[Ty.w,simprocAttr,g0,g3,hd,hr2,w7,c1,c3,c5])|((first|refine a_skip ?_|refine a_exit ?_);try simp only[pst0,simprocAttr])|(refine a_cond _ (by(try simp(maxSteps:=2000000) only[Ty.w,simprocAttr,g0,g3,hd,hr2,w7,c1,c3,c5]);rfl) (fun hb=>?_) (fun hb=>?_)<;>(try simp only[hb0,decide_eq_true_eq,decide_eq_false_iff_not,simprocAttr]at hb)<;>(try(exfalso;omega)))|(with_reducible refine ite_in (fun hb=>?_) (fun hb=>?_)<;>(try simp only[Decidable.not_not]at hb)<;>(try simp only[hb,if_true,if_false,not_false_eq_true,not_true_eq_false, ↓reduceIte])<;>(try simp only[hb0,decide_eq_true_eq,decide_eq_false_iff_not,simprocAttr]at hb)<;>(try(exfalso;omega)))|((first|refine hK _ _ ?_|(clear hK;refine hK _ _ ?_)|(clear hK;clear hK;refine hK _ _ ?_)|(clear hK;clear hK;clear hK;refine hK _ _ ?_));clear hK;try simp only[pst0,simprocAttr])|(rw[if_pos];rotate_left 1;omega;simp(maxSteps:=2000000) only[Ty.w,simprocAttr,g0,g3,hd,hr2,w7,c1,c3,c5])));have:=good m1;simpa using this
         ·have hbad:=bad m1;(repeat'(first|refine a_seq fun K hK=>?_|(refine a_block ?_)|((first|refine a_regionS ?_|refine a_region (fun K hK=>?_)|refine a_ret ?_);simp(maxSteps:=2000000) only[Ty.w,simprocAttr,g0,g3,hd,hr2,w7,c1,c3,c5,c6])|((first|refine a_skip ?_|refine a_exit ?_);try simp only[pst0,simprocAttr])|(refine a_cond _ (by(try simp(maxSteps:=2000000) only[Ty.w,simprocAttr,g0,g3,hd,hr2,w7,c1,c3,c5,c6]);rfl) (fun hb=>?_) (fun hb=>?_)<;>(try simp only[hb0,decide_eq_true_eq,decide_eq_false_iff_not,simprocAttr]at hb)<;>(try(exfalso;omega)))|(with_reducible refine ite_in (fun hb=>?_) (fun hb=>?_)<;>(try simp only[Decidable.not_not]at hb)<;>(try simp only[hb,if_true,if_false,not_false_eq_true,not_true_eq_false, ↓reduceIte])<;>(try simp only[hb0,decide_eq_true_eq,decide_eq_false_iff_not,simprocAttr]at hb)<;>(try(exfalso;omega)))|((first|refine hK _ _ ?_|(clear hK;refine hK _ _ ?_)|(clear hK;clear hK;refine hK _ _ ?_)|(clear hK;clear hK;clear hK;refine hK _ _ ?_));clear hK;try simp only[pst0,simprocAttr])|(rw[if_pos];rotate_left 1;omega;simp(maxSteps:=2000000) only[Ty.w,simprocAttr,g0,g3,hd,hr2,w7,c1,c3,c5,c6])));rw[hbad]
         ·(repeat' (first|refine a_seq fun K hK=>?_|(refine a_block ?_)|((first|refine a_regionS ?_|refine a_region (fun K hK=>?_)|refine a_ret ?_);simp(maxSteps:=2000000) only[Ty.w,simprocAttr,g0,g3,hd,hr2,w7,c1,c3,c4])|((first|refine a_skip ?_|refine a_exit ?_);try simp only[pst0,simprocAttr])|(refine a_cond _ (by(try simp(maxSteps:=2000000) only[Ty.w,simprocAttr,g0,g3,hd,hr2,w7,c1,c3,c4]);rfl) (fun hb=>?_) (fun hb=>?_)<;>(try simp only[hb0,decide_eq_true_eq,decide_eq_false_iff_not,simprocAttr]at hb)<;>(try(exfalso;omega)))|(with_reducible refine ite_in (fun hb=>?_) (fun hb=>?_)<;>(try simp only[Decidable.not_not]at hb)<;>(try simp only[hb,if_true,if_false,not_false_eq_true,not_true_eq_false, ↓reduceIte])<;>(try simp only[hb0,decide_eq_true_eq,decide_eq_false_iff_not,simprocAttr]at hb)<;>(try(exfalso;omega)))|((first|refine hK _ _ ?_|(clear hK;refine hK _ _ ?_)|(clear hK;clear hK;refine hK _ _ ?_)|(clear hK;clear hK;clear hK;refine hK _ _ ?_));clear hK;try simp only[pst0,simprocAttr])|(rw[if_pos];rotate_left 1;omega;simp(maxSteps:=2000000) only[Ty.w,simprocAttr,g0,g3,hd,hr2,w7,c1,c3,c4])));have:=good m1;simpa using this
         ·(repeat' (first|refine a_seq fun K hK=>?_|(refine a_block ?_)|((first|refine a_regionS ?_|refine a_region (fun K hK=>?_)|refine a_ret ?_);simp(maxSteps:=2000000) only[Ty.w,simprocAttr,g0,g3,hd,hr2,w7,c1,c3,c4,c5,c6])|((first|refine a_skip ?_|refine a_exit ?_);try simp only[pst0,simprocAttr])|(refine a_cond _ (by(try simp(maxSteps:=2000000) only[Ty.w,simprocAttr,g0,g3,hd,hr2,w7,c1,c3,c4,c5,c6]);rfl) (fun hb=>?_) (fun hb=>?_)<;>(try simp only[hb0,decide_eq_true_eq,decide_eq_false_iff_not,simprocAttr]at hb)<;>(try(exfalso;omega)))|(with_reducible refine ite_in (fun hb=>?_) (fun hb=>?_)<;>(try simp only[Decidable.not_not]at hb)<;>(try simp only[hb,if_true,if_false,not_false_eq_true,not_true_eq_false, ↓reduceIte])<;>(try simp only[hb0,decide_eq_true_eq,decide_eq_false_iff_not,simprocAttr]at hb)<;>(try(exfalso;omega)))|((first|refine hK _ _ ?_|(clear hK;refine hK _ _ ?_)|(clear hK;clear hK;refine hK _ _ ?_)|(clear hK;clear hK;clear hK;refine hK _ _ ?_));clear hK;try simp only[pst0,simprocAttr])|(rw[if_pos];rotate_left 1;omega;simp(maxSteps:=2000000) only[Ty.w,simprocAttr,g0,g3,hd,hr2,w7,c1,c3,c4,c5,c6])));have:=good m1;simpa using this
         ·have hbad:=bad m1;(repeat'(first|refine a_seq fun K hK=>?_|(refine a_block ?_)|((first|refine a_regionS ?_|refine a_region (fun K hK=>?_)|refine a_ret ?_);simp(maxSteps:=2000000) only[Ty.w,simprocAttr,g0,g3,hd,hr2,w7,c1,c3,c4,c5,c6])|((first|refine a_skip ?_|refine a_exit ?_);try simp only[pst0,simprocAttr])|(refine a_cond _ (by(try simp(maxSteps:=2000000) only[Ty.w,simprocAttr,g0,g3,hd,hr2,w7,c1,c3,c4,c5,c6]);rfl) (fun hb=>?_) (fun hb=>?_)<;>(try simp only[hb0,decide_eq_true_eq,decide_eq_false_iff_not,simprocAttr]at hb)<;>(try(exfalso;omega)))|(with_reducible refine ite_in (fun hb=>?_) (fun hb=>?_)<;>(try simp only[Decidable.not_not]at hb)<;>(try simp only[hb,if_true,if_false,not_false_eq_true,not_true_eq_false, ↓reduceIte])<;>(try simp only[hb0,decide_eq_true_eq,decide_eq_false_iff_not,simprocAttr]at hb)<;>(try(exfalso;omega)))|((first|refine hK _ _ ?_|(clear hK;refine hK _ _ ?_)|(clear hK;clear hK;refine hK _ _ ?_)|(clear hK;clear hK;clear hK;refine hK _ _ ?_));clear hK;try simp only[pst0,simprocAttr])|(rw[if_pos];rotate_left 1;omega;simp(maxSteps:=2000000) only[Ty.w,simprocAttr,g0,g3,hd,hr2,w7,c1,c3,c4,c5,c6])));rw[hbad]
       ·have hd:decide ((k:Int)<(s.size:Int))=false:=(by simp;omega);have hok:bytesOkB s.data.toList=true:=by
         refine bytesOk_true fun j d hj=>?_;by_cases hj0:j=0
         ·subst hj0;rw[hx]at hj;simp at hj;subst hj;simp[okAt,hlet]
         ·simp [okAt,hj0,hall j d (by have:=(List.getElem?_eq_some_iff.1 hj).1;omega) hj]
        have hn:nameB s=true:=by
         have e1:decide (0<s.size)=true:=(by simp;omega);have e2:decide (s.size≤32)=true:=(by simp;omega);simp only[nameB,hok,b5,e1,e2];rfl
        clear hall;(repeat'(first|refine a_seq fun K hK=>?_|(refine a_block ?_)|((first|refine a_regionS ?_|refine a_region (fun K hK=>?_)|refine a_ret ?_);simp(maxSteps:=2000000) only[Ty.w,simprocAttr,g0,g3,hd])|((first|refine a_skip ?_|refine a_exit ?_);try simp only[pst0,simprocAttr])|(refine a_cond _ (by(try simp(maxSteps:=2000000) only[Ty.w,simprocAttr,g0,g3,hd]);rfl) (fun hb=>?_) (fun hb=>?_)<;>(try simp only[hb0,decide_eq_true_eq,decide_eq_false_iff_not,simprocAttr]at hb)<;>(try(exfalso;omega)))|(with_reducible refine ite_in (fun hb=>?_) (fun hb=>?_)<;>(try simp only[Decidable.not_not]at hb)<;>(try simp only[hb,if_true,if_false,not_false_eq_true,not_true_eq_false, ↓reduceIte])<;>(try simp only[hb0,decide_eq_true_eq,decide_eq_false_iff_not,simprocAttr]at hb)<;>(try(exfalso;omega)))|((first|refine hK _ _ ?_|(clear hK;refine hK _ _ ?_)|(clear hK;clear hK;refine hK _ _ ?_)|(clear hK;clear hK;clear hK;refine hK _ _ ?_));clear hK;try simp only[pst0,simprocAttr])|(rw[if_pos];rotate_left 1;omega;simp(maxSteps:=2000000) only[Ty.w,simprocAttr,g0,g3,hd])));rw[hn]
open Go.AM Go.Shelf
set_option maxHeartbeats 2000000
set_option maxRecDepth 20000
theorem subI_eq(t:List UInt8):(s:List UInt8)→subI s t=Lib.contains s t
 |[]=>by
  unfold subI Lib.contains Lib.index;cases t<;>simp
 |b::l=>by
  have ih:=subI_eq t l;have ge:=Lib.index_ge l t;unfold subI;rw[ih];unfold Lib.contains
  conv=>rhs;unfold Lib.index
  split
  ·rename_i h;simp[h]
  ·rename_i h;split
   ·rename_i h2;simp only[beq_iff_eq]at h2;simp[h2,h]
   ·rename_i h2;simp only[beq_iff_eq]at h2;have e1:decide (0≤Lib.index l t)=true:=(by simp;omega);have e2:decide (0≤Lib.index l t+1)=true:=(by simp;omega);rw[e1,e2];simp
theorem contains2_c{s t:ByteArray}{h:Heap}{lo hi:Int}(hob:h.obj 0=some (.glb 0 lo hi))(hs:s.size<4294967281):PCall Tryz.prog 47 [.sc (.string s),.sc (.string t)] h fun r h'=>r= .sc (.bool (subI s.data.toList t.data.toList))∧h'=h:=by
 intro β w vals sm hr;have hv:vals=[.string s,.string t]:=by
  match vals,hr with
  |[x,y],hr=>simp only[RepL,Rep]at hr;rw[hr.1,hr.2.1]
 subst hv;have ob:=sm.ok 0 _ hob;simp only[ObjOk]at ob;obtain⟨_,_,i,_,_,hg⟩:=ob;refine Or.inl ⟨by kernel_rfl,(Any.strings_Contains layC s t i w hs hg).mono ?_⟩;rintro e w' ⟨rfl,rfl⟩;exact⟨_,h,β,_,rfl,⟨rfl,rfl⟩,sm,by simp only[RepH,Rep];rw[subI_eq],Ext.refl⟩
theorem tlower_c{h:Heap}{c:UInt8}:PCall Tryz.prog 35 [.sc (.int .u8 c.toNat)] h fun r h'=>r= .sc (.bool (letB c))∧h'=h:=by
 rcases byte_cls c with⟨l1,c1,c2⟩|⟨l1,c1⟩|⟨l1,m1,c1,c2,_⟩
 ·refine pcall_body (ow:=fun _=>false) (wf:=fun _=>false) Ty.mixed Tryz.func35 rfl Ty.hb_35 (by rw[Tryz.ntmps35];simp) ?_;rw[Tryz.ntmps35,Tryz.results35];repeat'(first|refine a_seq fun K hK=>?_|(refine a_block ?_)|((first|refine a_regionS ?_|refine a_region (fun K hK=>?_)|refine a_ret ?_);simp(maxSteps:=2000000) only[Ty.w,simprocAttr,c1,c2])|((first|refine a_skip ?_|refine a_exit ?_);try simp only[pst0,simprocAttr])|(refine a_cond _ (by(try simp(maxSteps:=2000000) only[Ty.w,simprocAttr,c1,c2]);rfl) (fun hb=>?_) (fun hb=>?_)<;>(try simp only[hb0,decide_eq_true_eq,decide_eq_false_iff_not,simprocAttr]at hb)<;>(try(exfalso;omega)))|(with_reducible refine ite_in (fun hb=>?_) (fun hb=>?_)<;>(try simp only[Decidable.not_not]at hb)<;>(try simp only[hb,if_true,if_false,not_false_eq_true,not_true_eq_false, ↓reduceIte])<;>(try simp only[hb0,decide_eq_true_eq,decide_eq_false_iff_not,simprocAttr]at hb)<;>(try(exfalso;omega)))|((first|refine hK _ _ ?_|(clear hK;refine hK _ _ ?_)|(clear hK;clear hK;refine hK _ _ ?_)|(clear hK;clear hK;clear hK;refine hK _ _ ?_));clear hK;try simp only[pst0,simprocAttr])|(rw[if_pos];rotate_left 1;omega;simp(maxSteps:=2000000) only[Ty.w,simprocAttr,c1,c2]))
  rw[l1]
 ·refine pcall_body (ow:=fun _=>false) (wf:=fun _=>false) Ty.mixed Tryz.func35 rfl Ty.hb_35 (by rw[Tryz.ntmps35];simp) ?_;rw[Tryz.ntmps35,Tryz.results35];repeat'(first|refine a_seq fun K hK=>?_|(refine a_block ?_)|((first|refine a_regionS ?_|refine a_region (fun K hK=>?_)|refine a_ret ?_);simp(maxSteps:=2000000) only[Ty.w,simprocAttr,c1])|((first|refine a_skip ?_|refine a_exit ?_);try simp only[pst0,simprocAttr])|(refine a_cond _ (by(try simp(maxSteps:=2000000) only[Ty.w,simprocAttr,c1]);rfl) (fun hb=>?_) (fun hb=>?_)<;>(try simp only[hb0,decide_eq_true_eq,decide_eq_false_iff_not,simprocAttr]at hb)<;>(try(exfalso;omega)))|(with_reducible refine ite_in (fun hb=>?_) (fun hb=>?_)<;>(try simp only[Decidable.not_not]at hb)<;>(try simp only[hb,if_true,if_false,not_false_eq_true,not_true_eq_false, ↓reduceIte])<;>(try simp only[hb0,decide_eq_true_eq,decide_eq_false_iff_not,simprocAttr]at hb)<;>(try(exfalso;omega)))|((first|refine hK _ _ ?_|(clear hK;refine hK _ _ ?_)|(clear hK;clear hK;refine hK _ _ ?_)|(clear hK;clear hK;clear hK;refine hK _ _ ?_));clear hK;try simp only[pst0,simprocAttr])|(rw[if_pos];rotate_left 1;omega;simp(maxSteps:=2000000) only[Ty.w,simprocAttr,c1]))
  rw[l1]
 ·refine pcall_body (ow:=fun _=>false) (wf:=fun _=>false) Ty.mixed Tryz.func35 rfl Ty.hb_35 (by rw[Tryz.ntmps35];simp) ?_;rw[Tryz.ntmps35,Tryz.results35];repeat'(first|refine a_seq fun K hK=>?_|(refine a_block ?_)|((first|refine a_regionS ?_|refine a_region (fun K hK=>?_)|refine a_ret ?_);simp(maxSteps:=2000000) only[Ty.w,simprocAttr,c1,c2])|((first|refine a_skip ?_|refine a_exit ?_);try simp only[pst0,simprocAttr])|(refine a_cond _ (by(try simp(maxSteps:=2000000) only[Ty.w,simprocAttr,c1,c2]);rfl) (fun hb=>?_) (fun hb=>?_)<;>(try simp only[hb0,decide_eq_true_eq,decide_eq_false_iff_not,simprocAttr]at hb)<;>(try(exfalso;omega)))|(with_reducible refine ite_in (fun hb=>?_) (fun hb=>?_)<;>(try simp only[Decidable.not_not]at hb)<;>(try simp only[hb,if_true,if_false,not_false_eq_true,not_true_eq_false, ↓reduceIte])<;>(try simp only[hb0,decide_eq_true_eq,decide_eq_false_iff_not,simprocAttr]at hb)<;>(try(exfalso;omega)))|((first|refine hK _ _ ?_|(clear hK;refine hK _ _ ?_)|(clear hK;clear hK;refine hK _ _ ?_)|(clear hK;clear hK;clear hK;refine hK _ _ ?_));clear hK;try simp only[pst0,simprocAttr])|(rw[if_pos];rotate_left 1;omega;simp(maxSteps:=2000000) only[Ty.w,simprocAttr,c1,c2]))
  rw[l1]
theorem tword_c{h:Heap}{s:ByteArray}{lo hi:Int}(hob:h.obj 0=some (.glb 0 lo hi))(hs:s.size≤32):PCall Tryz.prog 36 [sPV s] h fun r h'=>r= .sc (.bool (words.any fun w=>bEq s w))∧h'=h:=by
 rw[← wordP_words];cases b1:(s.data.toList==(#[]:Array UInt8).toList)with
 |true=>
  have e:s.data.toList=[]:=by simpa using b1
  refine pcall_body (ow:=fun _=>false) (wf:=fun _=>false) Ty.mixed Tryz.func36 rfl Ty.hb_36 (by rw[Tryz.ntmps36];simp) ?_;rw[Tryz.ntmps36,Tryz.results36];repeat'(first|refine a_seq fun K hK=>?_|(refine a_block ?_)|((first|refine a_regionS ?_|refine a_region (fun K hK=>?_)|refine a_ret ?_);simp(maxSteps:=2000000) only[Ty.w,simprocAttr,b1])|((first|refine a_skip ?_|refine a_exit ?_);try simp only[pst0,simprocAttr])|(refine a_cond _ (by(try simp(maxSteps:=2000000) only[Ty.w,simprocAttr,b1]);rfl) (fun hb=>?_) (fun hb=>?_)<;>(try simp only[hb0,decide_eq_true_eq,decide_eq_false_iff_not,simprocAttr]at hb)<;>(try(exfalso;omega)))|(with_reducible refine ite_in (fun hb=>?_) (fun hb=>?_)<;>(try simp only[Decidable.not_not]at hb)<;>(try simp only[hb,if_true,if_false,not_false_eq_true,not_true_eq_false, ↓reduceIte])<;>(try simp only[hb0,decide_eq_true_eq,decide_eq_false_iff_not,simprocAttr]at hb)<;>(try(exfalso;omega)))|((first|refine hK _ _ ?_|(clear hK;refine hK _ _ ?_)|(clear hK;clear hK;refine hK _ _ ?_)|(clear hK;clear hK;clear hK;refine hK _ _ ?_));clear hK;try simp only[pst0,simprocAttr])|(rw[if_pos];rotate_left 1;omega;simp(maxSteps:=2000000) only[Ty.w,simprocAttr,b1]))
  rw[e];try rfl
 |false=>
  have e:s.data.toList.isEmpty=false:=by
   cases q:s.data.toList with
   |nil=>rw[q]at b1;cases b1
   |cons _ _=>rfl
  refine pcall_body (ow:=fun _=>false) (wf:=fun _=>false) Ty.mixed Tryz.func36 rfl Ty.hb_36 (by rw[Tryz.ntmps36];simp) ?_;rw[Tryz.ntmps36,Tryz.results36];repeat'(first|refine a_seq fun K hK=>?_|(refine a_block ?_)|((first|refine a_regionS ?_|refine a_region (fun K hK=>?_)|refine a_ret ?_);simp(maxSteps:=2000000) only[Ty.w,simprocAttr,b1])|((first|refine a_skip ?_|refine a_exit ?_);try simp only[pst0,simprocAttr])|(refine a_cond _ (by(try simp(maxSteps:=2000000) only[Ty.w,simprocAttr,b1]);rfl) (fun hb=>?_) (fun hb=>?_)<;>(try simp only[hb0,decide_eq_true_eq,decide_eq_false_iff_not,simprocAttr]at hb)<;>(try(exfalso;omega)))|(with_reducible refine ite_in (fun hb=>?_) (fun hb=>?_)<;>(try simp only[Decidable.not_not]at hb)<;>(try simp only[hb,if_true,if_false,not_false_eq_true,not_true_eq_false, ↓reduceIte])<;>(try simp only[hb0,decide_eq_true_eq,decide_eq_false_iff_not,simprocAttr]at hb)<;>(try(exfalso;omega)))|((first|refine hK _ _ ?_|(clear hK;refine hK _ _ ?_)|(clear hK;clear hK;refine hK _ _ ?_)|(clear hK;clear hK;clear hK;refine hK _ _ ?_));clear hK;try simp only[pst0,simprocAttr])|(rw[if_pos];rotate_left 1;omega;simp(maxSteps:=2000000) only[Ty.w,simprocAttr,b1]))
  refine owp_useQ (contains2_c (s:=s) (t:=⟨#[32]⟩) hob (by omega)) (by(try simp only[Ty.w,simprocAttr,b1]);try rfl) ?_;simp(maxSteps:=2000000) only[Ty.w,simprocAttr,b1];cases b2:subI s.data.toList [32]with
  |true=>
   (repeat'(first|refine a_seq fun K hK=>?_|(refine a_block ?_)|((first|refine a_regionS ?_|refine a_region (fun K hK=>?_)|refine a_ret ?_);simp(maxSteps:=2000000) only[Ty.w,simprocAttr,b1,b2])|((first|refine a_skip ?_|refine a_exit ?_);try simp only[pst0,simprocAttr])|(refine a_cond _ (by(try simp(maxSteps:=2000000) only[Ty.w,simprocAttr,b1,b2]);rfl) (fun hb=>?_) (fun hb=>?_)<;>(try simp only[hb0,decide_eq_true_eq,decide_eq_false_iff_not,simprocAttr]at hb)<;>(try(exfalso;omega)))|(with_reducible refine ite_in (fun hb=>?_) (fun hb=>?_)<;>(try simp only[Decidable.not_not]at hb)<;>(try simp only[hb,if_true,if_false,not_false_eq_true,not_true_eq_false, ↓reduceIte])<;>(try simp only[hb0,decide_eq_true_eq,decide_eq_false_iff_not,simprocAttr]at hb)<;>(try(exfalso;omega)))|((first|refine hK _ _ ?_|(clear hK;refine hK _ _ ?_)|(clear hK;clear hK;refine hK _ _ ?_)|(clear hK;clear hK;clear hK;refine hK _ _ ?_));clear hK;try simp only[pst0,simprocAttr])|(rw[if_pos];rotate_left 1;omega;simp(maxSteps:=2000000) only[Ty.w,simprocAttr,b1,b2])));unfold wordP;rw[e,b2];try rfl
  |false=>
   have d1: ∀ a:ByteArray,a.size=1→¬ ((a.size+s.size:Nat):Int)>IntKind.i64.max:=fun a e=>by
    rw[e];show ¬ ((1+s.size:Nat):Int)>9223372036854775807;omega
   have d2: ∀ a b:ByteArray,a.size=1→b.size=1→¬ (((a++s:ByteArray).size+b.size:Nat):Int)>IntKind.i64.max:=fun a b e1 e2=>by
    rw[ByteArray.size_append,e1,e2];show ¬ ((1+s.size+1:Nat):Int)>9223372036854775807;omega
   (repeat'(first|refine a_seq fun K hK=>?_|(refine a_block ?_)|((first|refine a_regionS ?_|refine a_region (fun K hK=>?_)|refine a_ret ?_);simp(maxSteps:=2000000) only[Ty.w,simprocAttr,b1,b2])|((first|refine a_skip ?_|refine a_exit ?_);try simp only[pst0,simprocAttr])|(refine a_cond _ (by(try simp(maxSteps:=2000000) only[Ty.w,simprocAttr,b1,b2]);rfl) (fun hb=>?_) (fun hb=>?_)<;>(try simp only[hb0,decide_eq_true_eq,decide_eq_false_iff_not,simprocAttr]at hb)<;>(try(exfalso;omega)))|(with_reducible refine ite_in (fun hb=>?_) (fun hb=>?_)<;>(try simp only[Decidable.not_not]at hb)<;>(try simp only[hb,if_true,if_false,not_false_eq_true,not_true_eq_false, ↓reduceIte])<;>(try simp only[hb0,decide_eq_true_eq,decide_eq_false_iff_not,simprocAttr]at hb)<;>(try(exfalso;omega)))|((first|refine hK _ _ ?_|(clear hK;refine hK _ _ ?_)|(clear hK;clear hK;refine hK _ _ ?_)|(clear hK;clear hK;clear hK;refine hK _ _ ?_));clear hK;try simp only[pst0,simprocAttr])|(rw[if_pos];rotate_left 1;omega;simp(maxSteps:=2000000) only[Ty.w,simprocAttr,b1,b2])));rw[if_neg (d1 _ rfl)];simp(maxSteps:=2000000) only[Ty.w,simprocAttr,Ty.all,Option.map_some];rw[if_neg (d2 _ _ rfl rfl)];simp(maxSteps:=2000000) only[Ty.w,simprocAttr,Ty.all,Option.map_some];refine owp_useQ (contains2_c (s:=⟨resvL.toArray⟩) (t:=⟨#[32]⟩++s++⟨#[32]⟩) hob (by decide)) (by(try simp only[Ty.w,simprocAttr,b1,b2]);try rfl) ?_;simp(maxSteps:=2000000) only[Ty.w,simprocAttr,b1,b2];(repeat'(first|refine a_seq fun K hK=>?_|(refine a_block ?_)|((first|refine a_regionS ?_|refine a_region (fun K hK=>?_)|refine a_ret ?_);simp(maxSteps:=2000000) only[Ty.w,simprocAttr,b1,b2])|((first|refine a_skip ?_|refine a_exit ?_);try simp only[pst0,simprocAttr])|(refine a_cond _ (by(try simp(maxSteps:=2000000) only[Ty.w,simprocAttr,b1,b2]);rfl) (fun hb=>?_) (fun hb=>?_)<;>(try simp only[hb0,decide_eq_true_eq,decide_eq_false_iff_not,simprocAttr]at hb)<;>(try(exfalso;omega)))|(with_reducible refine ite_in (fun hb=>?_) (fun hb=>?_)<;>(try simp only[Decidable.not_not]at hb)<;>(try simp only[hb,if_true,if_false,not_false_eq_true,not_true_eq_false, ↓reduceIte])<;>(try simp only[hb0,decide_eq_true_eq,decide_eq_false_iff_not,simprocAttr]at hb)<;>(try(exfalso;omega)))|((first|refine hK _ _ ?_|(clear hK;refine hK _ _ ?_)|(clear hK;clear hK;refine hK _ _ ?_)|(clear hK;clear hK;clear hK;refine hK _ _ ?_));clear hK;try simp only[pst0,simprocAttr])|(rw[if_pos];rotate_left 1;omega;simp(maxSteps:=2000000) only[Ty.w,simprocAttr,b1,b2])));unfold wordP;rw[e,b2];have e2:(({data:= #[32]}++s++{data:= #[32]}:ByteArray).data.toList)=[32]++s.data.toList++[32]:=(by simp);rw[e2];try rfl
theorem tname_c{h:Heap}{s:ByteArray}{lo hi:Int}(hob:h.obj 0=some (.glb 0 lo hi))(hs:s.size≤9223372036854775807):PCall Tryz.prog 21 [sPV s] h fun r h'=>r= .sc (.bool (nameB s))∧h'=h:=by
 have hsl:s.data.toList.length=s.size:=by rw[Array.length_toList];try rfl
 cases b1:decide ((s.size:Int)<1)with
 |true=>
  have:nameB s=false:=by simp at b1;simp[nameB];intros;omega
  refine pcall_body (ow:=fun _=>false) (wf:=fun _=>false) Ty.mixed Tryz.func21 rfl Ty.hb_21 (by rw[Tryz.ntmps21];simp) ?_;rw[Tryz.ntmps21,Tryz.results21];repeat'(first|refine a_seq fun K hK=>?_|(refine a_block ?_)|((first|refine a_regionS ?_|refine a_region (fun K hK=>?_)|refine a_ret ?_);simp(maxSteps:=2000000) only[Ty.w,simprocAttr,b1])|((first|refine a_skip ?_|refine a_exit ?_);try simp only[pst0,simprocAttr])|(refine a_cond _ (by(try simp(maxSteps:=2000000) only[Ty.w,simprocAttr,b1]);rfl) (fun hb=>?_) (fun hb=>?_)<;>(try simp only[hb0,decide_eq_true_eq,decide_eq_false_iff_not,simprocAttr]at hb)<;>(try(exfalso;omega)))|(with_reducible refine ite_in (fun hb=>?_) (fun hb=>?_)<;>(try simp only[Decidable.not_not]at hb)<;>(try simp only[hb,if_true,if_false,not_false_eq_true,not_true_eq_false, ↓reduceIte])<;>(try simp only[hb0,decide_eq_true_eq,decide_eq_false_iff_not,simprocAttr]at hb)<;>(try(exfalso;omega)))|((first|refine hK _ _ ?_|(clear hK;refine hK _ _ ?_)|(clear hK;clear hK;refine hK _ _ ?_)|(clear hK;clear hK;clear hK;refine hK _ _ ?_));clear hK;try simp only[pst0,simprocAttr])|(rw[if_pos];rotate_left 1;omega;simp(maxSteps:=2000000) only[Ty.w,simprocAttr,b1]))
  rw[this]
 |false=>
  cases b2:decide ((s.size:Int)>32)with
  |true=>
   have:nameB s=false:=by
    simp at b2;have:¬ s.size≤32:=(by omega);simp[nameB,this]
   refine pcall_body (ow:=fun _=>false) (wf:=fun _=>false) Ty.mixed Tryz.func21 rfl Ty.hb_21 (by rw[Tryz.ntmps21];simp) ?_;rw[Tryz.ntmps21,Tryz.results21];(repeat'(first|refine a_seq fun K hK=>?_|(refine a_block ?_)|((first|refine a_regionS ?_|refine a_region (fun K hK=>?_)|refine a_ret ?_);simp(maxSteps:=2000000) only[Ty.w,simprocAttr,b1,b2])|((first|refine a_skip ?_|refine a_exit ?_);try simp only[pst0,simprocAttr])|(refine a_cond _ (by(try simp(maxSteps:=2000000) only[Ty.w,simprocAttr,b1,b2]);rfl) (fun hb=>?_) (fun hb=>?_)<;>(try simp only[hb0,decide_eq_true_eq,decide_eq_false_iff_not,simprocAttr]at hb)<;>(try(exfalso;omega)))|(with_reducible refine ite_in (fun hb=>?_) (fun hb=>?_)<;>(try simp only[Decidable.not_not]at hb)<;>(try simp only[hb,if_true,if_false,not_false_eq_true,not_true_eq_false, ↓reduceIte])<;>(try simp only[hb0,decide_eq_true_eq,decide_eq_false_iff_not,simprocAttr]at hb)<;>(try(exfalso;omega)))|((first|refine hK _ _ ?_|(clear hK;refine hK _ _ ?_)|(clear hK;clear hK;refine hK _ _ ?_)|(clear hK;clear hK;clear hK;refine hK _ _ ?_));clear hK;try simp only[pst0,simprocAttr])|(rw[if_pos];rotate_left 1;omega;simp(maxSteps:=2000000) only[Ty.w,simprocAttr,b1,b2])));rw[this]
  |false=>
   have b1':=b1;have b2':=b2;simp at b1' b2';obtain⟨c,hx⟩: ∃ c,s.data.toList[0]? =some c:=⟨_,List.getElem?_eq_getElem (by omega)⟩;have hr:s[0]? =some c:=(by rw[ba_get];exact hx);cases b3:letB c with
   |false=>
    have:nameB s=false:=(by simp[nameB,bytesOk_false hx (by simp[okAt,b3])]);refine pcall_body (ow:=fun _=>false) (wf:=fun _=>false) Ty.mixed Tryz.func21 rfl Ty.hb_21 (by rw[Tryz.ntmps21];simp) ?_;rw[Tryz.ntmps21,Tryz.results21];(repeat'(first|refine a_seq fun K hK=>?_|(refine a_block ?_)|((first|refine a_regionS ?_|refine a_region (fun K hK=>?_)|refine a_ret ?_);simp(maxSteps:=2000000) only[Ty.w,simprocAttr,b1,b2,hr])|((first|refine a_skip ?_|refine a_exit ?_);try simp only[pst0,simprocAttr])|(refine a_cond _ (by(try simp(maxSteps:=2000000) only[Ty.w,simprocAttr,b1,b2,hr]);rfl) (fun hb=>?_) (fun hb=>?_)<;>(try simp only[hb0,decide_eq_true_eq,decide_eq_false_iff_not,simprocAttr]at hb)<;>(try(exfalso;omega)))|(with_reducible refine ite_in (fun hb=>?_) (fun hb=>?_)<;>(try simp only[Decidable.not_not]at hb)<;>(try simp only[hb,if_true,if_false,not_false_eq_true,not_true_eq_false, ↓reduceIte])<;>(try simp only[hb0,decide_eq_true_eq,decide_eq_false_iff_not,simprocAttr]at hb)<;>(try(exfalso;omega)))|((first|refine hK _ _ ?_|(clear hK;refine hK _ _ ?_)|(clear hK;clear hK;refine hK _ _ ?_)|(clear hK;clear hK;clear hK;refine hK _ _ ?_));clear hK;try simp only[pst0,simprocAttr])|(rw[if_pos];rotate_left 1;omega;simp(maxSteps:=2000000) only[Ty.w,simprocAttr,b1,b2,hr])));refine owp_useQ (tlower_c (c:=c)) (by(try simp only[Ty.w,simprocAttr,b1,b2,hr,b3]);try rfl) ?_;simp(maxSteps:=2000000) only[Ty.w,simprocAttr,b1,b2,hr,b3];(repeat'(first|refine a_seq fun K hK=>?_|(refine a_block ?_)|((first|refine a_regionS ?_|refine a_region (fun K hK=>?_)|refine a_ret ?_);simp(maxSteps:=2000000) only[Ty.w,simprocAttr,b1,b2,b3])|((first|refine a_skip ?_|refine a_exit ?_);try simp only[pst0,simprocAttr])|(refine a_cond _ (by(try simp(maxSteps:=2000000) only[Ty.w,simprocAttr,b1,b2,b3]);rfl) (fun hb=>?_) (fun hb=>?_)<;>(try simp only[hb0,decide_eq_true_eq,decide_eq_false_iff_not,simprocAttr]at hb)<;>(try(exfalso;omega)))|(with_reducible refine ite_in (fun hb=>?_) (fun hb=>?_)<;>(try simp only[Decidable.not_not]at hb)<;>(try simp only[hb,if_true,if_false,not_false_eq_true,not_true_eq_false, ↓reduceIte])<;>(try simp only[hb0,decide_eq_true_eq,decide_eq_false_iff_not,simprocAttr]at hb)<;>(try(exfalso;omega)))|((first|refine hK _ _ ?_|(clear hK;refine hK _ _ ?_)|(clear hK;clear hK;refine hK _ _ ?_)|(clear hK;clear hK;clear hK;refine hK _ _ ?_));clear hK;try simp only[pst0,simprocAttr])|(rw[if_pos];rotate_left 1;omega;simp(maxSteps:=2000000) only[Ty.w,simprocAttr,b1,b2,b3])));rw[this]
   |true=>
    refine pcall_body (ow:=fun _=>false) (wf:=fun _=>false) Ty.mixed Tryz.func21 rfl Ty.hb_21 (by rw[Tryz.ntmps21];simp) ?_;rw[Tryz.ntmps21,Tryz.results21];(repeat'(first|refine a_seq fun K hK=>?_|(refine a_block ?_)|((first|refine a_regionS ?_|refine a_region (fun K hK=>?_)|refine a_ret ?_);simp(maxSteps:=2000000) only[Ty.w,simprocAttr,b1,b2,hr])|((first|refine a_skip ?_|refine a_exit ?_);try simp only[pst0,simprocAttr])|(refine a_cond _ (by(try simp(maxSteps:=2000000) only[Ty.w,simprocAttr,b1,b2,hr]);rfl) (fun hb=>?_) (fun hb=>?_)<;>(try simp only[hb0,decide_eq_true_eq,decide_eq_false_iff_not,simprocAttr]at hb)<;>(try(exfalso;omega)))|(with_reducible refine ite_in (fun hb=>?_) (fun hb=>?_)<;>(try simp only[Decidable.not_not]at hb)<;>(try simp only[hb,if_true,if_false,not_false_eq_true,not_true_eq_false, ↓reduceIte])<;>(try simp only[hb0,decide_eq_true_eq,decide_eq_false_iff_not,simprocAttr]at hb)<;>(try(exfalso;omega)))|((first|refine hK _ _ ?_|(clear hK;refine hK _ _ ?_)|(clear hK;clear hK;refine hK _ _ ?_)|(clear hK;clear hK;clear hK;refine hK _ _ ?_));clear hK;try simp only[pst0,simprocAttr])|(rw[if_pos];rotate_left 1;omega;simp(maxSteps:=2000000) only[Ty.w,simprocAttr,b1,b2,hr])));refine owp_useQ (tlower_c (c:=c)) (by(try simp only[Ty.w,simprocAttr,b1,b2,hr,b3]);try rfl) ?_;simp(maxSteps:=2000000) only[Ty.w,simprocAttr,b1,b2,hr,b3];(repeat'(first|refine a_seq fun K hK=>?_|(refine a_block ?_)|((first|refine a_regionS ?_|refine a_region (fun K hK=>?_)|refine a_ret ?_);simp(maxSteps:=2000000) only[Ty.w,simprocAttr,b1,b2,b3])|((first|refine a_skip ?_|refine a_exit ?_);try simp only[pst0,simprocAttr])|(refine a_cond _ (by(try simp(maxSteps:=2000000) only[Ty.w,simprocAttr,b1,b2,b3]);rfl) (fun hb=>?_) (fun hb=>?_)<;>(try simp only[hb0,decide_eq_true_eq,decide_eq_false_iff_not,simprocAttr]at hb)<;>(try(exfalso;omega)))|(with_reducible refine ite_in (fun hb=>?_) (fun hb=>?_)<;>(try simp only[Decidable.not_not]at hb)<;>(try simp only[hb,if_true,if_false,not_false_eq_true,not_true_eq_false, ↓reduceIte])<;>(try simp only[hb0,decide_eq_true_eq,decide_eq_false_iff_not,simprocAttr]at hb)<;>(try(exfalso;omega)))|((first|refine hK _ _ ?_|(clear hK;refine hK _ _ ?_)|(clear hK;clear hK;refine hK _ _ ?_)|(clear hK;clear hK;clear hK;refine hK _ _ ?_));clear hK;try simp only[pst0,simprocAttr])|(rw[if_pos];rotate_left 1;omega;simp(maxSteps:=2000000) only[Ty.w,simprocAttr,b1,b2,b3])));cases b5:(words.any fun w=>bEq s w)with
    |true=>
     have:nameB s=false:=(by simp[nameB,b5]);refine owp_useQ (tword_c (s:=s) hob (by omega)) (by(try simp only[Ty.w,simprocAttr,b1,b2,b3,b5]);try rfl) ?_;simp(maxSteps:=2000000) only[Ty.w,simprocAttr,b1,b2,b3,b5];(repeat'(first|refine a_seq fun K hK=>?_|(refine a_block ?_)|((first|refine a_regionS ?_|refine a_region (fun K hK=>?_)|refine a_ret ?_);simp(maxSteps:=2000000) only[Ty.w,simprocAttr,b5])|((first|refine a_skip ?_|refine a_exit ?_);try simp only[pst0,simprocAttr])|(refine a_cond _ (by(try simp(maxSteps:=2000000) only[Ty.w,simprocAttr,b5]);rfl) (fun hb=>?_) (fun hb=>?_)<;>(try simp only[hb0,decide_eq_true_eq,decide_eq_false_iff_not,simprocAttr]at hb)<;>(try(exfalso;omega)))|(with_reducible refine ite_in (fun hb=>?_) (fun hb=>?_)<;>(try simp only[Decidable.not_not]at hb)<;>(try simp only[hb,if_true,if_false,not_false_eq_true,not_true_eq_false, ↓reduceIte])<;>(try simp only[hb0,decide_eq_true_eq,decide_eq_false_iff_not,simprocAttr]at hb)<;>(try(exfalso;omega)))|((first|refine hK _ _ ?_|(clear hK;refine hK _ _ ?_)|(clear hK;clear hK;refine hK _ _ ?_)|(clear hK;clear hK;clear hK;refine hK _ _ ?_));clear hK;try simp only[pst0,simprocAttr])|(rw[if_pos];rotate_left 1;omega;simp(maxSteps:=2000000) only[Ty.w,simprocAttr,b5])));rw[this]
    |false=>
     refine owp_useQ (tword_c (s:=s) hob (by omega)) (by(try simp only[Ty.w,simprocAttr,b1,b2,b3,b5]);try rfl) ?_;simp(maxSteps:=2000000) only[Ty.w,simprocAttr,b1,b2,b3,b5];(repeat'(first|refine a_seq fun K hK=>?_|(refine a_block ?_)|((first|refine a_regionS ?_|refine a_region (fun K hK=>?_)|refine a_ret ?_);simp(maxSteps:=2000000) only[Ty.w,simprocAttr,b5])|((first|refine a_skip ?_|refine a_exit ?_);try simp only[pst0,simprocAttr])|(refine a_cond _ (by(try simp(maxSteps:=2000000) only[Ty.w,simprocAttr,b5]);rfl) (fun hb=>?_) (fun hb=>?_)<;>(try simp only[hb0,decide_eq_true_eq,decide_eq_false_iff_not,simprocAttr]at hb)<;>(try(exfalso;omega)))|(with_reducible refine ite_in (fun hb=>?_) (fun hb=>?_)<;>(try simp only[Decidable.not_not]at hb)<;>(try simp only[hb,if_true,if_false,not_false_eq_true,not_true_eq_false, ↓reduceIte])<;>(try simp only[hb0,decide_eq_true_eq,decide_eq_false_iff_not,simprocAttr]at hb)<;>(try(exfalso;omega)))|((first|refine hK _ _ ?_|(clear hK;refine hK _ _ ?_)|(clear hK;clear hK;refine hK _ _ ?_)|(clear hK;clear hK;clear hK;refine hK _ _ ?_));clear hK;try simp only[pst0,simprocAttr])|(rw[if_pos];rotate_left 1;omega;simp(maxSteps:=2000000) only[Ty.w,simprocAttr,b5])));refine a_loop (fun m S h'=>h'=h∧S 0=sPV s∧S 24= .sc (.int .i64 s.size)∧ ∃ k:Nat,S 25= .sc (.int .i64 k)∧k≤s.size∧m=s.size-k∧ ∀ (i:Nat)(c:UInt8),i<k→s.data.toList[i]? =some c→midB c=true) s.size ?_ ?_
     ·simp only[Ty.w,simprocAttr];exact⟨0,rfl,by omega,rfl,by omega⟩
     ·rintro m S h' ⟨rfl,g0,g24,k,g25,hk,rfl,hall⟩;by_cases hlt:k<s.size
      ·have hd:decide ((k:Int)<(s.size:Int))=true:=(by simp;omega);have w7:IntKind.i64.wrap ((k:Int)+1)=k+1:=(by rw[wrap64 (by omega) (by omega)]);obtain⟨d,hx2⟩: ∃ d,s.data.toList[k]? =some d:=⟨_,List.getElem?_eq_getElem (by omega)⟩;have hr2:s[k]? =some d:=(by rw[ba_get];exact hx2);have bad:midB d=false→nameB s=false:=fun e=>by
        by_cases hk0:k=0
        ·subst hk0;rw[hx]at hx2;simp at hx2;subst hx2;rw[letB_mid b3]at e;simp at e
        ·simp [nameB,bytesOk_false hx2 (by simp[okAt,e];cases hl:letB d<;>simp;rw[letB_mid hl]at e;simp at e)]
       have good:midB d=true→ ∃ m',m'<s.size-k∧ ∃ k':Nat,(k:Int)+1=k'∧k'≤s.size∧m'=s.size-k'∧ ∀ (i:Nat)(c:UInt8),i<k'→s.data.toList[i]? =some c→midB c=true:=fun e=>by
        refine⟨s.size-(k+1),by omega,k+1,by simp,by omega,rfl,fun i c2 hi hw=>?_⟩;by_cases hik:i=k
        ·subst hik;rw[hx2]at hw;simp at hw;rw[← hw];exact e
        ·exact hall i c2 (by omega) hw
       clear hall;rcases byte_cls d with⟨l1,c1,c2⟩|⟨l1,c1⟩|⟨l1,m1,c1,c2,c3,c4,c5,c6⟩
       ·(repeat' (first|refine a_seq fun K hK=>?_|(refine a_block ?_)|((first|refine a_regionS ?_|refine a_region (fun K hK=>?_)|refine a_ret ?_);simp(maxSteps:=2000000) only[Ty.w,simprocAttr,g0,g24,g25,hd,hr2,w7])|((first|refine a_skip ?_|refine a_exit ?_);try simp only[pst0,simprocAttr])|(refine a_cond _ (by(try simp(maxSteps:=2000000) only[Ty.w,simprocAttr,g0,g24,g25,hd,hr2,w7]);rfl) (fun hb=>?_) (fun hb=>?_)<;>(try simp only[hb0,decide_eq_true_eq,decide_eq_false_iff_not,simprocAttr]at hb)<;>(try(exfalso;omega)))|(with_reducible refine ite_in (fun hb=>?_) (fun hb=>?_)<;>(try simp only[Decidable.not_not]at hb)<;>(try simp only[hb,if_true,if_false,not_false_eq_true,not_true_eq_false, ↓reduceIte])<;>(try simp only[hb0,decide_eq_true_eq,decide_eq_false_iff_not,simprocAttr]at hb)<;>(try(exfalso;omega)))|((first|refine hK _ _ ?_|(clear hK;refine hK _ _ ?_)|(clear hK;clear hK;refine hK _ _ ?_)|(clear hK;clear hK;clear hK;refine hK _ _ ?_));clear hK;try simp only[pst0,simprocAttr])|(rw[if_pos];rotate_left 1;omega;simp(maxSteps:=2000000) only[Ty.w,simprocAttr,g0,g24,g25,hd,hr2,w7])));refine owp_useQ (tlower_c (c:=d)) (by(try simp only[Ty.w,simprocAttr,hr2,l1]);try rfl) ?_;simp(maxSteps:=2000000) only[Ty.w,simprocAttr,hr2,l1];(repeat'(first|refine a_seq fun K hK=>?_|(refine a_block ?_)|((first|refine a_regionS ?_|refine a_region (fun K hK=>?_)|refine a_ret ?_);simp(maxSteps:=2000000) only[Ty.w,simprocAttr,l1,g0,g24,g25,w7])|((first|refine a_skip ?_|refine a_exit ?_);try simp only[pst0,simprocAttr])|(refine a_cond _ (by(try simp(maxSteps:=2000000) only[Ty.w,simprocAttr,l1,g0,g24,g25,w7]);rfl) (fun hb=>?_) (fun hb=>?_)<;>(try simp only[hb0,decide_eq_true_eq,decide_eq_false_iff_not,simprocAttr]at hb)<;>(try(exfalso;omega)))|(with_reducible refine ite_in (fun hb=>?_) (fun hb=>?_)<;>(try simp only[Decidable.not_not]at hb)<;>(try simp only[hb,if_true,if_false,not_false_eq_true,not_true_eq_false, ↓reduceIte])<;>(try simp only[hb0,decide_eq_true_eq,decide_eq_false_iff_not,simprocAttr]at hb)<;>(try(exfalso;omega)))|((first|refine hK _ _ ?_|(clear hK;refine hK _ _ ?_)|(clear hK;clear hK;refine hK _ _ ?_)|(clear hK;clear hK;clear hK;refine hK _ _ ?_));clear hK;try simp only[pst0,simprocAttr])|(rw[if_pos];rotate_left 1;omega;simp(maxSteps:=2000000) only[Ty.w,simprocAttr,l1,g0,g24,g25,w7])));have:=good (letB_mid l1);simpa using this
       ·rcases byte_cls2 c1 with⟨m1,c3,c5⟩|⟨m1,c3,c5,c6⟩|⟨m1,c3,c4⟩|⟨m1,c3,c4,c5,c6⟩|⟨m1,c3,c4,c5,c6⟩
        ·(repeat' (first|refine a_seq fun K hK=>?_|(refine a_block ?_)|((first|refine a_regionS ?_|refine a_region (fun K hK=>?_)|refine a_ret ?_);simp(maxSteps:=2000000) only[Ty.w,simprocAttr,g0,g24,g25,hd,hr2,w7])|((first|refine a_skip ?_|refine a_exit ?_);try simp only[pst0,simprocAttr])|(refine a_cond _ (by(try simp(maxSteps:=2000000) only[Ty.w,simprocAttr,g0,g24,g25,hd,hr2,w7]);rfl) (fun hb=>?_) (fun hb=>?_)<;>(try simp only[hb0,decide_eq_true_eq,decide_eq_false_iff_not,simprocAttr]at hb)<;>(try(exfalso;omega)))|(with_reducible refine ite_in (fun hb=>?_) (fun hb=>?_)<;>(try simp only[Decidable.not_not]at hb)<;>(try simp only[hb,if_true,if_false,not_false_eq_true,not_true_eq_false, ↓reduceIte])<;>(try simp only[hb0,decide_eq_true_eq,decide_eq_false_iff_not,simprocAttr]at hb)<;>(try(exfalso;omega)))|((first|refine hK _ _ ?_|(clear hK;refine hK _ _ ?_)|(clear hK;clear hK;refine hK _ _ ?_)|(clear hK;clear hK;clear hK;refine hK _ _ ?_));clear hK;try simp only[pst0,simprocAttr])|(rw[if_pos];rotate_left 1;omega;simp(maxSteps:=2000000) only[Ty.w,simprocAttr,g0,g24,g25,hd,hr2,w7])));refine owp_useQ (tlower_c (c:=d)) (by(try simp only[Ty.w,simprocAttr,hr2,l1,c3,c5]);try rfl) ?_;simp(maxSteps:=2000000) only[Ty.w,simprocAttr,hr2,l1,c3,c5];(repeat'(first|refine a_seq fun K hK=>?_|(refine a_block ?_)|((first|refine a_regionS ?_|refine a_region (fun K hK=>?_)|refine a_ret ?_);simp(maxSteps:=2000000) only[Ty.w,simprocAttr,l1,c3,c5,g0,g24,g25,w7])|((first|refine a_skip ?_|refine a_exit ?_);try simp only[pst0,simprocAttr])|(refine a_cond _ (by(try simp(maxSteps:=2000000) only[Ty.w,simprocAttr,l1,c3,c5,g0,g24,g25,w7]);rfl) (fun hb=>?_) (fun hb=>?_)<;>(try simp only[hb0,decide_eq_true_eq,decide_eq_false_iff_not,simprocAttr]at hb)<;>(try(exfalso;omega)))|(with_reducible refine ite_in (fun hb=>?_) (fun hb=>?_)<;>(try simp only[Decidable.not_not]at hb)<;>(try simp only[hb,if_true,if_false,not_false_eq_true,not_true_eq_false, ↓reduceIte])<;>(try simp only[hb0,decide_eq_true_eq,decide_eq_false_iff_not,simprocAttr]at hb)<;>(try(exfalso;omega)))|((first|refine hK _ _ ?_|(clear hK;refine hK _ _ ?_)|(clear hK;clear hK;refine hK _ _ ?_)|(clear hK;clear hK;clear hK;refine hK _ _ ?_));clear hK;try simp only[pst0,simprocAttr])|(rw[if_pos];rotate_left 1;omega;simp(maxSteps:=2000000) only[Ty.w,simprocAttr,l1,c3,c5,g0,g24,g25,w7])));have:=good m1;simpa using this
        ·have hbad:=bad m1;(repeat'(first|refine a_seq fun K hK=>?_|(refine a_block ?_)|((first|refine a_regionS ?_|refine a_region (fun K hK=>?_)|refine a_ret ?_);simp(maxSteps:=2000000) only[Ty.w,simprocAttr,g0,g24,g25,hd,hr2,w7])|((first|refine a_skip ?_|refine a_exit ?_);try simp only[pst0,simprocAttr])|(refine a_cond _ (by(try simp(maxSteps:=2000000) only[Ty.w,simprocAttr,g0,g24,g25,hd,hr2,w7]);rfl) (fun hb=>?_) (fun hb=>?_)<;>(try simp only[hb0,decide_eq_true_eq,decide_eq_false_iff_not,simprocAttr]at hb)<;>(try(exfalso;omega)))|(with_reducible refine ite_in (fun hb=>?_) (fun hb=>?_)<;>(try simp only[Decidable.not_not]at hb)<;>(try simp only[hb,if_true,if_false,not_false_eq_true,not_true_eq_false, ↓reduceIte])<;>(try simp only[hb0,decide_eq_true_eq,decide_eq_false_iff_not,simprocAttr]at hb)<;>(try(exfalso;omega)))|((first|refine hK _ _ ?_|(clear hK;refine hK _ _ ?_)|(clear hK;clear hK;refine hK _ _ ?_)|(clear hK;clear hK;clear hK;refine hK _ _ ?_));clear hK;try simp only[pst0,simprocAttr])|(rw[if_pos];rotate_left 1;omega;simp(maxSteps:=2000000) only[Ty.w,simprocAttr,g0,g24,g25,hd,hr2,w7])));refine owp_useQ (tlower_c (c:=d)) (by(try simp only[Ty.w,simprocAttr,hr2,l1,c3,c5,c6]);try rfl) ?_;simp(maxSteps:=2000000) only[Ty.w,simprocAttr,hr2,l1,c3,c5,c6];(repeat'(first|refine a_seq fun K hK=>?_|(refine a_block ?_)|((first|refine a_regionS ?_|refine a_region (fun K hK=>?_)|refine a_ret ?_);simp(maxSteps:=2000000) only[Ty.w,simprocAttr,l1,c3,c5,c6,g0,g24,g25,w7])|((first|refine a_skip ?_|refine a_exit ?_);try simp only[pst0,simprocAttr])|(refine a_cond _ (by(try simp(maxSteps:=2000000) only[Ty.w,simprocAttr,l1,c3,c5,c6,g0,g24,g25,w7]);rfl) (fun hb=>?_) (fun hb=>?_)<;>(try simp only[hb0,decide_eq_true_eq,decide_eq_false_iff_not,simprocAttr]at hb)<;>(try(exfalso;omega)))|(with_reducible refine ite_in (fun hb=>?_) (fun hb=>?_)<;>(try simp only[Decidable.not_not]at hb)<;>(try simp only[hb,if_true,if_false,not_false_eq_true,not_true_eq_false, ↓reduceIte])<;>(try simp only[hb0,decide_eq_true_eq,decide_eq_false_iff_not,simprocAttr]at hb)<;>(try(exfalso;omega)))|((first|refine hK _ _ ?_|(clear hK;refine hK _ _ ?_)|(clear hK;clear hK;refine hK _ _ ?_)|(clear hK;clear hK;clear hK;refine hK _ _ ?_));clear hK;try simp only[pst0,simprocAttr])|(rw[if_pos];rotate_left 1;omega;simp(maxSteps:=2000000) only[Ty.w,simprocAttr,l1,c3,c5,c6,g0,g24,g25,w7])));rw[hbad]
        ·(repeat' (first|refine a_seq fun K hK=>?_|(refine a_block ?_)|((first|refine a_regionS ?_|refine a_region (fun K hK=>?_)|refine a_ret ?_);simp(maxSteps:=2000000) only[Ty.w,simprocAttr,g0,g24,g25,hd,hr2,w7])|((first|refine a_skip ?_|refine a_exit ?_);try simp only[pst0,simprocAttr])|(refine a_cond _ (by(try simp(maxSteps:=2000000) only[Ty.w,simprocAttr,g0,g24,g25,hd,hr2,w7]);rfl) (fun hb=>?_) (fun hb=>?_)<;>(try simp only[hb0,decide_eq_true_eq,decide_eq_false_iff_not,simprocAttr]at hb)<;>(try(exfalso;omega)))|(with_reducible refine ite_in (fun hb=>?_) (fun hb=>?_)<;>(try simp only[Decidable.not_not]at hb)<;>(try simp only[hb,if_true,if_false,not_false_eq_true,not_true_eq_false, ↓reduceIte])<;>(try simp only[hb0,decide_eq_true_eq,decide_eq_false_iff_not,simprocAttr]at hb)<;>(try(exfalso;omega)))|((first|refine hK _ _ ?_|(clear hK;refine hK _ _ ?_)|(clear hK;clear hK;refine hK _ _ ?_)|(clear hK;clear hK;clear hK;refine hK _ _ ?_));clear hK;try simp only[pst0,simprocAttr])|(rw[if_pos];rotate_left 1;omega;simp(maxSteps:=2000000) only[Ty.w,simprocAttr,g0,g24,g25,hd,hr2,w7])));refine owp_useQ (tlower_c (c:=d)) (by(try simp only[Ty.w,simprocAttr,hr2,l1,c3,c4]);try rfl) ?_;simp(maxSteps:=2000000) only[Ty.w,simprocAttr,hr2,l1,c3,c4];(repeat'(first|refine a_seq fun K hK=>?_|(refine a_block ?_)|((first|refine a_regionS ?_|refine a_region (fun K hK=>?_)|refine a_ret ?_);simp(maxSteps:=2000000) only[Ty.w,simprocAttr,l1,c3,c4,g0,g24,g25,w7])|((first|refine a_skip ?_|refine a_exit ?_);try simp only[pst0,simprocAttr])|(refine a_cond _ (by(try simp(maxSteps:=2000000) only[Ty.w,simprocAttr,l1,c3,c4,g0,g24,g25,w7]);rfl) (fun hb=>?_) (fun hb=>?_)<;>(try simp only[hb0,decide_eq_true_eq,decide_eq_false_iff_not,simprocAttr]at hb)<;>(try(exfalso;omega)))|(with_reducible refine ite_in (fun hb=>?_) (fun hb=>?_)<;>(try simp only[Decidable.not_not]at hb)<;>(try simp only[hb,if_true,if_false,not_false_eq_true,not_true_eq_false, ↓reduceIte])<;>(try simp only[hb0,decide_eq_true_eq,decide_eq_false_iff_not,simprocAttr]at hb)<;>(try(exfalso;omega)))|((first|refine hK _ _ ?_|(clear hK;refine hK _ _ ?_)|(clear hK;clear hK;refine hK _ _ ?_)|(clear hK;clear hK;clear hK;refine hK _ _ ?_));clear hK;try simp only[pst0,simprocAttr])|(rw[if_pos];rotate_left 1;omega;simp(maxSteps:=2000000) only[Ty.w,simprocAttr,l1,c3,c4,g0,g24,g25,w7])));have:=good m1;simpa using this
        ·(repeat' (first|refine a_seq fun K hK=>?_|(refine a_block ?_)|((first|refine a_regionS ?_|refine a_region (fun K hK=>?_)|refine a_ret ?_);simp(maxSteps:=2000000) only[Ty.w,simprocAttr,g0,g24,g25,hd,hr2,w7])|((first|refine a_skip ?_|refine a_exit ?_);try simp only[pst0,simprocAttr])|(refine a_cond _ (by(try simp(maxSteps:=2000000) only[Ty.w,simprocAttr,g0,g24,g25,hd,hr2,w7]);rfl) (fun hb=>?_) (fun hb=>?_)<;>(try simp only[hb0,decide_eq_true_eq,decide_eq_false_iff_not,simprocAttr]at hb)<;>(try(exfalso;omega)))|(with_reducible refine ite_in (fun hb=>?_) (fun hb=>?_)<;>(try simp only[Decidable.not_not]at hb)<;>(try simp only[hb,if_true,if_false,not_false_eq_true,not_true_eq_false, ↓reduceIte])<;>(try simp only[hb0,decide_eq_true_eq,decide_eq_false_iff_not,simprocAttr]at hb)<;>(try(exfalso;omega)))|((first|refine hK _ _ ?_|(clear hK;refine hK _ _ ?_)|(clear hK;clear hK;refine hK _ _ ?_)|(clear hK;clear hK;clear hK;refine hK _ _ ?_));clear hK;try simp only[pst0,simprocAttr])|(rw[if_pos];rotate_left 1;omega;simp(maxSteps:=2000000) only[Ty.w,simprocAttr,g0,g24,g25,hd,hr2,w7])));refine owp_useQ (tlower_c (c:=d)) (by(try simp only[Ty.w,simprocAttr,hr2,l1,c3,c4,c5,c6]);try rfl) ?_;simp(maxSteps:=2000000) only[Ty.w,simprocAttr,hr2,l1,c3,c4,c5,c6];(repeat'(first|refine a_seq fun K hK=>?_|(refine a_block ?_)|((first|refine a_regionS ?_|refine a_region (fun K hK=>?_)|refine a_ret ?_);simp(maxSteps:=2000000) only[Ty.w,simprocAttr,l1,c3,c4,c5,c6,g0,g24,g25,w7])|((first|refine a_skip ?_|refine a_exit ?_);try simp only[pst0,simprocAttr])|(refine a_cond _ (by(try simp(maxSteps:=2000000) only[Ty.w,simprocAttr,l1,c3,c4,c5,c6,g0,g24,g25,w7]);rfl) (fun hb=>?_) (fun hb=>?_)<;>(try simp only[hb0,decide_eq_true_eq,decide_eq_false_iff_not,simprocAttr]at hb)<;>(try(exfalso;omega)))|(with_reducible refine ite_in (fun hb=>?_) (fun hb=>?_)<;>(try simp only[Decidable.not_not]at hb)<;>(try simp only[hb,if_true,if_false,not_false_eq_true,not_true_eq_false, ↓reduceIte])<;>(try simp only[hb0,decide_eq_true_eq,decide_eq_false_iff_not,simprocAttr]at hb)<;>(try(exfalso;omega)))|((first|refine hK _ _ ?_|(clear hK;refine hK _ _ ?_)|(clear hK;clear hK;refine hK _ _ ?_)|(clear hK;clear hK;clear hK;refine hK _ _ ?_));clear hK;try simp only[pst0,simprocAttr])|(rw[if_pos];rotate_left 1;omega;simp(maxSteps:=2000000) only[Ty.w,simprocAttr,l1,c3,c4,c5,c6,g0,g24,g25,w7])));have:=good m1;simpa using this
        ·have hbad:=bad m1;(repeat'(first|refine a_seq fun K hK=>?_|(refine a_block ?_)|((first|refine a_regionS ?_|refine a_region (fun K hK=>?_)|refine a_ret ?_);simp(maxSteps:=2000000) only[Ty.w,simprocAttr,g0,g24,g25,hd,hr2,w7])|((first|refine a_skip ?_|refine a_exit ?_);try simp only[pst0,simprocAttr])|(refine a_cond _ (by(try simp(maxSteps:=2000000) only[Ty.w,simprocAttr,g0,g24,g25,hd,hr2,w7]);rfl) (fun hb=>?_) (fun hb=>?_)<;>(try simp only[hb0,decide_eq_true_eq,decide_eq_false_iff_not,simprocAttr]at hb)<;>(try(exfalso;omega)))|(with_reducible refine ite_in (fun hb=>?_) (fun hb=>?_)<;>(try simp only[Decidable.not_not]at hb)<;>(try simp only[hb,if_true,if_false,not_false_eq_true,not_true_eq_false, ↓reduceIte])<;>(try simp only[hb0,decide_eq_true_eq,decide_eq_false_iff_not,simprocAttr]at hb)<;>(try(exfalso;omega)))|((first|refine hK _ _ ?_|(clear hK;refine hK _ _ ?_)|(clear hK;clear hK;refine hK _ _ ?_)|(clear hK;clear hK;clear hK;refine hK _ _ ?_));clear hK;try simp only[pst0,simprocAttr])|(rw[if_pos];rotate_left 1;omega;simp(maxSteps:=2000000) only[Ty.w,simprocAttr,g0,g24,g25,hd,hr2,w7])));refine owp_useQ (tlower_c (c:=d)) (by(try simp only[Ty.w,simprocAttr,hr2,l1,c3,c4,c5,c6]);try rfl) ?_;simp(maxSteps:=2000000) only[Ty.w,simprocAttr,hr2,l1,c3,c4,c5,c6];(repeat'(first|refine a_seq fun K hK=>?_|(refine a_block ?_)|((first|refine a_regionS ?_|refine a_region (fun K hK=>?_)|refine a_ret ?_);simp(maxSteps:=2000000) only[Ty.w,simprocAttr,l1,c3,c4,c5,c6,g0,g24,g25,w7])|((first|refine a_skip ?_|refine a_exit ?_);try simp only[pst0,simprocAttr])|(refine a_cond _ (by(try simp(maxSteps:=2000000) only[Ty.w,simprocAttr,l1,c3,c4,c5,c6,g0,g24,g25,w7]);rfl) (fun hb=>?_) (fun hb=>?_)<;>(try simp only[hb0,decide_eq_true_eq,decide_eq_false_iff_not,simprocAttr]at hb)<;>(try(exfalso;omega)))|(with_reducible refine ite_in (fun hb=>?_) (fun hb=>?_)<;>(try simp only[Decidable.not_not]at hb)<;>(try simp only[hb,if_true,if_false,not_false_eq_true,not_true_eq_false, ↓reduceIte])<;>(try simp only[hb0,decide_eq_true_eq,decide_eq_false_iff_not,simprocAttr]at hb)<;>(try(exfalso;omega)))|((first|refine hK _ _ ?_|(clear hK;refine hK _ _ ?_)|(clear hK;clear hK;refine hK _ _ ?_)|(clear hK;clear hK;clear hK;refine hK _ _ ?_));clear hK;try simp only[pst0,simprocAttr])|(rw[if_pos];rotate_left 1;omega;simp(maxSteps:=2000000) only[Ty.w,simprocAttr,l1,c3,c4,c5,c6,g0,g24,g25,w7])));rw[hbad]
       ·have hbad:=bad m1;(repeat'(first|refine a_seq fun K hK=>?_|(refine a_block ?_)|((first|refine a_regionS ?_|refine a_region (fun K hK=>?_)|refine a_ret ?_);simp(maxSteps:=2000000) only[Ty.w,simprocAttr,g0,g24,g25,hd,hr2,w7])|((first|refine a_skip ?_|refine a_exit ?_);try simp only[pst0,simprocAttr])|(refine a_cond _ (by(try simp(maxSteps:=2000000) only[Ty.w,simprocAttr,g0,g24,g25,hd,hr2,w7]);rfl) (fun hb=>?_) (fun hb=>?_)<;>(try simp only[hb0,decide_eq_true_eq,decide_eq_false_iff_not,simprocAttr]at hb)<;>(try(exfalso;omega)))|(with_reducible refine ite_in (fun hb=>?_) (fun hb=>?_)<;>(try simp only[Decidable.not_not]at hb)<;>(try simp only[hb,if_true,if_false,not_false_eq_true,not_true_eq_false, ↓reduceIte])<;>(try simp only[hb0,decide_eq_true_eq,decide_eq_false_iff_not,simprocAttr]at hb)<;>(try(exfalso;omega)))|((first|refine hK _ _ ?_|(clear hK;refine hK _ _ ?_)|(clear hK;clear hK;refine hK _ _ ?_)|(clear hK;clear hK;clear hK;refine hK _ _ ?_));clear hK;try simp only[pst0,simprocAttr])|(rw[if_pos];rotate_left 1;omega;simp(maxSteps:=2000000) only[Ty.w,simprocAttr,g0,g24,g25,hd,hr2,w7])));refine owp_useQ (tlower_c (c:=d)) (by(try simp only[Ty.w,simprocAttr,hr2,l1,c3,c4,c5,c6]);try rfl) ?_;simp(maxSteps:=2000000) only[Ty.w,simprocAttr,hr2,l1,c3,c4,c5,c6];(repeat'(first|refine a_seq fun K hK=>?_|(refine a_block ?_)|((first|refine a_regionS ?_|refine a_region (fun K hK=>?_)|refine a_ret ?_);simp(maxSteps:=2000000) only[Ty.w,simprocAttr,l1,c3,c4,c5,c6,g0,g24,g25,w7])|((first|refine a_skip ?_|refine a_exit ?_);try simp only[pst0,simprocAttr])|(refine a_cond _ (by(try simp(maxSteps:=2000000) only[Ty.w,simprocAttr,l1,c3,c4,c5,c6,g0,g24,g25,w7]);rfl) (fun hb=>?_) (fun hb=>?_)<;>(try simp only[hb0,decide_eq_true_eq,decide_eq_false_iff_not,simprocAttr]at hb)<;>(try(exfalso;omega)))|(with_reducible refine ite_in (fun hb=>?_) (fun hb=>?_)<;>(try simp only[Decidable.not_not]at hb)<;>(try simp only[hb,if_true,if_false,not_false_eq_true,not_true_eq_false, ↓reduceIte])<;>(try simp only[hb0,decide_eq_true_eq,decide_eq_false_iff_not,simprocAttr]at hb)<;>(try(exfalso;omega)))|((first|refine hK _ _ ?_|(clear hK;refine hK _ _ ?_)|(clear hK;clear hK;refine hK _ _ ?_)|(clear hK;clear hK;clear hK;refine hK _ _ ?_));clear hK;try simp only[pst0,simprocAttr])|(rw[if_pos];rotate_left 1;omega;simp(maxSteps:=2000000) only[Ty.w,simprocAttr,l1,c3,c4,c5,c6,g0,g24,g25,w7])));rw[hbad]
      ·have hd:decide ((k:Int)<(s.size:Int))=false:=(by simp;omega);have hok:bytesOkB s.data.toList=true:=by
        refine bytesOk_true fun j d hj=>?_;by_cases hj0:j=0
        ·subst hj0;rw[hx]at hj;simp at hj;subst hj;simp[okAt,b3]
        ·simp [okAt,hj0,hall j d (by have:=(List.getElem?_eq_some_iff.1 hj).1;omega) hj]
       have hn:nameB s=true:=by
        have e1:decide (0<s.size)=true:=(by simp;omega);have e2:decide (s.size≤32)=true:=(by simp;omega);simp only[nameB,hok,b5,e1,e2];rfl
       clear hall;(repeat'(first|refine a_seq fun K hK=>?_|(refine a_block ?_)|((first|refine a_regionS ?_|refine a_region (fun K hK=>?_)|refine a_ret ?_);simp(maxSteps:=2000000) only[Ty.w,simprocAttr,g0,g24,g25,hd])|((first|refine a_skip ?_|refine a_exit ?_);try simp only[pst0,simprocAttr])|(refine a_cond _ (by(try simp(maxSteps:=2000000) only[Ty.w,simprocAttr,g0,g24,g25,hd]);rfl) (fun hb=>?_) (fun hb=>?_)<;>(try simp only[hb0,decide_eq_true_eq,decide_eq_false_iff_not,simprocAttr]at hb)<;>(try(exfalso;omega)))|(with_reducible refine ite_in (fun hb=>?_) (fun hb=>?_)<;>(try simp only[Decidable.not_not]at hb)<;>(try simp only[hb,if_true,if_false,not_false_eq_true,not_true_eq_false, ↓reduceIte])<;>(try simp only[hb0,decide_eq_true_eq,decide_eq_false_iff_not,simprocAttr]at hb)<;>(try(exfalso;omega)))|((first|refine hK _ _ ?_|(clear hK;refine hK _ _ ?_)|(clear hK;clear hK;refine hK _ _ ?_)|(clear hK;clear hK;clear hK;refine hK _ _ ?_));clear hK;try simp only[pst0,simprocAttr])|(rw[if_pos];rotate_left 1;omega;simp(maxSteps:=2000000) only[Ty.w,simprocAttr,g0,g24,g25,hd])));rw[hn]
end Go.Proofs.YtnldekadkjdbcaaGreat
namespace Go.AM
def Tl(h:Heap)(id0 z:Nat)(p:PV)(rows:List (List PV)):Prop:=
 (rows=[]∧(p= .sc (.slice none 0 0)∨p= .emp))∨ ∃ id,id0≤id∧id<h.next∧p= .own id 0 rows.length∧h.obj id=some (.arr z rows)
variable {h:Heap}{id0 z:Nat}{p:PV}{rows:List (List PV)}
theorem Tl.nil:Tl h id0 z (.sc (.slice none 0 0)) []:= .inl ⟨rfl,.inl rfl⟩
theorem Tl.tail(t:Tl h id0 z p rows): ∃ H,isTail h p=some (H,rows)∧zOk h z p=true∧H.next=h.next∧(∀ j,j<id0→H.obj j=h.obj j)∧(∀ h0,Keep h0 h→h0.next≤id0→Keep h0 H):=by
 rcases t with⟨rfl,rfl|rfl⟩|⟨id,h1,h2,rfl,ho⟩
 ·exact ⟨h,rfl,rfl,rfl,fun _ _=>rfl,fun _ hk _=>hk⟩
 ·exact ⟨h,rfl,rfl,rfl,fun _ _=>rfl,fun _ hk _=>hk⟩
 ·refine ⟨h.kill id,by simp[isTail,ho],by simp[zOk,ho],rfl,fun j hj=>?_,fun h0 hk hn=>keep_kill (by omega) hk⟩;rw[kill_obj,if_neg (by omega)]
theorem Tl.grow{H:Heap}{len:Nat}(hn:id0≤H.next)(hl:len=rows.length):Tl (H.new (.arr z rows)) id0 z (.own H.next 0 len) rows:=
 .inr ⟨H.next,hn,Nat.lt_succ_self _,by rw[hl],by rw[new_obj,if_pos rfl]⟩
theorem FrzL_sc{n:Nat}:(l:List PV)→(∀ p∈l, ∃ v,p= .sc v)→FrzL n h l l
 |[],_=>by simp only[FrzL]
 |p::l,hp=>by
  obtain⟨v,hv⟩:=hp p (by simp);simp only[FrzL];exact⟨by rw[hv];simp only[FrzTo],FrzL_sc l (fun q hq=>hp q (by simp[hq]))⟩
theorem FrzR_sc{n:Nat}:(l:List (List PV))→(∀ r∈l, ∀ p∈r, ∃ v,p= .sc v)→FrzR n h l l
 |[],_=>by simp only[FrzR]
 |r::l,hp=>by
  simp only[FrzR];exact⟨FrzL_sc r (hp r (by simp)),FrzR_sc l (fun q hq=>hp q (by simp[hq]))⟩
theorem Tl.frz(t:Tl h id0 z p rows)(hs: ∀ r∈rows, ∀ p∈r, ∃ v,p= .sc v):FrzTo id0 h (.imm z rows) p:=by
 simp only[FrzTo];rcases t with⟨h1,h2⟩|⟨id,h1,h2,rfl,ho⟩
 ·exact .inr (.inl ⟨h1,h2.symm⟩)
 ·refine .inr (.inr ⟨id,0,_,_,rfl,h1,ho,by omega,?_⟩);rw[List.drop_zero,List.take_of_length_le (by omega)];exact FrzR_sc _ hs
theorem owp_useH{P:Program}{ow:Nat→Bool}{n:Nat}{s:Slots}{f:FuncId}{dst:Option Tmp}{args:List Operand}{ts:Array TypeId}{ty:TypeId}{pos:String}{af:Array Edge}{gd:Option (Nat × Bool)}{ags:List PV}{v:PV}{h1:Heap}{K:Slots→Heap→Prop}{ops rest:List Oper}
  (hc:PCall P f ags h fun r h'=>r=v∧h'=h1)(ha:args.map (pev s)=ags)(hk:lwn P ow n ops rest K (updO s dst v) h1):
  owp P ow {dst:=dst,op:= .call {callee:= .value (.func f),args:=args.toArray,argTypes:=ts},type:=ty,pos:=pos,after:=af,guard:=gd} (lwp P ow n ops rest K) s h:=
 owp_useL hc ha fun r h' hr=>by rw[hr.1,hr.2];exact hk
end Go.AM
namespace Go.Proofs.YtnldekadkjdbcaaGreat
open Go.AM
set_option maxHeartbeats 2000000
set_option maxRecDepth 20000
structure Fst(h:Heap)(fid mid:Nat)(l:List Pm):Prop where
 f:h.obj fid=some (.arr 1 [[.mp mid]])
 m:h.obj mid=some (.map (entsT l))
theorem rootT_eq(t:ByteArray):(t.data.toList==(#[111,98,106,101,99,116]:Array UInt8).toList)=bEq t rootT:=rfl
theorem has_c{h:Heap}{fid mid:Nat}{l:List Pm}(F:Fst h fid mid l)(t:ByteArray):PCall Tryz.prog 22 [.ptr fid 0 0,sPV t] h fun r h'=>r= .sc (.bool (hasT l t))∧h'=h:=by
 have hf:=F.f;have hm:=F.m;have hq:=mfind_ents t l;cases q:parT l t with
 |some y=>
  rw[q]at hq;refine pcall_body (ow:=fun _=>false) (wf:=fun _=>false) Ty.mixed Tryz.func22 rfl Ty.hb_22 (by rw[Tryz.ntmps22];simp) ?_;rw[Tryz.ntmps22,Tryz.results22];repeat'(first|refine a_seq fun K hK=>?_|(refine a_block ?_)|((first|refine a_regionS ?_|refine a_region (fun K hK=>?_)|refine a_ret ?_);simp(maxSteps:=2000000) only[Ty.w,simprocAttr,hf,hm,hq,Option.map_some])|((first|refine a_skip ?_|refine a_exit ?_);try simp only[pst0,simprocAttr])|(refine a_cond _ (by(try simp(maxSteps:=2000000) only[Ty.w,simprocAttr,hf,hm,hq,Option.map_some]);rfl) (fun hb=>?_) (fun hb=>?_)<;>(try simp only[hb0,decide_eq_true_eq,decide_eq_false_iff_not,simprocAttr]at hb)<;>(try(exfalso;omega)))|(with_reducible refine ite_in (fun hb=>?_) (fun hb=>?_)<;>(try simp only[Decidable.not_not]at hb)<;>(try simp only[hb,if_true,if_false,not_false_eq_true,not_true_eq_false, ↓reduceIte])<;>(try simp only[hb0,decide_eq_true_eq,decide_eq_false_iff_not,simprocAttr]at hb)<;>(try(exfalso;omega)))|((first|refine hK _ _ ?_|(clear hK;refine hK _ _ ?_)|(clear hK;clear hK;refine hK _ _ ?_)|(clear hK;clear hK;clear hK;refine hK _ _ ?_));clear hK;try simp only[pst0,simprocAttr])|(rw[if_pos];rotate_left 1;omega;simp(maxSteps:=2000000) only[Ty.w,simprocAttr,hf,hm,hq,Option.map_some]))
  unfold hasT;rw[q];try rfl
 |none=>
  rw[q]at hq;cases e:bEq t rootT with
  |true=>
   have e':=e;rw[← rootT_eq]at e';refine pcall_body (ow:=fun _=>false) (wf:=fun _=>false) Ty.mixed Tryz.func22 rfl Ty.hb_22 (by rw[Tryz.ntmps22];simp) ?_;rw[Tryz.ntmps22,Tryz.results22];(repeat'(first|refine a_seq fun K hK=>?_|(refine a_block ?_)|((first|refine a_regionS ?_|refine a_region (fun K hK=>?_)|refine a_ret ?_);simp(maxSteps:=2000000) only[Ty.w,simprocAttr,hf,hm,hq,e',Option.map_none])|((first|refine a_skip ?_|refine a_exit ?_);try simp only[pst0,simprocAttr])|(refine a_cond _ (by(try simp(maxSteps:=2000000) only[Ty.w,simprocAttr,hf,hm,hq,e',Option.map_none]);rfl) (fun hb=>?_) (fun hb=>?_)<;>(try simp only[hb0,decide_eq_true_eq,decide_eq_false_iff_not,simprocAttr]at hb)<;>(try(exfalso;omega)))|(with_reducible refine ite_in (fun hb=>?_) (fun hb=>?_)<;>(try simp only[Decidable.not_not]at hb)<;>(try simp only[hb,if_true,if_false,not_false_eq_true,not_true_eq_false, ↓reduceIte])<;>(try simp only[hb0,decide_eq_true_eq,decide_eq_false_iff_not,simprocAttr]at hb)<;>(try(exfalso;omega)))|((first|refine hK _ _ ?_|(clear hK;refine hK _ _ ?_)|(clear hK;clear hK;refine hK _ _ ?_)|(clear hK;clear hK;clear hK;refine hK _ _ ?_));clear hK;try simp only[pst0,simprocAttr])|(rw[if_pos];rotate_left 1;omega;simp(maxSteps:=2000000) only[Ty.w,simprocAttr,hf,hm,hq,e',Option.map_none])));unfold hasT;rw[q,e];try rfl
  |false=>
   have e':=e;rw[← rootT_eq]at e';refine pcall_body (ow:=fun _=>false) (wf:=fun _=>false) Ty.mixed Tryz.func22 rfl Ty.hb_22 (by rw[Tryz.ntmps22];simp) ?_;rw[Tryz.ntmps22,Tryz.results22];(repeat'(first|refine a_seq fun K hK=>?_|(refine a_block ?_)|((first|refine a_regionS ?_|refine a_region (fun K hK=>?_)|refine a_ret ?_);simp(maxSteps:=2000000) only[Ty.w,simprocAttr,hf,hm,hq,e',Option.map_none])|((first|refine a_skip ?_|refine a_exit ?_);try simp only[pst0,simprocAttr])|(refine a_cond _ (by(try simp(maxSteps:=2000000) only[Ty.w,simprocAttr,hf,hm,hq,e',Option.map_none]);rfl) (fun hb=>?_) (fun hb=>?_)<;>(try simp only[hb0,decide_eq_true_eq,decide_eq_false_iff_not,simprocAttr]at hb)<;>(try(exfalso;omega)))|(with_reducible refine ite_in (fun hb=>?_) (fun hb=>?_)<;>(try simp only[Decidable.not_not]at hb)<;>(try simp only[hb,if_true,if_false,not_false_eq_true,not_true_eq_false, ↓reduceIte])<;>(try simp only[hb0,decide_eq_true_eq,decide_eq_false_iff_not,simprocAttr]at hb)<;>(try(exfalso;omega)))|((first|refine hK _ _ ?_|(clear hK;refine hK _ _ ?_)|(clear hK;clear hK;refine hK _ _ ?_)|(clear hK;clear hK;clear hK;refine hK _ _ ?_));clear hK;try simp only[pst0,simprocAttr])|(rw[if_pos];rotate_left 1;omega;simp(maxSteps:=2000000) only[Ty.w,simprocAttr,hf,hm,hq,e',Option.map_none])));unfold hasT;rw[q,e];try rfl
theorem entsT_len(l:List Pm):(entsT l).length=l.length:=by unfold entsT;rw[List.length_map]
theorem lk_par(l:List Pm)(a:ByteArray):lkV false (.string ⟨#[]⟩) ((parT l a).map fun y=> .sc (.string y))=sPV (parD l a):=by
 unfold parD;cases parT l a<;>rfl
theorem cycle_c{h:Heap}{fid mid:Nat}{l:List Pm}(F:Fst h fid mid l)(hl:l.length≤1048576)(t:ByteArray):PCall Tryz.prog 23 [.ptr fid 0 0,sPV t] h fun r h'=>r= .sc (.bool (cycP l t l.length t))∧h'=h:=by
 have hf:=F.f;have hm:=F.m;have hn:=entsT_len l;generalize hG:cycP l t l.length t=g;refine pcall_body (ow:=fun _=>false) (wf:=fun _=>false) Ty.mixed Tryz.func23 rfl Ty.hb_23 (by rw[Tryz.ntmps23];simp) ?_;rw[Tryz.ntmps23,Tryz.results23];repeat'(first|refine a_seq fun K hK=>?_|(refine a_block ?_)|((first|refine a_regionS ?_|refine a_region (fun K hK=>?_)|refine a_ret ?_);simp(maxSteps:=2000000) only[Ty.w,simprocAttr,hf,hm,hn])|((first|refine a_skip ?_|refine a_exit ?_);try simp only[pst0,simprocAttr])|(refine a_cond _ (by(try simp(maxSteps:=2000000) only[Ty.w,simprocAttr,hf,hm,hn]);rfl) (fun hb=>?_) (fun hb=>?_)<;>(try simp only[hb0,decide_eq_true_eq,decide_eq_false_iff_not,simprocAttr]at hb)<;>(try(exfalso;omega)))|(with_reducible refine ite_in (fun hb=>?_) (fun hb=>?_)<;>(try simp only[Decidable.not_not]at hb)<;>(try simp only[hb,if_true,if_false,not_false_eq_true,not_true_eq_false, ↓reduceIte])<;>(try simp only[hb0,decide_eq_true_eq,decide_eq_false_iff_not,simprocAttr]at hb)<;>(try(exfalso;omega)))|((first|refine hK _ _ ?_|(clear hK;refine hK _ _ ?_)|(clear hK;clear hK;refine hK _ _ ?_)|(clear hK;clear hK;clear hK;refine hK _ _ ?_));clear hK;try simp only[pst0,simprocAttr])|(rw[if_pos];rotate_left 1;omega;simp(maxSteps:=2000000) only[Ty.w,simprocAttr,hf,hm,hn]))
 refine a_loop (fun m S h'=>h'=h∧S 0= .ptr fid 0 0∧S 1=sPV t∧S 11= .sc (.int .i64 l.length)∧ ∃ (k:Nat)(a:ByteArray),S 5=sPV a∧S 12= .sc (.int .i64 k)∧k≤l.length∧m=l.length-k∧cycP l t (l.length-k) a=g) l.length ?_ ?_
 ·simp only[Ty.w,simprocAttr];exact⟨0,t,rfl,rfl,by omega,rfl,hG⟩
 ·rintro m S h' ⟨rfl,g0,g1,g11,k,a,g5,g12,hk,rfl,hc⟩;by_cases hlt:k<l.length
  ·have hd:decide ((k:Int)<(l.length:Int))=true:=(by simp;omega);have w7:IntKind.i64.wrap ((k:Int)+1)=k+1:=(by rw[wrap64 (by omega) (by omega)]);have hq:=mfind_ents a l;have hv:=lk_par l a;generalize hy:parD l a=y at hv;(try simp only[Ty.w,simprocAttr]at hv);have hc2:cycP l t (l.length-k) a=bif bEq y t then true else bif bEq y rootT then false else cycP l t (l.length-(k+1)) y:=by
    rw[show l.length-k=(l.length-(k+1))+1 by omega];simp only[cycP,hy]
   rw[hc]at hc2;cases e1:bEq y t with
   |true=>
    rw[e1]at hc2;have e1':=e1;unfold bEq at e1';(repeat'(first|refine a_seq fun K hK=>?_|(refine a_block ?_)|((first|refine a_regionS ?_|refine a_region (fun K hK=>?_)|refine a_ret ?_);simp(maxSteps:=2000000) only[Ty.w,simprocAttr,g0,g1,g11,g5,g12,hd,hf,hm,hq,hv,e1'])|((first|refine a_skip ?_|refine a_exit ?_);try simp only[pst0,simprocAttr])|(refine a_cond _ (by(try simp(maxSteps:=2000000) only[Ty.w,simprocAttr,g0,g1,g11,g5,g12,hd,hf,hm,hq,hv,e1']);rfl) (fun hb=>?_) (fun hb=>?_)<;>(try simp only[hb0,decide_eq_true_eq,decide_eq_false_iff_not,simprocAttr]at hb)<;>(try(exfalso;omega)))|(with_reducible refine ite_in (fun hb=>?_) (fun hb=>?_)<;>(try simp only[Decidable.not_not]at hb)<;>(try simp only[hb,if_true,if_false,not_false_eq_true,not_true_eq_false, ↓reduceIte])<;>(try simp only[hb0,decide_eq_true_eq,decide_eq_false_iff_not,simprocAttr]at hb)<;>(try(exfalso;omega)))|((first|refine hK _ _ ?_|(clear hK;refine hK _ _ ?_)|(clear hK;clear hK;refine hK _ _ ?_)|(clear hK;clear hK;clear hK;refine hK _ _ ?_));clear hK;try simp only[pst0,simprocAttr])|(rw[if_pos];rotate_left 1;omega;simp(maxSteps:=2000000) only[Ty.w,simprocAttr,g0,g1,g11,g5,g12,hd,hf,hm,hq,hv,e1'])));rw[hc2];try rfl
   |false=>
    have e1':=e1;unfold bEq at e1';cases e2:bEq y rootT with
    |true=>
     rw[e1,e2]at hc2;have e2':=e2;rw[← rootT_eq]at e2';(repeat'(first|refine a_seq fun K hK=>?_|(refine a_block ?_)|((first|refine a_regionS ?_|refine a_region (fun K hK=>?_)|refine a_ret ?_);simp(maxSteps:=2000000) only[Ty.w,simprocAttr,g0,g1,g11,g5,g12,hd,hf,hm,hq,hv,e1',e2'])|((first|refine a_skip ?_|refine a_exit ?_);try simp only[pst0,simprocAttr])|(refine a_cond _ (by(try simp(maxSteps:=2000000) only[Ty.w,simprocAttr,g0,g1,g11,g5,g12,hd,hf,hm,hq,hv,e1',e2']);rfl) (fun hb=>?_) (fun hb=>?_)<;>(try simp only[hb0,decide_eq_true_eq,decide_eq_false_iff_not,simprocAttr]at hb)<;>(try(exfalso;omega)))|(with_reducible refine ite_in (fun hb=>?_) (fun hb=>?_)<;>(try simp only[Decidable.not_not]at hb)<;>(try simp only[hb,if_true,if_false,not_false_eq_true,not_true_eq_false, ↓reduceIte])<;>(try simp only[hb0,decide_eq_true_eq,decide_eq_false_iff_not,simprocAttr]at hb)<;>(try(exfalso;omega)))|((first|refine hK _ _ ?_|(clear hK;refine hK _ _ ?_)|(clear hK;clear hK;refine hK _ _ ?_)|(clear hK;clear hK;clear hK;refine hK _ _ ?_));clear hK;try simp only[pst0,simprocAttr])|(rw[if_pos];rotate_left 1;omega;simp(maxSteps:=2000000) only[Ty.w,simprocAttr,g0,g1,g11,g5,g12,hd,hf,hm,hq,hv,e1',e2'])));rw[hc2];try rfl
    |false=>
     rw[e1,e2]at hc2;have e2':=e2;rw[← rootT_eq]at e2';(repeat'(first|refine a_seq fun K hK=>?_|(refine a_block ?_)|((first|refine a_regionS ?_|refine a_region (fun K hK=>?_)|refine a_ret ?_);simp(maxSteps:=2000000) only[Ty.w,simprocAttr,g0,g1,g11,g5,g12,hd,hf,hm,hq,hv,e1',e2',w7])|((first|refine a_skip ?_|refine a_exit ?_);try simp only[pst0,simprocAttr])|(refine a_cond _ (by(try simp(maxSteps:=2000000) only[Ty.w,simprocAttr,g0,g1,g11,g5,g12,hd,hf,hm,hq,hv,e1',e2',w7]);rfl) (fun hb=>?_) (fun hb=>?_)<;>(try simp only[hb0,decide_eq_true_eq,decide_eq_false_iff_not,simprocAttr]at hb)<;>(try(exfalso;omega)))|(with_reducible refine ite_in (fun hb=>?_) (fun hb=>?_)<;>(try simp only[Decidable.not_not]at hb)<;>(try simp only[hb,if_true,if_false,not_false_eq_true,not_true_eq_false, ↓reduceIte])<;>(try simp only[hb0,decide_eq_true_eq,decide_eq_false_iff_not,simprocAttr]at hb)<;>(try(exfalso;omega)))|((first|refine hK _ _ ?_|(clear hK;refine hK _ _ ?_)|(clear hK;clear hK;refine hK _ _ ?_)|(clear hK;clear hK;clear hK;refine hK _ _ ?_));clear hK;try simp only[pst0,simprocAttr])|(rw[if_pos];rotate_left 1;omega;simp(maxSteps:=2000000) only[Ty.w,simprocAttr,g0,g1,g11,g5,g12,hd,hf,hm,hq,hv,e1',e2',w7])));exact⟨l.length-(k+1),by omega,k+1,y,rfl,by simp,by omega,rfl,hc2.symm⟩
  ·have hd:decide ((k:Int)<(l.length:Int))=false:=(by simp;omega);have hz:l.length-k=0:=(by omega);rw[hz]at hc;(repeat'(first|refine a_seq fun K hK=>?_|(refine a_block ?_)|((first|refine a_regionS ?_|refine a_region (fun K hK=>?_)|refine a_ret ?_);simp(maxSteps:=2000000) only[Ty.w,simprocAttr,g0,g1,g11,g5,g12,hd])|((first|refine a_skip ?_|refine a_exit ?_);try simp only[pst0,simprocAttr])|(refine a_cond _ (by(try simp(maxSteps:=2000000) only[Ty.w,simprocAttr,g0,g1,g11,g5,g12,hd]);rfl) (fun hb=>?_) (fun hb=>?_)<;>(try simp only[hb0,decide_eq_true_eq,decide_eq_false_iff_not,simprocAttr]at hb)<;>(try(exfalso;omega)))|(with_reducible refine ite_in (fun hb=>?_) (fun hb=>?_)<;>(try simp only[Decidable.not_not]at hb)<;>(try simp only[hb,if_true,if_false,not_false_eq_true,not_true_eq_false, ↓reduceIte])<;>(try simp only[hb0,decide_eq_true_eq,decide_eq_false_iff_not,simprocAttr]at hb)<;>(try(exfalso;omega)))|((first|refine hK _ _ ?_|(clear hK;refine hK _ _ ?_)|(clear hK;clear hK;refine hK _ _ ?_)|(clear hK;clear hK;clear hK;refine hK _ _ ?_));clear hK;try simp only[pst0,simprocAttr])|(rw[if_pos];rotate_left 1;omega;simp(maxSteps:=2000000) only[Ty.w,simprocAttr,g0,g1,g11,g5,g12,hd])));rw[← hc];try rfl
theorem PCall.frzT{P:Program}{f:FuncId}{args:List PV}{h:Heap}{v:PV}(hb:hasBody P f=true)(hc:PCall P f args h fun r' h'=>FrzTo h.next h' v r'∧Grow h h'):PCall P f args h fun r h'=>r=v∧h'=h:=by
 refine pcall_wf hb fun hw=>PCall.drop (hc.mono ?_);rintro r' h' ⟨hf,g⟩;refine⟨v,h,⟨rfl,rfl⟩,hf,Nat.le_refl _,fun id o ho=>?_⟩;have hid:=hw id (by rw[ho];try rfl);exact⟨by rw[g.old id hid];exact ho,hid,.inl ho⟩
theorem strs_scalT(l:List ByteArray): ∀ r∈strRows l, ∀ p∈r, ∃ v,p=PV.sc v:=by
 intro r hr p hp;simp only[strRows,List.mem_map]at hr;obtain⟨x,_,rfl⟩:=hr;simp only[List.mem_singleton]at hp;exact⟨_,hp⟩
theorem Fst.wf{h:Heap}{fid mid:Nat}{l:List Pm}(F:Fst h fid mid l)(hw:Wf h):fid<h.next∧mid<h.next:=⟨hw _ (by rw[F.f];try rfl),hw _ (by rw[F.m];try rfl)⟩
theorem Fst.grow{h h':Heap}{fid mid:Nat}{l:List Pm}(F:Fst h fid mid l)(h1:fid<h.next)(h2:mid<h.next)(g:Grow h h'):Fst h' fid mid l:=⟨by rw[g.old _ h1];exact F.f,by rw[g.old _ h2];exact F.m⟩
theorem above_c{h:Heap}{fid mid:Nat}{l:List Pm}(F:Fst h fid mid l)(hl:l.length≤1048576){t:ByteArray}(ht:rchT l l.length t=true):PCall Tryz.prog 28 [.ptr fid 0 0,sPV t] h fun r h'=>r= .imm 1 (strRows (chnT l l.length t))∧h'=h:=by
 refine pcall_wf Ty.hb_28 fun hw=>?_;obtain⟨hf1,hm1⟩:=F.wf hw;refine PCall.frzT Ty.hb_28 ?_;generalize hX:chnT l l.length t=X;refine pcall_body (ow:=fun t=>t==7) (wf:=fun _=>false) Ty.mixed Tryz.func28 rfl Ty.hb_28 (by rw[Tryz.ntmps28];simp) ?_;rw[Tryz.ntmps28,Tryz.results28];repeat'(first|refine a_seq fun K hK=>?_|(refine a_block ?_)|((first|refine a_regionS ?_|refine a_region (fun K hK=>?_)|refine a_ret ?_);simp(maxSteps:=2000000) only[Ty.w,simprocAttr])|((first|refine a_skip ?_|refine a_exit ?_);try simp only[pst0,simprocAttr])|(refine a_cond _ (by(try simp(maxSteps:=2000000) only[Ty.w,simprocAttr]);rfl) (fun hb=>?_) (fun hb=>?_)<;>(try simp only[hb0,decide_eq_true_eq,decide_eq_false_iff_not,simprocAttr]at hb)<;>(try(exfalso;omega)))|(with_reducible refine ite_in (fun hb=>?_) (fun hb=>?_)<;>(try simp only[Decidable.not_not]at hb)<;>(try simp only[hb,if_true,if_false,not_false_eq_true,not_true_eq_false, ↓reduceIte])<;>(try simp only[hb0,decide_eq_true_eq,decide_eq_false_iff_not,simprocAttr]at hb)<;>(try(exfalso;omega)))|((first|refine hK _ _ ?_|(clear hK;refine hK _ _ ?_)|(clear hK;clear hK;refine hK _ _ ?_)|(clear hK;clear hK;clear hK;refine hK _ _ ?_));clear hK;try simp only[pst0,simprocAttr])|(rw[if_pos];rotate_left 1;omega;simp(maxSteps:=2000000) only[Ty.w,simprocAttr]))
 refine a_loop (fun m S h'=>S 0= .ptr fid 0 0∧Grow h h'∧ ∃ (L0:List ByteArray)(a:ByteArray)(p:PV),S 1=sPV a∧S 5=p∧Tl h' h.next 1 p (strRows (L0++[a]))∧rchT l m a=true∧L0++chnT l m a=X∧L0.length+m≤l.length) l.length ?_ ?_
 ·simp only[Ty.w,simprocAttr];exact⟨Grow.new (Grow.refl _) _,[],t,_,rfl,rfl,Tl.grow (Nat.le_refl _) rfl,ht,hX,by simp⟩
 ·rintro m S h' ⟨g0,hg,L0,a,p,g1,g5,tl,hr,hx,hlen⟩;have F':=F.grow hf1 hm1 hg;have hf:=F'.f;have hm:=F'.m;cases e:bEq a rootT with
  |true=>
   have e':=e;rw[← rootT_eq]at e';have hX2:L0++[a]=X:=by
    rw[← hx];cases m with
    |zero=>rfl
    |succ m=>unfold chnT;rw[e];try rfl
   rw[hX2]at tl;(repeat'(first|refine a_seq fun K hK=>?_|(refine a_block ?_)|((first|refine a_regionS ?_|refine a_region (fun K hK=>?_)|refine a_ret ?_);simp(maxSteps:=2000000) only[Ty.w,simprocAttr,g0,g1,g5,e',bne])|((first|refine a_skip ?_|refine a_exit ?_);try simp only[pst0,simprocAttr])|(refine a_cond _ (by(try simp(maxSteps:=2000000) only[Ty.w,simprocAttr,g0,g1,g5,e',bne]);rfl) (fun hb=>?_) (fun hb=>?_)<;>(try simp only[hb0,decide_eq_true_eq,decide_eq_false_iff_not,simprocAttr]at hb)<;>(try(exfalso;omega)))|(with_reducible refine ite_in (fun hb=>?_) (fun hb=>?_)<;>(try simp only[Decidable.not_not]at hb)<;>(try simp only[hb,if_true,if_false,not_false_eq_true,not_true_eq_false, ↓reduceIte])<;>(try simp only[hb0,decide_eq_true_eq,decide_eq_false_iff_not,simprocAttr]at hb)<;>(try(exfalso;omega)))|((first|refine hK _ _ ?_|(clear hK;refine hK _ _ ?_)|(clear hK;clear hK;refine hK _ _ ?_)|(clear hK;clear hK;clear hK;refine hK _ _ ?_));clear hK;try simp only[pst0,simprocAttr])|(rw[if_pos];rotate_left 1;omega;simp(maxSteps:=2000000) only[Ty.w,simprocAttr,g0,g1,g5,e',bne])));exact⟨tl.frz (strs_scalT _),hg⟩
  |false=>
   have e':=e;rw[← rootT_eq]at e';cases m with
   |zero=>unfold rchT at hr;rw[e]at hr;cases hr
   |succ m=>
    unfold rchT at hr;unfold chnT at hx;rw[e]at hr hx;have hq:=mfind_ents a l;have hv:=lk_par l a;generalize hy:parD l a=y at hv hr hx;(try simp only[Ty.w,simprocAttr]at hv);simp only[cond_false]at hr hx;have hx2:(L0++[a])++chnT l m y=X:=(by rw[← hx];simp);obtain⟨H,t1,t2,t3,t4,t5⟩:=tl.tail;have hlen2:(L0++[a]).length≤1048576:=(by rw[List.length_append,List.length_singleton];omega);have hpr:=strRows_len (L0++[a]);have hlen3:(L0++[a]).length+m≤l.length:=(by rw[List.length_append,List.length_singleton];omega);have hbb:((L0++[a]).length+1)*16≤140737488355328:=(by omega);have hR:strRows ((L0++[a])++[y])=strRows (L0++[a])++[[sPV y]]:=(by simp[strRows]);have hle2:=hg.le;have hg2:Grow h (H.new (.arr 1 (strRows (L0++[a])++[[sPV y]]))):=by
     refine Grow.new ⟨by omega,fun j hj=>?_⟩ _;rw[t4 j hj];exact hg.old j hj
    have tl2:Tl (H.new (.arr 1 (strRows (L0++[a])++[[sPV y]]))) h.next 1 (.own h'.next 0 ((L0++[a]).length+1)) (strRows ((L0++[a])++[y])):=by
     rw[hR, ← t3];exact Tl.grow (by omega) (by simp[strRows])
    generalize L0++[a]=L1 at*;(repeat'(first|refine a_seq fun K hK=>?_|(refine a_block ?_)|((first|refine a_regionS ?_|refine a_region (fun K hK=>?_)|refine a_ret ?_);simp(maxSteps:=2000000) only[Ty.w,simprocAttr,g0,g1,g5,e',bne,hf,hm,hq,hv,t1,t2,hpr,hbb])|((first|refine a_skip ?_|refine a_exit ?_);try simp only[pst0,simprocAttr])|(refine a_cond _ (by(try simp(maxSteps:=2000000) only[Ty.w,simprocAttr,g0,g1,g5,e',bne,hf,hm,hq,hv,t1,t2,hpr,hbb]);rfl) (fun hb=>?_) (fun hb=>?_)<;>(try simp only[hb0,decide_eq_true_eq,decide_eq_false_iff_not,simprocAttr]at hb)<;>(try(exfalso;omega)))|(with_reducible refine ite_in (fun hb=>?_) (fun hb=>?_)<;>(try simp only[Decidable.not_not]at hb)<;>(try simp only[hb,if_true,if_false,not_false_eq_true,not_true_eq_false, ↓reduceIte])<;>(try simp only[hb0,decide_eq_true_eq,decide_eq_false_iff_not,simprocAttr]at hb)<;>(try(exfalso;omega)))|((first|refine hK _ _ ?_|(clear hK;refine hK _ _ ?_)|(clear hK;clear hK;refine hK _ _ ?_)|(clear hK;clear hK;clear hK;refine hK _ _ ?_));clear hK;try simp only[pst0,simprocAttr])|(rw[if_pos];rotate_left 1;omega;simp(maxSteps:=2000000) only[Ty.w,simprocAttr,g0,g1,g5,e',bne,hf,hm,hq,hv,t1,t2,hpr,hbb])));simp only[Ty.w,simprocAttr,g0];exact⟨m,by omega,hg2,L1,y,_,rfl,rfl,tl2,hr,hx2,hlen3⟩
theorem chnT_len(l:List Pm): ∀ (k:Nat)(t:ByteArray),(chnT l k t).length≤k+1
 |0,_=>Nat.le_refl _
 |k+1,t=>by
  have:=chnT_len l k (parD l t);unfold chnT;cases bEq t rootT with
  |true=>simp
  |false=>simp only[cond_false,List.length_cons];omega
def isP(l:List Pm)(a b:ByteArray):Bool:=hasT l a&&hasT l b&&(chnT l l.length a).any fun x=>bEq b x
theorem is_c{h:Heap}{fid mid:Nat}{l:List Pm}(F:Fst h fid mid l)(hl:l.length≤1048576)(hok: ∀ t,hasT l t=true→rchT l l.length t=true)(a b:ByteArray):PCall Tryz.prog 11 [.ptr fid 0 0,sPV a,sPV b] h fun r h'=>r= .sc (.bool (isP l a b))∧h'=h:=by
 have ca:=has_c F a;have cb:=has_c F b;cases q1:hasT l a with
 |false=>
  rw[q1]at ca;have e:isP l a b=false:=by unfold isP;rw[q1];try rfl
  rw[e];refine pcall_body (ow:=fun _=>false) (wf:=fun _=>false) Ty.mixed Tryz.func11 rfl Ty.hb_11 (by rw[Tryz.ntmps11];simp) ?_;rw[Tryz.ntmps11,Tryz.results11];repeat'(first|refine a_seq fun K hK=>?_|(refine a_block ?_)|((first|refine a_regionS ?_|refine a_region (fun K hK=>?_)|refine a_ret ?_);simp(maxSteps:=2000000) only[Ty.w,simprocAttr])|((first|refine a_skip ?_|refine a_exit ?_);try simp only[pst0,simprocAttr])|(refine a_cond _ (by(try simp(maxSteps:=2000000) only[Ty.w,simprocAttr]);rfl) (fun hb=>?_) (fun hb=>?_)<;>(try simp only[hb0,decide_eq_true_eq,decide_eq_false_iff_not,simprocAttr]at hb)<;>(try(exfalso;omega)))|(with_reducible refine ite_in (fun hb=>?_) (fun hb=>?_)<;>(try simp only[Decidable.not_not]at hb)<;>(try simp only[hb,if_true,if_false,not_false_eq_true,not_true_eq_false, ↓reduceIte])<;>(try simp only[hb0,decide_eq_true_eq,decide_eq_false_iff_not,simprocAttr]at hb)<;>(try(exfalso;omega)))|((first|refine hK _ _ ?_|(clear hK;refine hK _ _ ?_)|(clear hK;clear hK;refine hK _ _ ?_)|(clear hK;clear hK;clear hK;refine hK _ _ ?_));clear hK;try simp only[pst0,simprocAttr])|(rw[if_pos];rotate_left 1;omega;simp(maxSteps:=2000000) only[Ty.w,simprocAttr]))
  refine owp_useQ (ca) (by(try simp only[Ty.w,simprocAttr,reduceCtorEq]);try rfl) ?_;simp(maxSteps:=2000000) only[Ty.w,simprocAttr,reduceCtorEq];repeat'(first|refine a_seq fun K hK=>?_|(refine a_block ?_)|((first|refine a_regionS ?_|refine a_region (fun K hK=>?_)|refine a_ret ?_);simp(maxSteps:=2000000) only[Ty.w,simprocAttr])|((first|refine a_skip ?_|refine a_exit ?_);try simp only[pst0,simprocAttr])|(refine a_cond _ (by(try simp(maxSteps:=2000000) only[Ty.w,simprocAttr]);rfl) (fun hb=>?_) (fun hb=>?_)<;>(try simp only[hb0,decide_eq_true_eq,decide_eq_false_iff_not,simprocAttr]at hb)<;>(try(exfalso;omega)))|(with_reducible refine ite_in (fun hb=>?_) (fun hb=>?_)<;>(try simp only[Decidable.not_not]at hb)<;>(try simp only[hb,if_true,if_false,not_false_eq_true,not_true_eq_false, ↓reduceIte])<;>(try simp only[hb0,decide_eq_true_eq,decide_eq_false_iff_not,simprocAttr]at hb)<;>(try(exfalso;omega)))|((first|refine hK _ _ ?_|(clear hK;refine hK _ _ ?_)|(clear hK;clear hK;refine hK _ _ ?_)|(clear hK;clear hK;clear hK;refine hK _ _ ?_));clear hK;try simp only[pst0,simprocAttr])|(rw[if_pos];rotate_left 1;omega;simp(maxSteps:=2000000) only[Ty.w,simprocAttr]))
 |true=>
  rw[q1]at ca;cases q2:hasT l b with
  |false=>
   rw[q2]at cb;have e:isP l a b=false:=(by unfold isP;rw[q1,q2];try rfl);rw[e];refine pcall_body (ow:=fun _=>false) (wf:=fun _=>false) Ty.mixed Tryz.func11 rfl Ty.hb_11 (by rw[Tryz.ntmps11];simp) ?_;rw[Tryz.ntmps11,Tryz.results11];(repeat'(first|refine a_seq fun K hK=>?_|(refine a_block ?_)|((first|refine a_regionS ?_|refine a_region (fun K hK=>?_)|refine a_ret ?_);simp(maxSteps:=2000000) only[Ty.w,simprocAttr])|((first|refine a_skip ?_|refine a_exit ?_);try simp only[pst0,simprocAttr])|(refine a_cond _ (by(try simp(maxSteps:=2000000) only[Ty.w,simprocAttr]);rfl) (fun hb=>?_) (fun hb=>?_)<;>(try simp only[hb0,decide_eq_true_eq,decide_eq_false_iff_not,simprocAttr]at hb)<;>(try(exfalso;omega)))|(with_reducible refine ite_in (fun hb=>?_) (fun hb=>?_)<;>(try simp only[Decidable.not_not]at hb)<;>(try simp only[hb,if_true,if_false,not_false_eq_true,not_true_eq_false, ↓reduceIte])<;>(try simp only[hb0,decide_eq_true_eq,decide_eq_false_iff_not,simprocAttr]at hb)<;>(try(exfalso;omega)))|((first|refine hK _ _ ?_|(clear hK;refine hK _ _ ?_)|(clear hK;clear hK;refine hK _ _ ?_)|(clear hK;clear hK;clear hK;refine hK _ _ ?_));clear hK;try simp only[pst0,simprocAttr])|(rw[if_pos];rotate_left 1;omega;simp(maxSteps:=2000000) only[Ty.w,simprocAttr])));refine owp_useQ (ca) (by(try simp only[Ty.w,simprocAttr,reduceCtorEq]);try rfl) ?_;simp(maxSteps:=2000000) only[Ty.w,simprocAttr,reduceCtorEq];(repeat'(first|refine a_seq fun K hK=>?_|(refine a_block ?_)|((first|refine a_regionS ?_|refine a_region (fun K hK=>?_)|refine a_ret ?_);simp(maxSteps:=2000000) only[Ty.w,simprocAttr])|((first|refine a_skip ?_|refine a_exit ?_);try simp only[pst0,simprocAttr])|(refine a_cond _ (by(try simp(maxSteps:=2000000) only[Ty.w,simprocAttr]);rfl) (fun hb=>?_) (fun hb=>?_)<;>(try simp only[hb0,decide_eq_true_eq,decide_eq_false_iff_not,simprocAttr]at hb)<;>(try(exfalso;omega)))|(with_reducible refine ite_in (fun hb=>?_) (fun hb=>?_)<;>(try simp only[Decidable.not_not]at hb)<;>(try simp only[hb,if_true,if_false,not_false_eq_true,not_true_eq_false, ↓reduceIte])<;>(try simp only[hb0,decide_eq_true_eq,decide_eq_false_iff_not,simprocAttr]at hb)<;>(try(exfalso;omega)))|((first|refine hK _ _ ?_|(clear hK;refine hK _ _ ?_)|(clear hK;clear hK;refine hK _ _ ?_)|(clear hK;clear hK;clear hK;refine hK _ _ ?_));clear hK;try simp only[pst0,simprocAttr])|(rw[if_pos];rotate_left 1;omega;simp(maxSteps:=2000000) only[Ty.w,simprocAttr])));refine owp_useQ (cb) (by(try simp only[Ty.w,simprocAttr,reduceCtorEq]);try rfl) ?_;simp(maxSteps:=2000000) only[Ty.w,simprocAttr,reduceCtorEq];repeat'(first|refine a_seq fun K hK=>?_|(refine a_block ?_)|((first|refine a_regionS ?_|refine a_region (fun K hK=>?_)|refine a_ret ?_);simp(maxSteps:=2000000) only[Ty.w,simprocAttr])|((first|refine a_skip ?_|refine a_exit ?_);try simp only[pst0,simprocAttr])|(refine a_cond _ (by(try simp(maxSteps:=2000000) only[Ty.w,simprocAttr]);rfl) (fun hb=>?_) (fun hb=>?_)<;>(try simp only[hb0,decide_eq_true_eq,decide_eq_false_iff_not,simprocAttr]at hb)<;>(try(exfalso;omega)))|(with_reducible refine ite_in (fun hb=>?_) (fun hb=>?_)<;>(try simp only[Decidable.not_not]at hb)<;>(try simp only[hb,if_true,if_false,not_false_eq_true,not_true_eq_false, ↓reduceIte])<;>(try simp only[hb0,decide_eq_true_eq,decide_eq_false_iff_not,simprocAttr]at hb)<;>(try(exfalso;omega)))|((first|refine hK _ _ ?_|(clear hK;refine hK _ _ ?_)|(clear hK;clear hK;refine hK _ _ ?_)|(clear hK;clear hK;clear hK;refine hK _ _ ?_));clear hK;try simp only[pst0,simprocAttr])|(rw[if_pos];rotate_left 1;omega;simp(maxSteps:=2000000) only[Ty.w,simprocAttr]))
  |true=>
   rw[q2]at cb;have e:isP l a b=(chnT l l.length a).any fun x=>bEq b x:=(by unfold isP;rw[q1,q2];try rfl);rw[e];have cc:=above_c F hl (hok a q1);have cd:=contains_c (h:=h) (l:=chnT l l.length a) (s:=b) (by have:=chnT_len l l.length a;omega);generalize chnT l l.length a=X at cc cd;refine pcall_body (ow:=fun _=>false) (wf:=fun _=>false) Ty.mixed Tryz.func11 rfl Ty.hb_11 (by rw[Tryz.ntmps11];simp) ?_;rw[Tryz.ntmps11,Tryz.results11];(repeat'(first|refine a_seq fun K hK=>?_|(refine a_block ?_)|((first|refine a_regionS ?_|refine a_region (fun K hK=>?_)|refine a_ret ?_);simp(maxSteps:=2000000) only[Ty.w,simprocAttr])|((first|refine a_skip ?_|refine a_exit ?_);try simp only[pst0,simprocAttr])|(refine a_cond _ (by(try simp(maxSteps:=2000000) only[Ty.w,simprocAttr]);rfl) (fun hb=>?_) (fun hb=>?_)<;>(try simp only[hb0,decide_eq_true_eq,decide_eq_false_iff_not,simprocAttr]at hb)<;>(try(exfalso;omega)))|(with_reducible refine ite_in (fun hb=>?_) (fun hb=>?_)<;>(try simp only[Decidable.not_not]at hb)<;>(try simp only[hb,if_true,if_false,not_false_eq_true,not_true_eq_false, ↓reduceIte])<;>(try simp only[hb0,decide_eq_true_eq,decide_eq_false_iff_not,simprocAttr]at hb)<;>(try(exfalso;omega)))|((first|refine hK _ _ ?_|(clear hK;refine hK _ _ ?_)|(clear hK;clear hK;refine hK _ _ ?_)|(clear hK;clear hK;clear hK;refine hK _ _ ?_));clear hK;try simp only[pst0,simprocAttr])|(rw[if_pos];rotate_left 1;omega;simp(maxSteps:=2000000) only[Ty.w,simprocAttr])));refine owp_useQ (ca) (by(try simp only[Ty.w,simprocAttr,reduceCtorEq]);try rfl) ?_;simp(maxSteps:=2000000) only[Ty.w,simprocAttr,reduceCtorEq];(repeat'(first|refine a_seq fun K hK=>?_|(refine a_block ?_)|((first|refine a_regionS ?_|refine a_region (fun K hK=>?_)|refine a_ret ?_);simp(maxSteps:=2000000) only[Ty.w,simprocAttr])|((first|refine a_skip ?_|refine a_exit ?_);try simp only[pst0,simprocAttr])|(refine a_cond _ (by(try simp(maxSteps:=2000000) only[Ty.w,simprocAttr]);rfl) (fun hb=>?_) (fun hb=>?_)<;>(try simp only[hb0,decide_eq_true_eq,decide_eq_false_iff_not,simprocAttr]at hb)<;>(try(exfalso;omega)))|(with_reducible refine ite_in (fun hb=>?_) (fun hb=>?_)<;>(try simp only[Decidable.not_not]at hb)<;>(try simp only[hb,if_true,if_false,not_false_eq_true,not_true_eq_false, ↓reduceIte])<;>(try simp only[hb0,decide_eq_true_eq,decide_eq_false_iff_not,simprocAttr]at hb)<;>(try(exfalso;omega)))|((first|refine hK _ _ ?_|(clear hK;refine hK _ _ ?_)|(clear hK;clear hK;refine hK _ _ ?_)|(clear hK;clear hK;clear hK;refine hK _ _ ?_));clear hK;try simp only[pst0,simprocAttr])|(rw[if_pos];rotate_left 1;omega;simp(maxSteps:=2000000) only[Ty.w,simprocAttr])));refine owp_useQ (cb) (by(try simp only[Ty.w,simprocAttr,reduceCtorEq]);try rfl) ?_;simp(maxSteps:=2000000) only[Ty.w,simprocAttr,reduceCtorEq];(repeat'(first|refine a_seq fun K hK=>?_|(refine a_block ?_)|((first|refine a_regionS ?_|refine a_region (fun K hK=>?_)|refine a_ret ?_);simp(maxSteps:=2000000) only[Ty.w,simprocAttr])|((first|refine a_skip ?_|refine a_exit ?_);try simp only[pst0,simprocAttr])|(refine a_cond _ (by(try simp(maxSteps:=2000000) only[Ty.w,simprocAttr]);rfl) (fun hb=>?_) (fun hb=>?_)<;>(try simp only[hb0,decide_eq_true_eq,decide_eq_false_iff_not,simprocAttr]at hb)<;>(try(exfalso;omega)))|(with_reducible refine ite_in (fun hb=>?_) (fun hb=>?_)<;>(try simp only[Decidable.not_not]at hb)<;>(try simp only[hb,if_true,if_false,not_false_eq_true,not_true_eq_false, ↓reduceIte])<;>(try simp only[hb0,decide_eq_true_eq,decide_eq_false_iff_not,simprocAttr]at hb)<;>(try(exfalso;omega)))|((first|refine hK _ _ ?_|(clear hK;refine hK _ _ ?_)|(clear hK;clear hK;refine hK _ _ ?_)|(clear hK;clear hK;clear hK;refine hK _ _ ?_));clear hK;try simp only[pst0,simprocAttr])|(rw[if_pos];rotate_left 1;omega;simp(maxSteps:=2000000) only[Ty.w,simprocAttr])));refine owp_useQ (cc) (by(try simp only[Ty.w,simprocAttr,reduceCtorEq]);try rfl) ?_;simp(maxSteps:=2000000) only[Ty.w,simprocAttr,reduceCtorEq]
   (repeat'(first|refine a_seq fun K hK=>?_|(refine a_block ?_)|((first|refine a_regionS ?_|refine a_region (fun K hK=>?_)|refine a_ret ?_);simp(maxSteps:=2000000) only[Ty.w,simprocAttr])|((first|refine a_skip ?_|refine a_exit ?_);try simp only[pst0,simprocAttr])|(refine a_cond _ (by(try simp(maxSteps:=2000000) only[Ty.w,simprocAttr]);rfl) (fun hb=>?_) (fun hb=>?_)<;>(try simp only[hb0,decide_eq_true_eq,decide_eq_false_iff_not,simprocAttr]at hb)<;>(try(exfalso;omega)))|(with_reducible refine ite_in (fun hb=>?_) (fun hb=>?_)<;>(try simp only[Decidable.not_not]at hb)<;>(try simp only[hb,if_true,if_false,not_false_eq_true,not_true_eq_false, ↓reduceIte])<;>(try simp only[hb0,decide_eq_true_eq,decide_eq_false_iff_not,simprocAttr]at hb)<;>(try(exfalso;omega)))|((first|refine hK _ _ ?_|(clear hK;refine hK _ _ ?_)|(clear hK;clear hK;refine hK _ _ ?_)|(clear hK;clear hK;clear hK;refine hK _ _ ?_));clear hK;try simp only[pst0,simprocAttr])|(rw[if_pos];rotate_left 1;omega;simp(maxSteps:=2000000) only[Ty.w,simprocAttr])));refine owp_useQ (cd) (by(try simp only[Ty.w,simprocAttr,reduceCtorEq]);try rfl) ?_;simp(maxSteps:=2000000) only[Ty.w,simprocAttr,reduceCtorEq];repeat'(first|refine a_seq fun K hK=>?_|(refine a_block ?_)|((first|refine a_regionS ?_|refine a_region (fun K hK=>?_)|refine a_ret ?_);simp(maxSteps:=2000000) only[Ty.w,simprocAttr])|((first|refine a_skip ?_|refine a_exit ?_);try simp only[pst0,simprocAttr])|(refine a_cond _ (by(try simp(maxSteps:=2000000) only[Ty.w,simprocAttr]);rfl) (fun hb=>?_) (fun hb=>?_)<;>(try simp only[hb0,decide_eq_true_eq,decide_eq_false_iff_not,simprocAttr]at hb)<;>(try(exfalso;omega)))|(with_reducible refine ite_in (fun hb=>?_) (fun hb=>?_)<;>(try simp only[Decidable.not_not]at hb)<;>(try simp only[hb,if_true,if_false,not_false_eq_true,not_true_eq_false, ↓reduceIte])<;>(try simp only[hb0,decide_eq_true_eq,decide_eq_false_iff_not,simprocAttr]at hb)<;>(try(exfalso;omega)))|((first|refine hK _ _ ?_|(clear hK;refine hK _ _ ?_)|(clear hK;clear hK;refine hK _ _ ?_)|(clear hK;clear hK;clear hK;refine hK _ _ ?_));clear hK;try simp only[pst0,simprocAttr])|(rw[if_pos];rotate_left 1;omega;simp(maxSteps:=2000000) only[Ty.w,simprocAttr]))
end Go.Proofs.YtnldekadkjdbcaaGreat
