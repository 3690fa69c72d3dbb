/- What the claim rests on, part 4: the abstract machine, contracts of the functions, plain data. -/
import Derived.Test.YtdbmemfnjnkefaaGreatProg
import Derived.Test.YtdbmemfnjnkefaaGreatZs3
set_option linter.unusedVariables false
set_option linter.unusedSimpArgs false
set_option linter.unusedSectionVars false
namespace Go.Proofs.YtdbmemfnjnkefaaGreat
open Go.AM
namespace Ty
theorem mixed:Tryz.prog.follows .mixedOrders=true:=by kernel_rfl
theorem szT_25:szT Tryz.prog 25=some 2:=by kernel_rfl
theorem aggB_25:aggB Tryz.prog 25=true:=by kernel_rfl
theorem hb_4:hasBody Tryz.prog 4=true:=by kernel_rfl
theorem hb_6:hasBody Tryz.prog 6=true:=by kernel_rfl
theorem elT_22:elT Tryz.prog 22=some (2,40):=by kernel_rfl
theorem elZ_22:elZ Tryz.prog 22=some [.string ⟨#[]⟩,.slice none 0 0]:=by kernel_rfl
theorem fldT_25_0:fldT Tryz.prog 25 0=some (0,1,false):=by kernel_rfl
theorem szT_22:szT Tryz.prog 22=some 1:=by kernel_rfl
theorem aggB_22:aggB Tryz.prog 22=false:=by kernel_rfl
theorem kT_22:kT Tryz.prog 22=5:=by kernel_rfl
theorem elT_23:elT Tryz.prog 23=some (3,48):=by kernel_rfl
theorem elZ_23:elZ Tryz.prog 23=some [.string ⟨#[]⟩,.slice none 0 0,.int .i64 0]:=by kernel_rfl
theorem fldT_25_1:fldT Tryz.prog 25 1=some (1,1,false):=by kernel_rfl
theorem szT_23:szT Tryz.prog 23=some 1:=by kernel_rfl
theorem aggB_23:aggB Tryz.prog 23=false:=by kernel_rfl
theorem kT_23:kT Tryz.prog 23=5:=by kernel_rfl
theorem kT_25:kT Tryz.prog 25=8:=by kernel_rfl
theorem zeroT_25:zeroT Tryz.prog 25=some [.slice none 0 0,.slice none 0 0]:=by kernel_rfl
theorem fieldsT_25:fieldsT Tryz.prog 25=some [(0,1),(1,1)]:=by kernel_rfl
theorem hb_7:hasBody Tryz.prog 7=true:=by kernel_rfl
theorem kT_4:kT Tryz.prog 4=1:=by kernel_rfl
theorem kT_3:kT Tryz.prog 3=2:=by kernel_rfl
theorem fldT_31_1:fldT Tryz.prog 31 1=some (1,1,false):=by kernel_rfl
theorem szT_29:szT Tryz.prog 29=some 1:=by kernel_rfl
theorem aggB_29:aggB Tryz.prog 29=false:=by kernel_rfl
theorem kT_29:kT Tryz.prog 29=5:=by kernel_rfl
theorem kT_34:kT Tryz.prog 34=8:=by kernel_rfl
theorem zeroT_34:zeroT Tryz.prog 34=some [.string ⟨#[]⟩,.slice none 0 0]:=by kernel_rfl
theorem fieldsT_34:fieldsT Tryz.prog 34=some [(0,1),(1,1)]:=by kernel_rfl
theorem elT_35:elT Tryz.prog 35=some (2,40):=by kernel_rfl
theorem elZ_35:elZ Tryz.prog 35=some [.string ⟨#[]⟩,.slice none 0 0]:=by kernel_rfl
theorem kT_44:kT Tryz.prog 44=8:=by kernel_rfl
theorem zeroT_44:zeroT Tryz.prog 44=some [.int .i64 0,.slice none 0 0,.string ⟨#[]⟩,.string ⟨#[]⟩,.slice none 0 0,.slice none 0 0,.slice none 0 0,.slice none 0 0,.string ⟨#[]⟩,.slice none 0 0,.string ⟨#[]⟩,.string ⟨#[]⟩,.int .i64 0,.slice none 0 0,.slice none 0 0]:=by kernel_rfl
theorem fieldsT_44:fieldsT Tryz.prog 44=some [(0,1),(1,1),(2,6),(8,1),(9,1),(10,5)]:=by kernel_rfl
theorem elT_45:elT Tryz.prog 45=some (15,288):=by kernel_rfl
theorem elZ_45:elZ Tryz.prog 45=some [.int .i64 0,.slice none 0 0,.string ⟨#[]⟩,.string ⟨#[]⟩,.slice none 0 0,.slice none 0 0,.slice none 0 0,.slice none 0 0,.string ⟨#[]⟩,.slice none 0 0,.string ⟨#[]⟩,.string ⟨#[]⟩,.int .i64 0,.slice none 0 0,.slice none 0 0]:=by kernel_rfl
theorem kT_47:kT Tryz.prog 47=8:=by kernel_rfl
theorem zeroT_47:zeroT Tryz.prog 47=some [.string ⟨#[]⟩,.slice none 0 0,.int .i64 0,.string ⟨#[]⟩,.string ⟨#[]⟩,.slice none 0 0,.slice none 0 0,.slice none 0 0,.slice none 0 0,.slice none 0 0]:=by kernel_rfl
theorem fieldsT_47:fieldsT Tryz.prog 47=some [(0,1),(1,1),(2,1),(3,6),(9,1)]:=by kernel_rfl
theorem elT_48:elT Tryz.prog 48=some (10,200):=by kernel_rfl
theorem elZ_48:elZ Tryz.prog 48=some [.string ⟨#[]⟩,.slice none 0 0,.int .i64 0,.string ⟨#[]⟩,.string ⟨#[]⟩,.slice none 0 0,.slice none 0 0,.slice none 0 0,.slice none 0 0,.slice none 0 0]:=by kernel_rfl
theorem kT_52:kT Tryz.prog 52=8:=by kernel_rfl
theorem zeroT_52:zeroT Tryz.prog 52=some [.string ⟨#[]⟩,.slice none 0 0,.slice none 0 0,.slice none 0 0,.slice none 0 0,.slice none 0 0,.slice none 0 0]:=by kernel_rfl
theorem fieldsT_52:fieldsT Tryz.prog 52=some [(0,1),(1,1),(2,1),(3,1),(4,1),(5,1),(6,1)]:=by kernel_rfl
theorem szT_52:szT Tryz.prog 52=some 7:=by kernel_rfl
theorem aggB_52:aggB Tryz.prog 52=true:=by kernel_rfl
theorem kT_39:kT Tryz.prog 39=8:=by kernel_rfl
theorem zeroT_39:zeroT Tryz.prog 39=some [.string ⟨#[]⟩,.string ⟨#[]⟩,.slice none 0 0,.slice none 0 0,.slice none 0 0,.slice none 0 0]:=by kernel_rfl
theorem fieldsT_39:fieldsT Tryz.prog 39=some [(0,1),(1,1),(2,1),(3,1),(4,1),(5,1)]:=by kernel_rfl
theorem kT_54:kT Tryz.prog 54=8:=by kernel_rfl
theorem zeroT_54:zeroT Tryz.prog 54=some [.string ⟨#[]⟩,.string ⟨#[]⟩,.slice none 0 0,.slice none 0 0,.slice none 0 0,.string ⟨#[]⟩,.string ⟨#[]⟩,.slice none 0 0,.slice none 0 0,.slice none 0 0,.slice none 0 0]:=by kernel_rfl
theorem fieldsT_54:fieldsT Tryz.prog 54=some [(0,1),(1,1),(2,1),(3,1),(4,1),(5,6)]:=by kernel_rfl
theorem szT_54:szT Tryz.prog 54=some 11:=by kernel_rfl
theorem aggB_54:aggB Tryz.prog 54=true:=by kernel_rfl
theorem kT_61:kT Tryz.prog 61=8:=by kernel_rfl
theorem zeroT_61:zeroT Tryz.prog 61=some [.int .i64 0,.string ⟨#[]⟩,.slice none 0 0]:=by kernel_rfl
theorem fieldsT_61:fieldsT Tryz.prog 61=some [(0,1),(1,1),(2,1)]:=by kernel_rfl
theorem kT_56:kT Tryz.prog 56=7:=by kernel_rfl
theorem szT_31:szT Tryz.prog 31=some 2:=by kernel_rfl
theorem aggB_31:aggB Tryz.prog 31=true:=by kernel_rfl
theorem hb_12:hasBody Tryz.prog 12=true:=by kernel_rfl
theorem hb_13:hasBody Tryz.prog 13=true:=by kernel_rfl
theorem hb_14:hasBody Tryz.prog 14=true:=by kernel_rfl
theorem hb_15:hasBody Tryz.prog 15=true:=by kernel_rfl
theorem szT_39:szT Tryz.prog 39=some 6:=by kernel_rfl
theorem aggB_39:aggB Tryz.prog 39=true:=by kernel_rfl
theorem fldT_54_3:fldT Tryz.prog 54 3=some (3,1,false):=by kernel_rfl
theorem fldT_54_4:fldT Tryz.prog 54 4=some (4,1,false):=by kernel_rfl
theorem szT_61:szT Tryz.prog 61=some 3:=by kernel_rfl
theorem aggB_61:aggB Tryz.prog 61=true:=by kernel_rfl
theorem szT_47:szT Tryz.prog 47=some 10:=by kernel_rfl
theorem aggB_47:aggB Tryz.prog 47=true:=by kernel_rfl
theorem fldT_61_2:fldT Tryz.prog 61 2=some (2,1,false):=by kernel_rfl
theorem zeroT_31:zeroT Tryz.prog 31=some [.string ⟨#[]⟩,.slice none 0 0]:=by kernel_rfl
theorem fldT_54_5:fldT Tryz.prog 54 5=some (5,6,true):=by kernel_rfl
theorem hb_23:hasBody Tryz.prog 23=true:=by kernel_rfl
theorem fldT_79_1:fldT Tryz.prog 79 1=some (2,1,false):=by kernel_rfl
theorem szT_3:szT Tryz.prog 3=some 1:=by kernel_rfl
theorem aggB_3:aggB Tryz.prog 3=false:=by kernel_rfl
theorem fldT_79_0:fldT Tryz.prog 79 0=some (0,2,true):=by kernel_rfl
theorem hb_24:hasBody Tryz.prog 24=true:=by kernel_rfl
theorem hb_28:hasBody Tryz.prog 28=true:=by kernel_rfl
theorem kT_92:kT Tryz.prog 92=8:=by kernel_rfl
theorem zeroT_92:zeroT Tryz.prog 92=some [.string ⟨#[]⟩,.slice none 0 0,.slice none 0 0,.slice none 0 0,.slice none 0 0,.slice none 0 0,.slice none 0 0,.string ⟨#[]⟩,.string ⟨#[]⟩,.slice none 0 0,.slice none 0 0,.slice none 0 0,.string ⟨#[]⟩,.string ⟨#[]⟩,.slice none 0 0,.slice none 0 0,.slice none 0 0,.slice none 0 0,.pointer none,.slice none 0 0]:=by kernel_rfl
theorem fieldsT_92:fieldsT Tryz.prog 92=some [(0,7),(7,11),(18,1),(19,1)]:=by kernel_rfl
theorem szT_79:szT Tryz.prog 79=some 3:=by kernel_rfl
theorem aggB_79:aggB Tryz.prog 79=true:=by kernel_rfl
theorem zeroT_79:zeroT Tryz.prog 79=some [.string ⟨#[]⟩,.slice none 0 0,.int .i64 0]:=by kernel_rfl
theorem kT_79:kT Tryz.prog 79=8:=by kernel_rfl
theorem fieldsT_79:fieldsT Tryz.prog 79=some [(0,2),(2,1)]:=by kernel_rfl
theorem fldT_47_3:fldT Tryz.prog 47 3=some (3,6,true):=by kernel_rfl
theorem fldT_47_1:fldT Tryz.prog 47 1=some (1,1,false):=by kernel_rfl
theorem szT_32:szT Tryz.prog 32=some 1:=by kernel_rfl
theorem aggB_32:aggB Tryz.prog 32=false:=by kernel_rfl
theorem kT_101:kT Tryz.prog 101=2:=by kernel_rfl
theorem fldT_47_4:fldT Tryz.prog 47 4=some (9,1,false):=by kernel_rfl
theorem szT_45:szT Tryz.prog 45=some 1:=by kernel_rfl
theorem aggB_45:aggB Tryz.prog 45=false:=by kernel_rfl
theorem kT_45:kT Tryz.prog 45=5:=by kernel_rfl
theorem szT_44:szT Tryz.prog 44=some 15:=by kernel_rfl
theorem aggB_44:aggB Tryz.prog 44=true:=by kernel_rfl
theorem fldT_44_0:fldT Tryz.prog 44 0=some (0,1,false):=by kernel_rfl
theorem fldT_44_2:fldT Tryz.prog 44 2=some (2,6,true):=by kernel_rfl
theorem fldT_44_1:fldT Tryz.prog 44 1=some (1,1,false):=by kernel_rfl
theorem kT_104:kT Tryz.prog 104=5:=by kernel_rfl
theorem elT_104:elT Tryz.prog 104=some (1,24):=by kernel_rfl
theorem elT_29:elT Tryz.prog 29=some (1,16):=by kernel_rfl
theorem fldT_44_3:fldT Tryz.prog 44 3=some (8,1,false):=by kernel_rfl
theorem szT_9:szT Tryz.prog 9=some 1:=by kernel_rfl
theorem aggB_9:aggB Tryz.prog 9=false:=by kernel_rfl
theorem fldT_44_4:fldT Tryz.prog 44 4=some (9,1,false):=by kernel_rfl
theorem kT_31:kT Tryz.prog 31=8:=by kernel_rfl
theorem fieldsT_31:fieldsT Tryz.prog 31=some [(0,1),(1,1)]:=by kernel_rfl
theorem fldT_39_0:fldT Tryz.prog 39 0=some (0,1,false):=by kernel_rfl
theorem kT_9:kT Tryz.prog 9=3:=by kernel_rfl
theorem fldT_39_1:fldT Tryz.prog 39 1=some (1,1,false):=by kernel_rfl
theorem fldT_39_2:fldT Tryz.prog 39 2=some (2,1,false):=by kernel_rfl
theorem szT_67:szT Tryz.prog 67=some 1:=by kernel_rfl
theorem aggB_67:aggB Tryz.prog 67=false:=by kernel_rfl
theorem fldT_39_5:fldT Tryz.prog 39 5=some (5,1,false):=by kernel_rfl
theorem szT_37:szT Tryz.prog 37=some 1:=by kernel_rfl
theorem aggB_37:aggB Tryz.prog 37=false:=by kernel_rfl
theorem kT_37:kT Tryz.prog 37=5:=by kernel_rfl
theorem elT_37:elT Tryz.prog 37=some (6,128):=by kernel_rfl
theorem fldT_39_4:fldT Tryz.prog 39 4=some (4,1,false):=by kernel_rfl
theorem szT_36:szT Tryz.prog 36=some 1:=by kernel_rfl
theorem aggB_36:aggB Tryz.prog 36=false:=by kernel_rfl
theorem kT_36:kT Tryz.prog 36=5:=by kernel_rfl
theorem elT_36:elT Tryz.prog 36=some (5,88):=by kernel_rfl
theorem szT_42:szT Tryz.prog 42=some 5:=by kernel_rfl
theorem aggB_42:aggB Tryz.prog 42=true:=by kernel_rfl
theorem zeroT_42:zeroT Tryz.prog 42=some [.string ⟨#[]⟩,.string ⟨#[]⟩,.int .i64 0,.slice none 0 0,.slice none 0 0]:=by kernel_rfl
theorem elZ_36:elZ Tryz.prog 36=some [.string ⟨#[]⟩,.string ⟨#[]⟩,.int .i64 0,.slice none 0 0,.slice none 0 0]:=by kernel_rfl
theorem fldT_31_0:fldT Tryz.prog 31 0=some (0,1,false):=by kernel_rfl
theorem hb_56:hasBody Tryz.prog 56=true:=by kernel_rfl
theorem hb_27:hasBody Tryz.prog 27=true:=by kernel_rfl
theorem hb_57:hasBody Tryz.prog 57=true:=by kernel_rfl
theorem hb_58:hasBody Tryz.prog 58=true:=by kernel_rfl
theorem zeroT_119:zeroT Tryz.prog 119=some [.int .i64 0,.int .i64 0,.int .i64 0,.int .i64 0,.string ⟨#[]⟩,.slice none 0 0]:=by kernel_rfl
theorem szT_119:szT Tryz.prog 119=some 6:=by kernel_rfl
theorem aggB_119:aggB Tryz.prog 119=true:=by kernel_rfl
theorem kT_128:kT Tryz.prog 128=8:=by kernel_rfl
theorem zeroT_128:zeroT Tryz.prog 128=some [.string ⟨#[]⟩,.slice none 0 0,.slice none 0 0,.slice none 0 0,.slice none 0 0,.slice none 0 0,.slice none 0 0,.string ⟨#[]⟩,.string ⟨#[]⟩,.slice none 0 0,.slice none 0 0,.slice none 0 0,.string ⟨#[]⟩,.string ⟨#[]⟩,.slice none 0 0,.slice none 0 0,.slice none 0 0,.slice none 0 0,.pointer none,.map none,.map none,.map none,.slice none 0 0]:=by kernel_rfl
theorem fieldsT_128:fieldsT Tryz.prog 128=some [(0,7),(7,11),(18,1),(19,1),(20,1),(21,1),(22,1)]:=by kernel_rfl
theorem fldT_128_2:fldT Tryz.prog 128 2=some (18,1,false):=by kernel_rfl
theorem szT_87:szT Tryz.prog 87=some 1:=by kernel_rfl
theorem aggB_87:aggB Tryz.prog 87=false:=by kernel_rfl
theorem elT_129:elT Tryz.prog 129=some (1,8):=by kernel_rfl
theorem elZ_129:elZ Tryz.prog 129=some [.int .i64 0]:=by kernel_rfl
theorem kT_129:kT Tryz.prog 129=5:=by kernel_rfl
theorem fldT_52_1:fldT Tryz.prog 52 1=some (1,1,false):=by kernel_rfl
theorem fldT_52_2:fldT Tryz.prog 52 2=some (2,1,false):=by kernel_rfl
theorem fldT_54_2:fldT Tryz.prog 54 2=some (2,1,false):=by kernel_rfl
theorem elT_32:elT Tryz.prog 32=some (2,32):=by kernel_rfl
theorem kT_32:kT Tryz.prog 32=5:=by kernel_rfl
theorem intT_3:intT Tryz.prog 3=some .i64:=by kernel_rfl
theorem intT_138:intT Tryz.prog 138=some .u64:=by kernel_rfl
theorem kT_138:kT Tryz.prog 138=2:=by kernel_rfl
theorem fldT_92_0:fldT Tryz.prog 92 0=some (0,7,true):=by kernel_rfl
theorem fldT_52_5:fldT Tryz.prog 52 5=some (5,1,false):=by kernel_rfl
theorem szT_48:szT Tryz.prog 48=some 1:=by kernel_rfl
theorem aggB_48:aggB Tryz.prog 48=false:=by kernel_rfl
theorem kT_48:kT Tryz.prog 48=5:=by kernel_rfl
theorem zeroT_9:zeroT Tryz.prog 9=some [.string ⟨#[]⟩]:=by kernel_rfl
theorem fldT_92_3:fldT Tryz.prog 92 3=some (19,1,false):=by kernel_rfl
theorem fldT_135_1:fldT Tryz.prog 135 1=some (1,1,false):=by kernel_rfl
theorem hb_75:hasBody Tryz.prog 75=true:=by kernel_rfl
theorem szT_135:szT Tryz.prog 135=some 2:=by kernel_rfl
theorem aggB_135:aggB Tryz.prog 135=true:=by kernel_rfl
theorem zeroT_135:zeroT Tryz.prog 135=some [.string ⟨#[]⟩,.string ⟨#[]⟩]:=by kernel_rfl
theorem fldT_135_0:fldT Tryz.prog 135 0=some (0,1,false):=by kernel_rfl
theorem elZ_29:elZ Tryz.prog 29=some [.string ⟨#[]⟩]:=by kernel_rfl
theorem fldT_44_5:fldT Tryz.prog 44 5=some (10,5,true):=by kernel_rfl
theorem fldT_52_4:fldT Tryz.prog 52 4=some (4,1,false):=by kernel_rfl
theorem szT_49:szT Tryz.prog 49=some 1:=by kernel_rfl
theorem aggB_49:aggB Tryz.prog 49=false:=by kernel_rfl
theorem kT_49:kT Tryz.prog 49=5:=by kernel_rfl
theorem elT_49:elT Tryz.prog 49=some (4,56):=by kernel_rfl
theorem fldT_156_2:fldT Tryz.prog 156 2=some (2,1,false):=by kernel_rfl
theorem fldT_156_3:fldT Tryz.prog 156 3=some (3,1,false):=by kernel_rfl
theorem elZ_104:elZ Tryz.prog 104=some [.slice none 0 0]:=by kernel_rfl
theorem hb_85:hasBody Tryz.prog 85=true:=by kernel_rfl
theorem fldT_39_3:fldT Tryz.prog 39 3=some (3,1,false):=by kernel_rfl
theorem fldT_42_3:fldT Tryz.prog 42 3=some (3,1,false):=by kernel_rfl
theorem fldT_42_4:fldT Tryz.prog 42 4=some (4,1,false):=by kernel_rfl
theorem kT_163:kT Tryz.prog 163=8:=by kernel_rfl
theorem zeroT_163:zeroT Tryz.prog 163=some [.int .i64 0]:=by kernel_rfl
theorem fieldsT_163:fieldsT Tryz.prog 163=some [(0,1)]:=by kernel_rfl
theorem hb_88:hasBody Tryz.prog 88=true:=by kernel_rfl
theorem elZ_37:elZ Tryz.prog 37=some [.string ⟨#[]⟩,.string ⟨#[]⟩,.slice none 0 0,.slice none 0 0,.slice none 0 0,.slice none 0 0]:=by kernel_rfl
theorem kT_171:kT Tryz.prog 171=8:=by kernel_rfl
theorem zeroT_171:zeroT Tryz.prog 171=some [.bool false]:=by kernel_rfl
theorem fieldsT_171:fieldsT Tryz.prog 171=some [(0,1)]:=by kernel_rfl
theorem fldT_52_0:fldT Tryz.prog 52 0=some (0,1,false):=by kernel_rfl
theorem elT_117:elT Tryz.prog 117=some (6,72):=by kernel_rfl
theorem elZ_117:elZ Tryz.prog 117=some [.int .i64 0,.int .i64 0,.int .i64 0,.int .i64 0,.string ⟨#[]⟩,.slice none 0 0]:=by kernel_rfl
theorem fldT_52_3:fldT Tryz.prog 52 3=some (3,1,false):=by kernel_rfl
theorem szT_35:szT Tryz.prog 35=some 1:=by kernel_rfl
theorem aggB_35:aggB Tryz.prog 35=false:=by kernel_rfl
theorem kT_35:kT Tryz.prog 35=5:=by kernel_rfl
theorem szT_34:szT Tryz.prog 34=some 2:=by kernel_rfl
theorem aggB_34:aggB Tryz.prog 34=true:=by kernel_rfl
theorem fldT_34_0:fldT Tryz.prog 34 0=some (0,1,false):=by kernel_rfl
theorem fldT_34_1:fldT Tryz.prog 34 1=some (1,1,false):=by kernel_rfl
theorem kT_117:kT Tryz.prog 117=5:=by kernel_rfl
theorem szT_156:szT Tryz.prog 156=some 4:=by kernel_rfl
theorem aggB_156:aggB Tryz.prog 156=true:=by kernel_rfl
theorem zeroT_156:zeroT Tryz.prog 156=some [.string ⟨#[]⟩,.slice none 0 0,.int .i64 0,.int .i64 0]:=by kernel_rfl
theorem fldT_156_0:fldT Tryz.prog 156 0=some (0,1,false):=by kernel_rfl
theorem fldT_156_1:fldT Tryz.prog 156 1=some (1,1,false):=by kernel_rfl
theorem fldT_119_5:fldT Tryz.prog 119 5=some (5,1,false):=by kernel_rfl
theorem szT_117:szT Tryz.prog 117=some 1:=by kernel_rfl
theorem aggB_117:aggB Tryz.prog 117=false:=by kernel_rfl
theorem fldT_52_6:fldT Tryz.prog 52 6=some (6,1,false):=by kernel_rfl
theorem szT_50:szT Tryz.prog 50=some 1:=by kernel_rfl
theorem aggB_50:aggB Tryz.prog 50=false:=by kernel_rfl
theorem kT_50:kT Tryz.prog 50=5:=by kernel_rfl
theorem elT_50:elT Tryz.prog 50=some (23,480):=by kernel_rfl
theorem szT_180:szT Tryz.prog 180=some 23:=by kernel_rfl
theorem aggB_180:aggB Tryz.prog 180=true:=by kernel_rfl
theorem zeroT_180:zeroT Tryz.prog 180=some [.string ⟨#[]⟩,.slice none 0 0,.int .i64 0,.string ⟨#[]⟩,.string ⟨#[]⟩,.slice none 0 0,.slice none 0 0,.slice none 0 0,.slice none 0 0,.string ⟨#[]⟩,.string ⟨#[]⟩,.slice none 0 0,.slice none 0 0,.slice none 0 0,.slice none 0 0,.string ⟨#[]⟩,.string ⟨#[]⟩,.slice none 0 0,.slice none 0 0,.slice none 0 0,.slice none 0 0,.slice none 0 0,.slice none 0 0]:=by kernel_rfl
theorem fldT_171_0:fldT Tryz.prog 171 0=some (0,1,false):=by kernel_rfl
theorem szT_4:szT Tryz.prog 4=some 1:=by kernel_rfl
theorem aggB_4:aggB Tryz.prog 4=false:=by kernel_rfl
theorem kT_119:kT Tryz.prog 119=8:=by kernel_rfl
theorem fieldsT_119:fieldsT Tryz.prog 119=some [(0,1),(1,1),(2,1),(3,1),(4,1),(5,1)]:=by kernel_rfl
theorem fldT_54_0:fldT Tryz.prog 54 0=some (0,1,false):=by kernel_rfl
theorem fldT_54_1:fldT Tryz.prog 54 1=some (1,1,false):=by kernel_rfl
theorem fldT_128_0:fldT Tryz.prog 128 0=some (0,7,true):=by kernel_rfl
theorem fldT_128_6:fldT Tryz.prog 128 6=some (22,1,false):=by kernel_rfl
theorem zeroT_186:zeroT Tryz.prog 186=some [.nilFunc]:=by kernel_rfl
theorem szT_186:szT Tryz.prog 186=some 1:=by kernel_rfl
theorem aggB_186:aggB Tryz.prog 186=false:=by kernel_rfl
theorem fldT_128_1:fldT Tryz.prog 128 1=some (7,11,true):=by kernel_rfl
theorem kT_200:kT Tryz.prog 200=8:=by kernel_rfl
theorem zeroT_200:zeroT Tryz.prog 200=some [.map none]:=by kernel_rfl
theorem fieldsT_200:fieldsT Tryz.prog 200=some [(0,1)]:=by kernel_rfl
theorem fldT_200_0:fldT Tryz.prog 200 0=some (0,1,false):=by kernel_rfl
theorem szT_126:szT Tryz.prog 126=some 1:=by kernel_rfl
theorem aggB_126:aggB Tryz.prog 126=false:=by kernel_rfl
theorem mapT_126:mapT Tryz.prog 126=some (3,(.string ⟨#[]⟩)):=by kernel_rfl
theorem elZ_32:elZ Tryz.prog 32=some [.string ⟨#[]⟩,.string ⟨#[]⟩]:=by kernel_rfl
theorem kT_203:kT Tryz.prog 203=2:=by kernel_rfl
theorem intT_210:intT Tryz.prog 210=some .u32:=by kernel_rfl
theorem kT_210:kT Tryz.prog 210=2:=by kernel_rfl
theorem fldT_47_0:fldT Tryz.prog 47 0=some (0,1,false):=by kernel_rfl
theorem fldT_61_1:fldT Tryz.prog 61 1=some (1,1,false):=by kernel_rfl
theorem fldT_92_2:fldT Tryz.prog 92 2=some (18,1,false):=by kernel_rfl
theorem fldT_42_0:fldT Tryz.prog 42 0=some (0,1,false):=by kernel_rfl
theorem fldT_42_2:fldT Tryz.prog 42 2=some (2,1,false):=by kernel_rfl
theorem fldT_42_1:fldT Tryz.prog 42 1=some (1,1,false):=by kernel_rfl
theorem hb_155:hasBody Tryz.prog 155=true:=by kernel_rfl
theorem hb_159:hasBody Tryz.prog 159=true:=by kernel_rfl
theorem zeroT_3:zeroT Tryz.prog 3=some [.int .i64 0]:=by kernel_rfl
theorem hb_162:hasBody Tryz.prog 162=true:=by kernel_rfl
theorem fldT_47_2:fldT Tryz.prog 47 2=some (2,1,false):=by kernel_rfl
theorem fldT_180_0:fldT Tryz.prog 180 0=some (0,1,false):=by kernel_rfl
theorem fldT_180_1:fldT Tryz.prog 180 1=some (1,1,false):=by kernel_rfl
theorem fldT_180_2:fldT Tryz.prog 180 2=some (2,1,false):=by kernel_rfl
theorem fldT_180_3:fldT Tryz.prog 180 3=some (3,6,true):=by kernel_rfl
theorem fldT_180_4:fldT Tryz.prog 180 4=some (9,6,true):=by kernel_rfl
theorem fldT_180_5:fldT Tryz.prog 180 5=some (15,6,true):=by kernel_rfl
theorem fldT_180_6:fldT Tryz.prog 180 6=some (21,1,false):=by kernel_rfl
theorem fldT_180_7:fldT Tryz.prog 180 7=some (22,1,false):=by kernel_rfl
theorem zeroT_240:zeroT Tryz.prog 240=some [.slice none 0 0,.slice none 0 0,.slice none 0 0]:=by kernel_rfl
theorem kT_240:kT Tryz.prog 240=9:=by kernel_rfl
theorem arT_240:arT Tryz.prog 240=some (3,1):=by kernel_rfl
theorem szT_239:szT Tryz.prog 239=some 1:=by kernel_rfl
theorem aggB_239:aggB Tryz.prog 239=false:=by kernel_rfl
theorem kT_242:kT Tryz.prog 242=8:=by kernel_rfl
theorem zeroT_242:zeroT Tryz.prog 242=some [.string ⟨#[]⟩,.string ⟨#[]⟩]:=by kernel_rfl
theorem fieldsT_242:fieldsT Tryz.prog 242=some [(0,1),(1,1)]:=by kernel_rfl
theorem elT_239:elT Tryz.prog 239=some (2,32):=by kernel_rfl
theorem elZ_239:elZ Tryz.prog 239=some [.string ⟨#[]⟩,.string ⟨#[]⟩]:=by kernel_rfl
theorem kT_239:kT Tryz.prog 239=5:=by kernel_rfl
theorem szT_240:szT Tryz.prog 240=some 3:=by kernel_rfl
theorem aggB_240:aggB Tryz.prog 240=true:=by kernel_rfl
theorem mapT_244:mapT Tryz.prog 244=some (3,(.bool false)):=by kernel_rfl
theorem fldT_128_3:fldT Tryz.prog 128 3=some (19,1,false):=by kernel_rfl
theorem szT_124:szT Tryz.prog 124=some 1:=by kernel_rfl
theorem aggB_124:aggB Tryz.prog 124=false:=by kernel_rfl
theorem fldT_128_4:fldT Tryz.prog 128 4=some (20,1,false):=by kernel_rfl
theorem szT_125:szT Tryz.prog 125=some 1:=by kernel_rfl
theorem aggB_125:aggB Tryz.prog 125=false:=by kernel_rfl
theorem fldT_128_5:fldT Tryz.prog 128 5=some (21,1,false):=by kernel_rfl
theorem mapT_124:mapT Tryz.prog 124=some (3,(.slice none 0 0)):=by kernel_rfl
theorem mapT_125:mapT Tryz.prog 125=some (3,(.agg #[.string ⟨#[]⟩,.slice none 0 0,.int .i64 0,.int .i64 0])):=by kernel_rfl
theorem elT_247:elT Tryz.prog 247=some (1,24):=by kernel_rfl
theorem elZ_247:elZ Tryz.prog 247=some [.slice none 0 0]:=by kernel_rfl
theorem kT_247:kT Tryz.prog 247=5:=by kernel_rfl
theorem kT_5:kT Tryz.prog 5=2:=by kernel_rfl
theorem kT_87:kT Tryz.prog 87=4:=by kernel_rfl
theorem kT_126:kT Tryz.prog 126=6:=by kernel_rfl
theorem intT_252:intT Tryz.prog 252=some .u64:=by kernel_rfl
theorem kT_252:kT Tryz.prog 252=2:=by kernel_rfl
theorem zeroT_252:zeroT Tryz.prog 252=some [.int .u64 0]:=by kernel_rfl
theorem szT_252:szT Tryz.prog 252=some 1:=by kernel_rfl
theorem aggB_252:aggB Tryz.prog 252=false:=by kernel_rfl
theorem intT_5:intT Tryz.prog 5=some .u8:=by kernel_rfl
theorem kT_212:kT Tryz.prog 212=2:=by kernel_rfl
theorem intT_212:intT Tryz.prog 212=some .u64:=by kernel_rfl
theorem fldT_163_0:fldT Tryz.prog 163 0=some (0,1,false):=by kernel_rfl
theorem hb_202:hasBody Tryz.prog 202=true:=by kernel_rfl
theorem fldT_119_0:fldT Tryz.prog 119 0=some (0,1,false):=by kernel_rfl
theorem fldT_119_4:fldT Tryz.prog 119 4=some (4,1,false):=by kernel_rfl
theorem hb_205:hasBody Tryz.prog 205=true:=by kernel_rfl
theorem hb_206:hasBody Tryz.prog 206=true:=by kernel_rfl
theorem fldT_119_1:fldT Tryz.prog 119 1=some (1,1,false):=by kernel_rfl
theorem szT_242:szT Tryz.prog 242=some 2:=by kernel_rfl
theorem aggB_242:aggB Tryz.prog 242=true:=by kernel_rfl
theorem fldT_242_0:fldT Tryz.prog 242 0=some (0,1,false):=by kernel_rfl
theorem fldT_242_1:fldT Tryz.prog 242 1=some (1,1,false):=by kernel_rfl
theorem intT_9:intT Tryz.prog 9=none:=by kernel_rfl
theorem intT_280:intT Tryz.prog 280=none:=by kernel_rfl
theorem kT_280:kT Tryz.prog 280=5:=by kernel_rfl
theorem u8T_280:u8T Tryz.prog 280=true:=by kernel_rfl
theorem elT_280:elT Tryz.prog 280=some (1,1):=by kernel_rfl
theorem szT_5:szT Tryz.prog 5=some 1:=by kernel_rfl
theorem aggB_5:aggB Tryz.prog 5=false:=by kernel_rfl
theorem hb_224:hasBody Tryz.prog 224=true:=by kernel_rfl
theorem hb_225:hasBody Tryz.prog 225=true:=by kernel_rfl
theorem hb_226:hasBody Tryz.prog 226=true:=by kernel_rfl
theorem kT_135:kT Tryz.prog 135=8:=by kernel_rfl
theorem strsT_135:strsT Tryz.prog 135=some 2:=by kernel_rfl
theorem kT_42:kT Tryz.prog 42=8:=by kernel_rfl
theorem fieldsT_42:fieldsT Tryz.prog 42=some [(0,1),(1,1),(2,1),(3,1),(4,1)]:=by kernel_rfl
theorem zeroT_286:zeroT Tryz.prog 286=some [.pointer none,.slice none 0 0]:=by kernel_rfl
theorem hb_237:hasBody Tryz.prog 237=true:=by kernel_rfl
theorem hb_238:hasBody Tryz.prog 238=true:=by kernel_rfl
theorem hb_241:hasBody Tryz.prog 241=true:=by kernel_rfl
theorem fldT_286_1:fldT Tryz.prog 286 1=some (1,1,false):=by kernel_rfl
theorem szT_280:szT Tryz.prog 280=some 1:=by kernel_rfl
theorem aggB_280:aggB Tryz.prog 280=false:=by kernel_rfl
theorem fldT_286_0:fldT Tryz.prog 286 0=some (0,1,false):=by kernel_rfl
theorem szT_284:szT Tryz.prog 284=some 1:=by kernel_rfl
theorem aggB_284:aggB Tryz.prog 284=false:=by kernel_rfl
theorem kT_284:kT Tryz.prog 284=4:=by kernel_rfl
theorem intT_284:intT Tryz.prog 284=none:=by kernel_rfl
theorem intT_293:intT Tryz.prog 293=none:=by kernel_rfl
theorem kT_293:kT Tryz.prog 293=11:=by kernel_rfl
theorem hb_3:hasBody Tryz.prog 3=true:=by kernel_rfl
theorem hb_25:hasBody Tryz.prog 25=true:=by kernel_rfl
theorem hb_26:hasBody Tryz.prog 26=true:=by kernel_rfl
theorem hb_29:hasBody Tryz.prog 29=true:=by kernel_rfl
theorem hb_30:hasBody Tryz.prog 30=true:=by kernel_rfl
set_option maxRecDepth 20000
theorem all:type_of% (And.intro szT_25 (And.intro aggB_25 (And.intro elT_22 (And.intro elZ_22 (And.intro fldT_25_0 (And.intro szT_22 (And.intro aggB_22 (And.intro kT_22 (And.intro elT_23 (And.intro elZ_23 (And.intro fldT_25_1 (And.intro szT_23 (And.intro aggB_23 (And.intro kT_23 (And.intro kT_25 (And.intro zeroT_25 (And.intro fieldsT_25 (And.intro kT_4 (And.intro kT_3 (And.intro fldT_31_1 (And.intro szT_29 (And.intro aggB_29 (And.intro kT_29 (And.intro kT_34 (And.intro zeroT_34 (And.intro fieldsT_34 (And.intro elT_35 (And.intro elZ_35 (And.intro kT_44 (And.intro zeroT_44 (And.intro fieldsT_44 (And.intro elT_45 (And.intro elZ_45 (And.intro kT_47 (And.intro zeroT_47 (And.intro fieldsT_47 (And.intro elT_48 (And.intro elZ_48 (And.intro kT_52 (And.intro zeroT_52 (And.intro fieldsT_52 (And.intro szT_52 (And.intro aggB_52 (And.intro kT_39 (And.intro zeroT_39 (And.intro fieldsT_39 (And.intro kT_54 (And.intro zeroT_54 (And.intro fieldsT_54 (And.intro szT_54 (And.intro aggB_54 (And.intro kT_61 (And.intro zeroT_61 (And.intro fieldsT_61 (And.intro kT_56 (And.intro szT_31 (And.intro aggB_31 (And.intro szT_39 (And.intro aggB_39 (And.intro fldT_54_3 (And.intro fldT_54_4 (And.intro szT_61 (And.intro aggB_61 (And.intro szT_47 (And.intro aggB_47 (And.intro fldT_61_2 (And.intro zeroT_31 (And.intro fldT_54_5 (And.intro fldT_79_1 (And.intro szT_3 (And.intro aggB_3 (And.intro fldT_79_0 (And.intro kT_92 (And.intro zeroT_92 (And.intro fieldsT_92 (And.intro szT_79 (And.intro aggB_79 (And.intro zeroT_79 (And.intro kT_79 (And.intro fieldsT_79 (And.intro fldT_47_3 (And.intro fldT_47_1 (And.intro szT_32 (And.intro aggB_32 (And.intro kT_101 (And.intro fldT_47_4 (And.intro szT_45 (And.intro aggB_45 (And.intro kT_45 (And.intro szT_44 (And.intro aggB_44 (And.intro fldT_44_0 (And.intro fldT_44_2 (And.intro fldT_44_1 (And.intro kT_104 (And.intro elT_104 (And.intro elT_29 (And.intro fldT_44_3 (And.intro szT_9 (And.intro aggB_9 (And.intro fldT_44_4 (And.intro kT_31 (And.intro fieldsT_31 (And.intro fldT_39_0 (And.intro kT_9 (And.intro fldT_39_1 (And.intro fldT_39_2 (And.intro szT_67 (And.intro aggB_67 (And.intro fldT_39_5 (And.intro szT_37 (And.intro aggB_37 (And.intro kT_37 (And.intro elT_37 (And.intro fldT_39_4 (And.intro szT_36 (And.intro aggB_36 (And.intro kT_36 (And.intro elT_36 (And.intro szT_42 (And.intro aggB_42 (And.intro zeroT_42 (And.intro elZ_36 (And.intro fldT_31_0 (And.intro zeroT_119 (And.intro szT_119 (And.intro aggB_119 (And.intro kT_128 (And.intro zeroT_128 (And.intro fieldsT_128 (And.intro fldT_128_2 (And.intro szT_87 (And.intro aggB_87 (And.intro elT_129 (And.intro elZ_129 (And.intro kT_129 (And.intro fldT_52_1 (And.intro fldT_52_2 (And.intro fldT_54_2 (And.intro elT_32 (And.intro kT_32 (And.intro intT_3 (And.intro intT_138 (And.intro kT_138 (And.intro fldT_92_0 (And.intro fldT_52_5 (And.intro szT_48 (And.intro aggB_48 (And.intro kT_48 (And.intro zeroT_9 (And.intro fldT_92_3 (And.intro fldT_135_1 (And.intro szT_135 (And.intro aggB_135 (And.intro zeroT_135 (And.intro fldT_135_0 (And.intro elZ_29 (And.intro fldT_44_5 (And.intro fldT_52_4 (And.intro szT_49 (And.intro aggB_49 (And.intro kT_49 (And.intro elT_49 (And.intro fldT_156_2 (And.intro fldT_156_3 (And.intro elZ_104 (And.intro fldT_39_3 (And.intro fldT_42_3 (And.intro fldT_42_4 (And.intro kT_163 (And.intro zeroT_163 (And.intro fieldsT_163 (And.intro elZ_37 (And.intro kT_171 (And.intro zeroT_171 (And.intro fieldsT_171 (And.intro fldT_52_0 (And.intro elT_117 (And.intro elZ_117 (And.intro fldT_52_3 (And.intro szT_35 (And.intro aggB_35 (And.intro kT_35 (And.intro szT_34 (And.intro aggB_34 (And.intro fldT_34_0 (And.intro fldT_34_1 (And.intro kT_117 (And.intro szT_156 (And.intro aggB_156 (And.intro zeroT_156 (And.intro fldT_156_0 (And.intro fldT_156_1 (And.intro fldT_119_5 (And.intro szT_117 (And.intro aggB_117 (And.intro fldT_52_6 (And.intro szT_50 (And.intro aggB_50 (And.intro kT_50 (And.intro elT_50 (And.intro szT_180 (And.intro aggB_180 (And.intro zeroT_180 (And.intro fldT_171_0 (And.intro szT_4 (And.intro aggB_4 (And.intro kT_119 (And.intro fieldsT_119 (And.intro fldT_54_0 (And.intro fldT_54_1 (And.intro fldT_128_0 (And.intro fldT_128_6 (And.intro zeroT_186 (And.intro szT_186 (And.intro aggB_186 (And.intro fldT_128_1 (And.intro kT_200 (And.intro zeroT_200 (And.intro fieldsT_200 (And.intro fldT_200_0 (And.intro szT_126 (And.intro aggB_126 (And.intro mapT_126 (And.intro elZ_32 (And.intro kT_203 (And.intro intT_210 (And.intro kT_210 (And.intro fldT_47_0 (And.intro fldT_61_1 (And.intro fldT_92_2 (And.intro fldT_42_0 (And.intro fldT_42_2 (And.intro fldT_42_1 (And.intro zeroT_3 (And.intro fldT_47_2 (And.intro fldT_180_0 (And.intro fldT_180_1 (And.intro fldT_180_2 (And.intro fldT_180_3 (And.intro fldT_180_4 (And.intro fldT_180_5 (And.intro fldT_180_6 (And.intro fldT_180_7 (And.intro zeroT_240 (And.intro kT_240 (And.intro arT_240 (And.intro szT_239 (And.intro aggB_239 (And.intro kT_242 (And.intro zeroT_242 (And.intro fieldsT_242 (And.intro elT_239 (And.intro elZ_239 (And.intro kT_239 (And.intro szT_240 (And.intro aggB_240 (And.intro mapT_244 (And.intro fldT_128_3 (And.intro szT_124 (And.intro aggB_124 (And.intro fldT_128_4 (And.intro szT_125 (And.intro aggB_125 (And.intro fldT_128_5 (And.intro mapT_124 (And.intro mapT_125 (And.intro elT_247 (And.intro elZ_247 (And.intro kT_247 (And.intro kT_5 (And.intro kT_87 (And.intro kT_126 (And.intro intT_252 (And.intro kT_252 (And.intro zeroT_252 (And.intro szT_252 (And.intro aggB_252 (And.intro intT_5 (And.intro kT_212 (And.intro intT_212 (And.intro fldT_163_0 (And.intro fldT_119_0 (And.intro fldT_119_4 (And.intro fldT_119_1 (And.intro szT_242 (And.intro aggB_242 (And.intro fldT_242_0 (And.intro fldT_242_1 (And.intro intT_9 (And.intro intT_280 (And.intro kT_280 (And.intro u8T_280 (And.intro elT_280 (And.intro szT_5 (And.intro aggB_5 (And.intro kT_135 (And.intro strsT_135 (And.intro kT_42 (And.intro fieldsT_42 (And.intro zeroT_286 (And.intro fldT_286_1 (And.intro szT_280 (And.intro aggB_280 (And.intro fldT_286_0 (And.intro szT_284 (And.intro aggB_284 (And.intro kT_284 (And.intro intT_284 (And.intro intT_293 (kT_293))))))))))))))))))))))))))))))))))))))))))))))))))))))))))))))))))))))))))))))))))))))))))))))))))))))))))))))))))))))))))))))))))))))))))))))))))))))))))))))))))))))))))))))))))))))))))))))))))))))))))))))))))))))))))))))))))))))))))))))))))))))))))))))))))))))))))))))))))))))))))))))))))))))))))))))))))))))):=And.intro szT_25 (And.intro aggB_25 (And.intro elT_22 (And.intro elZ_22 (And.intro fldT_25_0 (And.intro szT_22 (And.intro aggB_22 (And.intro kT_22 (And.intro elT_23 (And.intro elZ_23 (And.intro fldT_25_1 (And.intro szT_23 (And.intro aggB_23 (And.intro kT_23 (And.intro kT_25 (And.intro zeroT_25 (And.intro fieldsT_25 (And.intro kT_4 (And.intro kT_3 (And.intro fldT_31_1 (And.intro szT_29 (And.intro aggB_29 (And.intro kT_29 (And.intro kT_34 (And.intro zeroT_34 (And.intro fieldsT_34 (And.intro elT_35 (And.intro elZ_35 (And.intro kT_44 (And.intro zeroT_44 (And.intro fieldsT_44 (And.intro elT_45 (And.intro elZ_45 (And.intro kT_47 (And.intro zeroT_47 (And.intro fieldsT_47 (And.intro elT_48 (And.intro elZ_48 (And.intro kT_52 (And.intro zeroT_52 (And.intro fieldsT_52 (And.intro szT_52 (And.intro aggB_52 (And.intro kT_39 (And.intro zeroT_39 (And.intro fieldsT_39 (And.intro kT_54 (And.intro zeroT_54 (And.intro fieldsT_54 (And.intro szT_54 (And.intro aggB_54 (And.intro kT_61 (And.intro zeroT_61 (And.intro fieldsT_61 (And.intro kT_56 (And.intro szT_31 (And.intro aggB_31 (And.intro szT_39 (And.intro aggB_39 (And.intro fldT_54_3 (And.intro fldT_54_4 (And.intro szT_61 (And.intro aggB_61 (And.intro szT_47 (And.intro aggB_47 (And.intro fldT_61_2 (And.intro zeroT_31 (And.intro fldT_54_5 (And.intro fldT_79_1 (And.intro szT_3 (And.intro aggB_3 (And.intro fldT_79_0 (And.intro kT_92 (And.intro zeroT_92 (And.intro fieldsT_92 (And.intro szT_79 (And.intro aggB_79 (And.intro zeroT_79 (And.intro kT_79 (And.intro fieldsT_79 (And.intro fldT_47_3 (And.intro fldT_47_1 (And.intro szT_32 (And.intro aggB_32 (And.intro kT_101 (And.intro fldT_47_4 (And.intro szT_45 (And.intro aggB_45 (And.intro kT_45 (And.intro szT_44 (And.intro aggB_44 (And.intro fldT_44_0 (And.intro fldT_44_2 (And.intro fldT_44_1 (And.intro kT_104 (And.intro elT_104 (And.intro elT_29 (And.intro fldT_44_3 (And.intro szT_9 (And.intro aggB_9 (And.intro fldT_44_4 (And.intro kT_31 (And.intro fieldsT_31 (And.intro fldT_39_0 (And.intro kT_9 (And.intro fldT_39_1 (And.intro fldT_39_2 (And.intro szT_67 (And.intro aggB_67 (And.intro fldT_39_5 (And.intro szT_37 (And.intro aggB_37 (And.intro kT_37 (And.intro elT_37 (And.intro fldT_39_4 (And.intro szT_36 (And.intro aggB_36 (And.intro kT_36 (And.intro elT_36 (And.intro szT_42 (And.intro aggB_42 (And.intro zeroT_42 (And.intro elZ_36 (And.intro fldT_31_0 (And.intro zeroT_119 (And.intro szT_119 (And.intro aggB_119 (And.intro kT_128 (And.intro zeroT_128 (And.intro fieldsT_128 (And.intro fldT_128_2 (And.intro szT_87 (And.intro aggB_87 (And.intro elT_129 (And.intro elZ_129 (And.intro kT_129 (And.intro fldT_52_1 (And.intro fldT_52_2 (And.intro fldT_54_2 (And.intro elT_32 (And.intro kT_32 (And.intro intT_3 (And.intro intT_138 (And.intro kT_138 (And.intro fldT_92_0 (And.intro fldT_52_5 (And.intro szT_48 (And.intro aggB_48 (And.intro kT_48 (And.intro zeroT_9 (And.intro fldT_92_3 (And.intro fldT_135_1 (And.intro szT_135 (And.intro aggB_135 (And.intro zeroT_135 (And.intro fldT_135_0 (And.intro elZ_29 (And.intro fldT_44_5 (And.intro fldT_52_4 (And.intro szT_49 (And.intro aggB_49 (And.intro kT_49 (And.intro elT_49 (And.intro fldT_156_2 (And.intro fldT_156_3 (And.intro elZ_104 (And.intro fldT_39_3 (And.intro fldT_42_3 (And.intro fldT_42_4 (And.intro kT_163 (And.intro zeroT_163 (And.intro fieldsT_163 (And.intro elZ_37 (And.intro kT_171 (And.intro zeroT_171 (And.intro fieldsT_171 (And.intro fldT_52_0 (And.intro elT_117 (And.intro elZ_117 (And.intro fldT_52_3 (And.intro szT_35 (And.intro aggB_35 (And.intro kT_35 (And.intro szT_34 (And.intro aggB_34 (And.intro fldT_34_0 (And.intro fldT_34_1 (And.intro kT_117 (And.intro szT_156 (And.intro aggB_156 (And.intro zeroT_156 (And.intro fldT_156_0 (And.intro fldT_156_1 (And.intro fldT_119_5 (And.intro szT_117 (And.intro aggB_117 (And.intro fldT_52_6 (And.intro szT_50 (And.intro aggB_50 (And.intro kT_50 (And.intro elT_50 (And.intro szT_180 (And.intro aggB_180 (And.intro zeroT_180 (And.intro fldT_171_0 (And.intro szT_4 (And.intro aggB_4 (And.intro kT_119 (And.intro fieldsT_119 (And.intro fldT_54_0 (And.intro fldT_54_1 (And.intro fldT_128_0 (And.intro fldT_128_6 (And.intro zeroT_186 (And.intro szT_186 (And.intro aggB_186 (And.intro fldT_128_1 (And.intro kT_200 (And.intro zeroT_200 (And.intro fieldsT_200 (And.intro fldT_200_0 (And.intro szT_126 (And.intro aggB_126 (And.intro mapT_126 (And.intro elZ_32 (And.intro kT_203 (And.intro intT_210 (And.intro kT_210 (And.intro fldT_47_0 (And.intro fldT_61_1 (And.intro fldT_92_2 (And.intro fldT_42_0 (And.intro fldT_42_2 (And.intro fldT_42_1 (And.intro zeroT_3 (And.intro fldT_47_2 (And.intro fldT_180_0 (And.intro fldT_180_1 (And.intro fldT_180_2 (And.intro fldT_180_3 (And.intro fldT_180_4 (And.intro fldT_180_5 (And.intro fldT_180_6 (And.intro fldT_180_7 (And.intro zeroT_240 (And.intro kT_240 (And.intro arT_240 (And.intro szT_239 (And.intro aggB_239 (And.intro kT_242 (And.intro zeroT_242 (And.intro fieldsT_242 (And.intro elT_239 (And.intro elZ_239 (And.intro kT_239 (And.intro szT_240 (And.intro aggB_240 (And.intro mapT_244 (And.intro fldT_128_3 (And.intro szT_124 (And.intro aggB_124 (And.intro fldT_128_4 (And.intro szT_125 (And.intro aggB_125 (And.intro fldT_128_5 (And.intro mapT_124 (And.intro mapT_125 (And.intro elT_247 (And.intro elZ_247 (And.intro kT_247 (And.intro kT_5 (And.intro kT_87 (And.intro kT_126 (And.intro intT_252 (And.intro kT_252 (And.intro zeroT_252 (And.intro szT_252 (And.intro aggB_252 (And.intro intT_5 (And.intro kT_212 (And.intro intT_212 (And.intro fldT_163_0 (And.intro fldT_119_0 (And.intro fldT_119_4 (And.intro fldT_119_1 (And.intro szT_242 (And.intro aggB_242 (And.intro fldT_242_0 (And.intro fldT_242_1 (And.intro intT_9 (And.intro intT_280 (And.intro kT_280 (And.intro u8T_280 (And.intro elT_280 (And.intro szT_5 (And.intro aggB_5 (And.intro kT_135 (And.intro strsT_135 (And.intro kT_42 (And.intro fieldsT_42 (And.intro zeroT_286 (And.intro fldT_286_1 (And.intro szT_280 (And.intro aggB_280 (And.intro fldT_286_0 (And.intro szT_284 (And.intro aggB_284 (And.intro kT_284 (And.intro intT_284 (And.intro intT_293 (kT_293))))))))))))))))))))))))))))))))))))))))))))))))))))))))))))))))))))))))))))))))))))))))))))))))))))))))))))))))))))))))))))))))))))))))))))))))))))))))))))))))))))))))))))))))))))))))))))))))))))))))))))))))))))))))))))))))))))))))))))))))))))))))))))))))))))))))))))))))))))))))))))))))))))))))))))))))))))))
end Ty
end Go.Proofs.YtdbmemfnjnkefaaGreat
namespace Go.Proofs.YtdbmemfnjnkefaaGreat
open Go.AM
set_option maxHeartbeats 2000000
set_option maxRecDepth 20000
def words:List ByteArray:=[⟨#[97,110,100]⟩,⟨#[111,114]⟩,⟨#[110,111,116]⟩,⟨#[105,109,112,108,121]⟩,⟨#[102,111,114,97,108,108]⟩,⟨#[101,120,105,115,116,115]⟩,⟨#[119,104,101,110]⟩,⟨#[97,115,115,105,103,110]⟩,⟨#[105,110,99,114,101,97,115,101]⟩,⟨#[100,101,99,114,101,97,115,101]⟩,⟨#[111,98,106,101,99,116]⟩]
theorem words_len:words.length=11:=rfl
def idxM(l:List ByteArray)(s:ByteArray):Int:=match l.findIdx? (fun w=>bEq s w)with
 |some i=>i
 |none=> -1
theorem strRows_get{l:List ByteArray}{i:Nat}{w:ByteArray}(h:l[i]? =some w):(strRows l)[i]? =some [sPV w]:=by simp[strRows,h]
theorem strRows_len(l:List ByteArray):(strRows l).length=l.length:=by simp[strRows]
theorem index_c{h:Heap}{l:List ByteArray}{s:ByteArray}(hl:l.length≤9223372036854775807):PCall Tryz.prog 85 [.imm 1 (strRows l),sPV s] h fun r h'=>r= .sc (.int .i64 (idxM l s))∧h'=h:=by
 have hlen:=strRows_len l
 refine pcall_body (ow:=fun _=>false) (wf:=fun _=>false) Ty.mixed Tryz.func85 rfl Ty.hb_85 (by rw[Tryz.ntmps85];simp) ?_
 rw[Tryz.ntmps85,Tryz.results85]
 repeat'(first
  |refine a_seq fun K hK=>?_
  |(refine a_block ?_)
  |((first|refine a_regionS ?_|refine a_region (fun K hK=>?_)|refine a_ret ?_);simp(maxSteps:=2000000) only[undef,am0,am1,am2,am3,amb0,amb1,amb2,amb3,amb4,lwn,drn,callee,wantedB,isW,eff,pev,pst0,retPost,resAll,resP,resV,intP,mkV,putC,pbin,sbin,strsEq,peq,pint,pshift,pstr,pun,pconv,isShift,isConstB,app,subS,lay,rowsOf,lkV,keyKind,keyEq,mfind,mput,oInt,isZeroInt,forall_const,exists_eq_left',implies_true,IntKind.bits, ↓reduceIte,Nat.reduceEqDiff,Nat.reduceAdd,Nat.reduceSub,Nat.reduceMul,Nat.reduceLT,Nat.reduceLeDiff,Nat.reduceBEq,Int.reduceLE,Int.reduceLT,Int.reduceToNat,reduceCtorEq,Ty.all,hlen])
  |(refine a_skip ?_;try simp only[pst0, ↓reduceIte,Nat.reduceEqDiff])
  |(refine a_exit ?_;try simp only[pst0, ↓reduceIte,Nat.reduceEqDiff])
  |(refine a_cond _ (by(try simp(maxSteps:=2000000) only[undef,am0,am1,am2,am3,amb0,amb1,amb2,amb3,amb4,lwn,drn,callee,wantedB,isW,eff,pev,pst0,retPost,resAll,resP,resV,intP,mkV,putC,pbin,sbin,strsEq,peq,pint,pshift,pstr,pun,pconv,isShift,isConstB,app,subS,lay,rowsOf,lkV,keyKind,keyEq,mfind,mput,oInt,isZeroInt,forall_const,exists_eq_left',implies_true,IntKind.bits, ↓reduceIte,Nat.reduceEqDiff,Nat.reduceAdd,Nat.reduceSub,Nat.reduceMul,Nat.reduceLT,Nat.reduceLeDiff,Nat.reduceBEq,Int.reduceLE,Int.reduceLT,Int.reduceToNat,reduceCtorEq,Ty.all,hlen]);rfl) (fun hb=>?_) (fun hb=>?_)<;>(try simp only[hb0,decide_eq_true_eq,decide_eq_false_iff_not,reduceCtorEq]at hb)<;>(try(exfalso;omega)))
  |(with_reducible refine ite_in (fun hb=>?_) (fun hb=>?_)<;>(try simp only[Decidable.not_not]at hb)<;>(try simp only[hb,if_true,if_false,not_false_eq_true,not_true_eq_false, ↓reduceIte])<;>(try simp only[hb0,decide_eq_true_eq,decide_eq_false_iff_not,reduceCtorEq]at hb)<;>(try(exfalso;omega)))
  |(refine hK _ _ ?_;clear hK;try simp only[pst0, ↓reduceIte,Nat.reduceEqDiff])
  |(clear hK;refine hK _ _ ?_;clear hK;try simp only[pst0, ↓reduceIte,Nat.reduceEqDiff])
  |(clear hK;clear hK;refine hK _ _ ?_;clear hK;try simp only[pst0, ↓reduceIte,Nat.reduceEqDiff])
  |(clear hK;clear hK;clear hK;refine hK _ _ ?_;clear hK;try simp only[pst0, ↓reduceIte,Nat.reduceEqDiff])
  |(rw[if_pos];rotate_left 1;omega;simp(maxSteps:=2000000) only[undef,am0,am1,am2,am3,amb0,amb1,amb2,amb3,amb4,lwn,drn,callee,wantedB,isW,eff,pev,pst0,retPost,resAll,resP,resV,intP,mkV,putC,pbin,sbin,strsEq,peq,pint,pshift,pstr,pun,pconv,isShift,isConstB,app,subS,lay,rowsOf,lkV,keyKind,keyEq,mfind,mput,oInt,isZeroInt,forall_const,exists_eq_left',implies_true,IntKind.bits, ↓reduceIte,Nat.reduceEqDiff,Nat.reduceAdd,Nat.reduceSub,Nat.reduceMul,Nat.reduceLT,Nat.reduceLeDiff,Nat.reduceBEq,Int.reduceLE,Int.reduceLT,Int.reduceToNat,reduceCtorEq,Ty.all,hlen]))
 refine a_loop (fun m S h'=>h'=h∧S 0= .imm 1 (strRows l)∧S 1=sPV s∧S 7= .sc (.int .i64 l.length)∧ ∃ k:Nat,S 8= .sc (.int .i64 k)∧k≤l.length∧m=l.length-k∧ ∀ (i:Nat)(w:ByteArray),i<k→l[i]? =some w→bEq s w=false) l.length ?_ ?_
 ·simp only[undef,am0,am1,am2,am3,amb0,amb1,amb2,amb3,amb4,lwn,drn,callee,wantedB,isW,eff,pev,pst0,retPost,resAll,resP,resV,intP,mkV,putC,pbin,sbin,strsEq,peq,pint,pshift,pstr,pun,pconv,isShift,isConstB,app,subS,lay,rowsOf,lkV,keyKind,keyEq,mfind,mput,oInt,isZeroInt,forall_const,exists_eq_left',implies_true,IntKind.bits, ↓reduceIte,Nat.reduceEqDiff,Nat.reduceAdd,Nat.reduceSub,Nat.reduceMul,Nat.reduceLT,Nat.reduceLeDiff,Nat.reduceBEq,Int.reduceLE,Int.reduceLT,Int.reduceToNat,reduceCtorEq]
  exact⟨0,rfl,by omega,rfl,by omega⟩
 ·rintro m S h' ⟨rfl,g0,g1,g7,k,g8,hk,rfl,hall⟩
  by_cases hlt:k<l.length
  ·have hd:decide ((k:Int)<(l.length:Int))=true:=by simp;omega
   have w7:IntKind.i64.wrap ((k:Int)+1)=k+1:=by rw[wrap64 (by omega) (by omega)]
   obtain⟨w,hx⟩: ∃ w,l[k]? =some w:=⟨l[k],List.getElem?_eq_getElem hlt⟩
   have hr:=strRows_get hx
   cases he:bEq s w with
   |true=>
    have he':=he
    unfold bEq at he'
    repeat'(first
     |refine a_seq fun K hK=>?_
     |(refine a_block ?_)
     |((first|refine a_regionS ?_|refine a_region (fun K hK=>?_)|refine a_ret ?_);simp(maxSteps:=2000000) only[undef,am0,am1,am2,am3,amb0,amb1,amb2,amb3,amb4,lwn,drn,callee,wantedB,isW,eff,pev,pst0,retPost,resAll,resP,resV,intP,mkV,putC,pbin,sbin,strsEq,peq,pint,pshift,pstr,pun,pconv,isShift,isConstB,app,subS,lay,rowsOf,lkV,keyKind,keyEq,mfind,mput,oInt,isZeroInt,forall_const,exists_eq_left',implies_true,IntKind.bits, ↓reduceIte,Nat.reduceEqDiff,Nat.reduceAdd,Nat.reduceSub,Nat.reduceMul,Nat.reduceLT,Nat.reduceLeDiff,Nat.reduceBEq,Int.reduceLE,Int.reduceLT,Int.reduceToNat,reduceCtorEq,Ty.all,g0,g1,g7,g8,hd,hr,he'])
     |(refine a_skip ?_;try simp only[pst0, ↓reduceIte,Nat.reduceEqDiff])
     |(refine a_exit ?_;try simp only[pst0, ↓reduceIte,Nat.reduceEqDiff])
     |(refine a_cond _ (by(try simp(maxSteps:=2000000) only[undef,am0,am1,am2,am3,amb0,amb1,amb2,amb3,amb4,lwn,drn,callee,wantedB,isW,eff,pev,pst0,retPost,resAll,resP,resV,intP,mkV,putC,pbin,sbin,strsEq,peq,pint,pshift,pstr,pun,pconv,isShift,isConstB,app,subS,lay,rowsOf,lkV,keyKind,keyEq,mfind,mput,oInt,isZeroInt,forall_const,exists_eq_left',implies_true,IntKind.bits, ↓reduceIte,Nat.reduceEqDiff,Nat.reduceAdd,Nat.reduceSub,Nat.reduceMul,Nat.reduceLT,Nat.reduceLeDiff,Nat.reduceBEq,Int.reduceLE,Int.reduceLT,Int.reduceToNat,reduceCtorEq,Ty.all,g0,g1,g7,g8,hd,hr,he']);rfl) (fun hb=>?_) (fun hb=>?_)<;>(try simp only[hb0,decide_eq_true_eq,decide_eq_false_iff_not,reduceCtorEq]at hb)<;>(try(exfalso;omega)))
     |(with_reducible refine ite_in (fun hb=>?_) (fun hb=>?_)<;>(try simp only[Decidable.not_not]at hb)<;>(try simp only[hb,if_true,if_false,not_false_eq_true,not_true_eq_false, ↓reduceIte])<;>(try simp only[hb0,decide_eq_true_eq,decide_eq_false_iff_not,reduceCtorEq]at hb)<;>(try(exfalso;omega)))
     |(refine hK _ _ ?_;clear hK;try simp only[pst0, ↓reduceIte,Nat.reduceEqDiff])
     |(clear hK;refine hK _ _ ?_;clear hK;try simp only[pst0, ↓reduceIte,Nat.reduceEqDiff])
     |(clear hK;clear hK;refine hK _ _ ?_;clear hK;try simp only[pst0, ↓reduceIte,Nat.reduceEqDiff])
     |(clear hK;clear hK;clear hK;refine hK _ _ ?_;clear hK;try simp only[pst0, ↓reduceIte,Nat.reduceEqDiff])
     |(rw[if_pos];rotate_left 1;omega;simp(maxSteps:=2000000) only[undef,am0,am1,am2,am3,amb0,amb1,amb2,amb3,amb4,lwn,drn,callee,wantedB,isW,eff,pev,pst0,retPost,resAll,resP,resV,intP,mkV,putC,pbin,sbin,strsEq,peq,pint,pshift,pstr,pun,pconv,isShift,isConstB,app,subS,lay,rowsOf,lkV,keyKind,keyEq,mfind,mput,oInt,isZeroInt,forall_const,exists_eq_left',implies_true,IntKind.bits, ↓reduceIte,Nat.reduceEqDiff,Nat.reduceAdd,Nat.reduceSub,Nat.reduceMul,Nat.reduceLT,Nat.reduceLeDiff,Nat.reduceBEq,Int.reduceLE,Int.reduceLT,Int.reduceToNat,reduceCtorEq,Ty.all,g0,g1,g7,g8,hd,hr,he']))
    have:l.findIdx? (fun w=>bEq s w)=some k:=by
     rw[List.findIdx?_eq_some_iff_getElem]
     refine⟨hlt,?_,fun j hj=>?_⟩
     ·rw [List.getElem?_eq_getElem hlt]at hx
      simp only[Option.some.injEq]at hx
      rw[hx];exact he
     ·rw [hall j l[j] hj (List.getElem?_eq_getElem (by omega))];simp
    simp only[idxM,this]
   |false=>
    have he':=he
    unfold bEq at he'
    repeat'(first
     |refine a_seq fun K hK=>?_
     |(refine a_block ?_)
     |((first|refine a_regionS ?_|refine a_region (fun K hK=>?_)|refine a_ret ?_);simp(maxSteps:=2000000) only[undef,am0,am1,am2,am3,amb0,amb1,amb2,amb3,amb4,lwn,drn,callee,wantedB,isW,eff,pev,pst0,retPost,resAll,resP,resV,intP,mkV,putC,pbin,sbin,strsEq,peq,pint,pshift,pstr,pun,pconv,isShift,isConstB,app,subS,lay,rowsOf,lkV,keyKind,keyEq,mfind,mput,oInt,isZeroInt,forall_const,exists_eq_left',implies_true,IntKind.bits, ↓reduceIte,Nat.reduceEqDiff,Nat.reduceAdd,Nat.reduceSub,Nat.reduceMul,Nat.reduceLT,Nat.reduceLeDiff,Nat.reduceBEq,Int.reduceLE,Int.reduceLT,Int.reduceToNat,reduceCtorEq,Ty.all,g0,g1,g7,g8,hd,hr,he',w7])
     |(refine a_skip ?_;try simp only[pst0, ↓reduceIte,Nat.reduceEqDiff])
     |(refine a_exit ?_;try simp only[pst0, ↓reduceIte,Nat.reduceEqDiff])
     |(refine a_cond _ (by(try simp(maxSteps:=2000000) only[undef,am0,am1,am2,am3,amb0,amb1,amb2,amb3,amb4,lwn,drn,callee,wantedB,isW,eff,pev,pst0,retPost,resAll,resP,resV,intP,mkV,putC,pbin,sbin,strsEq,peq,pint,pshift,pstr,pun,pconv,isShift,isConstB,app,subS,lay,rowsOf,lkV,keyKind,keyEq,mfind,mput,oInt,isZeroInt,forall_const,exists_eq_left',implies_true,IntKind.bits, ↓reduceIte,Nat.reduceEqDiff,Nat.reduceAdd,Nat.reduceSub,Nat.reduceMul,Nat.reduceLT,Nat.reduceLeDiff,Nat.reduceBEq,Int.reduceLE,Int.reduceLT,Int.reduceToNat,reduceCtorEq,Ty.all,g0,g1,g7,g8,hd,hr,he',w7]);rfl) (fun hb=>?_) (fun hb=>?_)<;>(try simp only[hb0,decide_eq_true_eq,decide_eq_false_iff_not,reduceCtorEq]at hb)<;>(try(exfalso;omega)))
     |(with_reducible refine ite_in (fun hb=>?_) (fun hb=>?_)<;>(try simp only[Decidable.not_not]at hb)<;>(try simp only[hb,if_true,if_false,not_false_eq_true,not_true_eq_false, ↓reduceIte])<;>(try simp only[hb0,decide_eq_true_eq,decide_eq_false_iff_not,reduceCtorEq]at hb)<;>(try(exfalso;omega)))
     |(refine hK _ _ ?_;clear hK;try simp only[pst0, ↓reduceIte,Nat.reduceEqDiff])
     |(clear hK;refine hK _ _ ?_;clear hK;try simp only[pst0, ↓reduceIte,Nat.reduceEqDiff])
     |(clear hK;clear hK;refine hK _ _ ?_;clear hK;try simp only[pst0, ↓reduceIte,Nat.reduceEqDiff])
     |(clear hK;clear hK;clear hK;refine hK _ _ ?_;clear hK;try simp only[pst0, ↓reduceIte,Nat.reduceEqDiff])
     |(rw[if_pos];rotate_left 1;omega;simp(maxSteps:=2000000) only[undef,am0,am1,am2,am3,amb0,amb1,amb2,amb3,amb4,lwn,drn,callee,wantedB,isW,eff,pev,pst0,retPost,resAll,resP,resV,intP,mkV,putC,pbin,sbin,strsEq,peq,pint,pshift,pstr,pun,pconv,isShift,isConstB,app,subS,lay,rowsOf,lkV,keyKind,keyEq,mfind,mput,oInt,isZeroInt,forall_const,exists_eq_left',implies_true,IntKind.bits, ↓reduceIte,Nat.reduceEqDiff,Nat.reduceAdd,Nat.reduceSub,Nat.reduceMul,Nat.reduceLT,Nat.reduceLeDiff,Nat.reduceBEq,Int.reduceLE,Int.reduceLT,Int.reduceToNat,reduceCtorEq,Ty.all,g0,g1,g7,g8,hd,hr,he',w7]))
    refine⟨l.length-(k+1),by omega,k+1,by simp,by omega,rfl,fun i w2 hi hw=>?_⟩
    by_cases hik:i=k
    ·subst hik;rw[hx]at hw;simp at hw;rw[← hw];exact he
    ·exact hall i w2 (by omega) hw
  ·have hd:decide ((k:Int)<(l.length:Int))=false:=by simp;omega
   repeat'(first
    |refine a_seq fun K hK=>?_
    |(refine a_block ?_)
    |((first|refine a_regionS ?_|refine a_region (fun K hK=>?_)|refine a_ret ?_);simp(maxSteps:=2000000) only[undef,am0,am1,am2,am3,amb0,amb1,amb2,amb3,amb4,lwn,drn,callee,wantedB,isW,eff,pev,pst0,retPost,resAll,resP,resV,intP,mkV,putC,pbin,sbin,strsEq,peq,pint,pshift,pstr,pun,pconv,isShift,isConstB,app,subS,lay,rowsOf,lkV,keyKind,keyEq,mfind,mput,oInt,isZeroInt,forall_const,exists_eq_left',implies_true,IntKind.bits, ↓reduceIte,Nat.reduceEqDiff,Nat.reduceAdd,Nat.reduceSub,Nat.reduceMul,Nat.reduceLT,Nat.reduceLeDiff,Nat.reduceBEq,Int.reduceLE,Int.reduceLT,Int.reduceToNat,reduceCtorEq,Ty.all,g0,g1,g7,g8,hd])
    |(refine a_skip ?_;try simp only[pst0, ↓reduceIte,Nat.reduceEqDiff])
    |(refine a_exit ?_;try simp only[pst0, ↓reduceIte,Nat.reduceEqDiff])
    |(refine a_cond _ (by(try simp(maxSteps:=2000000) only[undef,am0,am1,am2,am3,amb0,amb1,amb2,amb3,amb4,lwn,drn,callee,wantedB,isW,eff,pev,pst0,retPost,resAll,resP,resV,intP,mkV,putC,pbin,sbin,strsEq,peq,pint,pshift,pstr,pun,pconv,isShift,isConstB,app,subS,lay,rowsOf,lkV,keyKind,keyEq,mfind,mput,oInt,isZeroInt,forall_const,exists_eq_left',implies_true,IntKind.bits, ↓reduceIte,Nat.reduceEqDiff,Nat.reduceAdd,Nat.reduceSub,Nat.reduceMul,Nat.reduceLT,Nat.reduceLeDiff,Nat.reduceBEq,Int.reduceLE,Int.reduceLT,Int.reduceToNat,reduceCtorEq,Ty.all,g0,g1,g7,g8,hd]);rfl) (fun hb=>?_) (fun hb=>?_)<;>(try simp only[hb0,decide_eq_true_eq,decide_eq_false_iff_not,reduceCtorEq]at hb)<;>(try(exfalso;omega)))
    |(with_reducible refine ite_in (fun hb=>?_) (fun hb=>?_)<;>(try simp only[Decidable.not_not]at hb)<;>(try simp only[hb,if_true,if_false,not_false_eq_true,not_true_eq_false, ↓reduceIte])<;>(try simp only[hb0,decide_eq_true_eq,decide_eq_false_iff_not,reduceCtorEq]at hb)<;>(try(exfalso;omega)))
    |(refine hK _ _ ?_;clear hK;try simp only[pst0, ↓reduceIte,Nat.reduceEqDiff])
    |(clear hK;refine hK _ _ ?_;clear hK;try simp only[pst0, ↓reduceIte,Nat.reduceEqDiff])
    |(clear hK;clear hK;refine hK _ _ ?_;clear hK;try simp only[pst0, ↓reduceIte,Nat.reduceEqDiff])
    |(clear hK;clear hK;clear hK;refine hK _ _ ?_;clear hK;try simp only[pst0, ↓reduceIte,Nat.reduceEqDiff])
    |(rw[if_pos];rotate_left 1;omega;simp(maxSteps:=2000000) only[undef,am0,am1,am2,am3,amb0,amb1,amb2,amb3,amb4,lwn,drn,callee,wantedB,isW,eff,pev,pst0,retPost,resAll,resP,resV,intP,mkV,putC,pbin,sbin,strsEq,peq,pint,pshift,pstr,pun,pconv,isShift,isConstB,app,subS,lay,rowsOf,lkV,keyKind,keyEq,mfind,mput,oInt,isZeroInt,forall_const,exists_eq_left',implies_true,IntKind.bits, ↓reduceIte,Nat.reduceEqDiff,Nat.reduceAdd,Nat.reduceSub,Nat.reduceMul,Nat.reduceLT,Nat.reduceLeDiff,Nat.reduceBEq,Int.reduceLE,Int.reduceLT,Int.reduceToNat,reduceCtorEq,Ty.all,g0,g1,g7,g8,hd]))
   have:l.findIdx? (fun w=>bEq s w)=none:=by
    rw[List.findIdx?_eq_none_iff]
    intro w hw
    obtain⟨i,hi⟩:=List.getElem?_of_mem hw
    have:i<l.length:=(List.getElem?_eq_some_iff.1 hi).1
    exact hall i w (by omega) hi
   simp only[idxM,this]
theorem idxM_any(l:List ByteArray)(s:ByteArray):decide (idxM l s≥0)=l.any (fun w=>bEq s w):=by
 unfold idxM
 cases h:l.findIdx? (fun w=>bEq s w)with
 |none=>
  rw[List.findIdx?_eq_none_iff]at h
  have:l.any (fun w=>bEq s w)=false:=by simpa using h
  rw[this];try rfl
 |some i=>
  rw[List.findIdx?_eq_some_iff_getElem]at h
  obtain⟨hi,h1,_⟩:=h
  have:l.any (fun w=>bEq s w)=true:=List.any_eq_true.2 ⟨l[i],List.getElem_mem hi,h1⟩
  rw[this];simp
theorem contains_c{h:Heap}{l:List ByteArray}{s:ByteArray}(hl:l.length≤9223372036854775807):PCall Tryz.prog 75 [.imm 1 (strRows l),sPV s] h fun r h'=>r= .sc (.bool (l.any fun w=>bEq s w))∧h'=h:=by
 refine pcall_body (ow:=fun _=>false) (wf:=fun _=>false) Ty.mixed Tryz.func75 rfl Ty.hb_75 (by rw[Tryz.ntmps75];simp) ?_
 rw[Tryz.ntmps75,Tryz.results75]
 repeat'(first
  |refine a_seq fun K hK=>?_
  |(refine a_block ?_)
  |((first|refine a_regionS ?_|refine a_region (fun K hK=>?_)|refine a_ret ?_);simp(maxSteps:=2000000) only[undef,am0,am1,am2,am3,amb0,amb1,amb2,amb3,amb4,lwn,drn,callee,wantedB,isW,eff,pev,pst0,retPost,resAll,resP,resV,intP,mkV,putC,pbin,sbin,strsEq,peq,pint,pshift,pstr,pun,pconv,isShift,isConstB,app,subS,lay,rowsOf,lkV,keyKind,keyEq,mfind,mput,oInt,isZeroInt,forall_const,exists_eq_left',implies_true,IntKind.bits, ↓reduceIte,Nat.reduceEqDiff,Nat.reduceAdd,Nat.reduceSub,Nat.reduceMul,Nat.reduceLT,Nat.reduceLeDiff,Nat.reduceBEq,Int.reduceLE,Int.reduceLT,Int.reduceToNat,reduceCtorEq,Ty.all])
  |(refine a_skip ?_;try simp only[pst0, ↓reduceIte,Nat.reduceEqDiff])
  |(refine a_exit ?_;try simp only[pst0, ↓reduceIte,Nat.reduceEqDiff])
  |(refine a_cond _ (by(try simp(maxSteps:=2000000) only[undef,am0,am1,am2,am3,amb0,amb1,amb2,amb3,amb4,lwn,drn,callee,wantedB,isW,eff,pev,pst0,retPost,resAll,resP,resV,intP,mkV,putC,pbin,sbin,strsEq,peq,pint,pshift,pstr,pun,pconv,isShift,isConstB,app,subS,lay,rowsOf,lkV,keyKind,keyEq,mfind,mput,oInt,isZeroInt,forall_const,exists_eq_left',implies_true,IntKind.bits, ↓reduceIte,Nat.reduceEqDiff,Nat.reduceAdd,Nat.reduceSub,Nat.reduceMul,Nat.reduceLT,Nat.reduceLeDiff,Nat.reduceBEq,Int.reduceLE,Int.reduceLT,Int.reduceToNat,reduceCtorEq,Ty.all]);rfl) (fun hb=>?_) (fun hb=>?_)<;>(try simp only[hb0,decide_eq_true_eq,decide_eq_false_iff_not,reduceCtorEq]at hb)<;>(try(exfalso;omega)))
  |(with_reducible refine ite_in (fun hb=>?_) (fun hb=>?_)<;>(try simp only[Decidable.not_not]at hb)<;>(try simp only[hb,if_true,if_false,not_false_eq_true,not_true_eq_false, ↓reduceIte])<;>(try simp only[hb0,decide_eq_true_eq,decide_eq_false_iff_not,reduceCtorEq]at hb)<;>(try(exfalso;omega)))
  |(refine hK _ _ ?_;clear hK;try simp only[pst0, ↓reduceIte,Nat.reduceEqDiff])
  |(clear hK;refine hK _ _ ?_;clear hK;try simp only[pst0, ↓reduceIte,Nat.reduceEqDiff])
  |(clear hK;clear hK;refine hK _ _ ?_;clear hK;try simp only[pst0, ↓reduceIte,Nat.reduceEqDiff])
  |(clear hK;clear hK;clear hK;refine hK _ _ ?_;clear hK;try simp only[pst0, ↓reduceIte,Nat.reduceEqDiff])
  |(rw[if_pos];rotate_left 1;omega;simp(maxSteps:=2000000) only[undef,am0,am1,am2,am3,amb0,amb1,amb2,amb3,amb4,lwn,drn,callee,wantedB,isW,eff,pev,pst0,retPost,resAll,resP,resV,intP,mkV,putC,pbin,sbin,strsEq,peq,pint,pshift,pstr,pun,pconv,isShift,isConstB,app,subS,lay,rowsOf,lkV,keyKind,keyEq,mfind,mput,oInt,isZeroInt,forall_const,exists_eq_left',implies_true,IntKind.bits, ↓reduceIte,Nat.reduceEqDiff,Nat.reduceAdd,Nat.reduceSub,Nat.reduceMul,Nat.reduceLT,Nat.reduceLeDiff,Nat.reduceBEq,Int.reduceLE,Int.reduceLT,Int.reduceToNat,reduceCtorEq,Ty.all]))
 refine owp_useQ (index_c (l:=l) (s:=s) hl) (by(try simp only[undef,am0,am1,am2,am3,amb0,amb1,amb2,amb3,amb4,lwn,drn,callee,wantedB,isW,eff,pev,pst0,retPost,resAll,resP,resV,intP,mkV,putC,pbin,sbin,strsEq,peq,pint,pshift,pstr,pun,pconv,isShift,isConstB,app,subS,lay,rowsOf,lkV,keyKind,keyEq,mfind,mput,oInt,isZeroInt,forall_const,exists_eq_left',implies_true,IntKind.bits, ↓reduceIte,Nat.reduceEqDiff,Nat.reduceAdd,Nat.reduceSub,Nat.reduceMul,Nat.reduceLT,Nat.reduceLeDiff,Nat.reduceBEq,Int.reduceLE,Int.reduceLT,Int.reduceToNat,reduceCtorEq,]);try rfl) ?_
 simp(maxSteps:=2000000) only[undef,am0,am1,am2,am3,amb0,amb1,amb2,amb3,amb4,lwn,drn,callee,wantedB,isW,eff,pev,pst0,retPost,resAll,resP,resV,intP,mkV,putC,pbin,sbin,strsEq,peq,pint,pshift,pstr,pun,pconv,isShift,isConstB,app,subS,lay,rowsOf,lkV,keyKind,keyEq,mfind,mput,oInt,isZeroInt,forall_const,exists_eq_left',implies_true,IntKind.bits, ↓reduceIte,Nat.reduceEqDiff,Nat.reduceAdd,Nat.reduceSub,Nat.reduceMul,Nat.reduceLT,Nat.reduceLeDiff,Nat.reduceBEq,Int.reduceLE,Int.reduceLT,Int.reduceToNat,reduceCtorEq,Ty.all,]
 repeat'(first
  |refine a_seq fun K hK=>?_
  |(refine a_block ?_)
  |((first|refine a_regionS ?_|refine a_region (fun K hK=>?_)|refine a_ret ?_);simp(maxSteps:=2000000) only[undef,am0,am1,am2,am3,amb0,amb1,amb2,amb3,amb4,lwn,drn,callee,wantedB,isW,eff,pev,pst0,retPost,resAll,resP,resV,intP,mkV,putC,pbin,sbin,strsEq,peq,pint,pshift,pstr,pun,pconv,isShift,isConstB,app,subS,lay,rowsOf,lkV,keyKind,keyEq,mfind,mput,oInt,isZeroInt,forall_const,exists_eq_left',implies_true,IntKind.bits, ↓reduceIte,Nat.reduceEqDiff,Nat.reduceAdd,Nat.reduceSub,Nat.reduceMul,Nat.reduceLT,Nat.reduceLeDiff,Nat.reduceBEq,Int.reduceLE,Int.reduceLT,Int.reduceToNat,reduceCtorEq,Ty.all])
  |(refine a_skip ?_;try simp only[pst0, ↓reduceIte,Nat.reduceEqDiff])
  |(refine a_exit ?_;try simp only[pst0, ↓reduceIte,Nat.reduceEqDiff])
  |(refine a_cond _ (by(try simp(maxSteps:=2000000) only[undef,am0,am1,am2,am3,amb0,amb1,amb2,amb3,amb4,lwn,drn,callee,wantedB,isW,eff,pev,pst0,retPost,resAll,resP,resV,intP,mkV,putC,pbin,sbin,strsEq,peq,pint,pshift,pstr,pun,pconv,isShift,isConstB,app,subS,lay,rowsOf,lkV,keyKind,keyEq,mfind,mput,oInt,isZeroInt,forall_const,exists_eq_left',implies_true,IntKind.bits, ↓reduceIte,Nat.reduceEqDiff,Nat.reduceAdd,Nat.reduceSub,Nat.reduceMul,Nat.reduceLT,Nat.reduceLeDiff,Nat.reduceBEq,Int.reduceLE,Int.reduceLT,Int.reduceToNat,reduceCtorEq,Ty.all]);rfl) (fun hb=>?_) (fun hb=>?_)<;>(try simp only[hb0,decide_eq_true_eq,decide_eq_false_iff_not,reduceCtorEq]at hb)<;>(try(exfalso;omega)))
  |(with_reducible refine ite_in (fun hb=>?_) (fun hb=>?_)<;>(try simp only[Decidable.not_not]at hb)<;>(try simp only[hb,if_true,if_false,not_false_eq_true,not_true_eq_false, ↓reduceIte])<;>(try simp only[hb0,decide_eq_true_eq,decide_eq_false_iff_not,reduceCtorEq]at hb)<;>(try(exfalso;omega)))
  |(refine hK _ _ ?_;clear hK;try simp only[pst0, ↓reduceIte,Nat.reduceEqDiff])
  |(clear hK;refine hK _ _ ?_;clear hK;try simp only[pst0, ↓reduceIte,Nat.reduceEqDiff])
  |(clear hK;clear hK;refine hK _ _ ?_;clear hK;try simp only[pst0, ↓reduceIte,Nat.reduceEqDiff])
  |(clear hK;clear hK;clear hK;refine hK _ _ ?_;clear hK;try simp only[pst0, ↓reduceIte,Nat.reduceEqDiff])
  |(rw[if_pos];rotate_left 1;omega;simp(maxSteps:=2000000) only[undef,am0,am1,am2,am3,amb0,amb1,amb2,amb3,amb4,lwn,drn,callee,wantedB,isW,eff,pev,pst0,retPost,resAll,resP,resV,intP,mkV,putC,pbin,sbin,strsEq,peq,pint,pshift,pstr,pun,pconv,isShift,isConstB,app,subS,lay,rowsOf,lkV,keyKind,keyEq,mfind,mput,oInt,isZeroInt,forall_const,exists_eq_left',implies_true,IntKind.bits, ↓reduceIte,Nat.reduceEqDiff,Nat.reduceAdd,Nat.reduceSub,Nat.reduceMul,Nat.reduceLT,Nat.reduceLeDiff,Nat.reduceBEq,Int.reduceLE,Int.reduceLT,Int.reduceToNat,reduceCtorEq,Ty.all]))
 rw[← idxM_any]
theorem reserved_c{h:Heap}:PCall Tryz.prog 202 [] h fun r h'=>r= .imm 1 (strRows words)∧h'=h:=by
 refine pcall_body (ow:=fun _=>false) (wf:=fun _=>false) Ty.mixed Tryz.func202 rfl Ty.hb_202 (by rw[Tryz.ntmps202];simp) ?_
 rw[Tryz.ntmps202,Tryz.results202]
 repeat'(first
  |refine a_seq fun K hK=>?_
  |(refine a_block ?_)
  |((first|refine a_regionS ?_|refine a_region (fun K hK=>?_)|refine a_ret ?_);simp(maxSteps:=2000000) only[undef,am0,am1,am2,am3,amb0,amb1,amb2,amb3,amb4,lwn,drn,callee,wantedB,isW,eff,pev,pst0,retPost,resAll,resP,resV,intP,mkV,putC,pbin,sbin,strsEq,peq,pint,pshift,pstr,pun,pconv,isShift,isConstB,app,subS,lay,rowsOf,lkV,keyKind,keyEq,mfind,mput,oInt,isZeroInt,forall_const,exists_eq_left',implies_true,IntKind.bits, ↓reduceIte,Nat.reduceEqDiff,Nat.reduceAdd,Nat.reduceSub,Nat.reduceMul,Nat.reduceLT,Nat.reduceLeDiff,Nat.reduceBEq,Int.reduceLE,Int.reduceLT,Int.reduceToNat,reduceCtorEq,Ty.all])
  |(refine a_skip ?_;try simp only[pst0, ↓reduceIte,Nat.reduceEqDiff])
  |(refine a_exit ?_;try simp only[pst0, ↓reduceIte,Nat.reduceEqDiff])
  |(refine a_cond _ (by(try simp(maxSteps:=2000000) only[undef,am0,am1,am2,am3,amb0,amb1,amb2,amb3,amb4,lwn,drn,callee,wantedB,isW,eff,pev,pst0,retPost,resAll,resP,resV,intP,mkV,putC,pbin,sbin,strsEq,peq,pint,pshift,pstr,pun,pconv,isShift,isConstB,app,subS,lay,rowsOf,lkV,keyKind,keyEq,mfind,mput,oInt,isZeroInt,forall_const,exists_eq_left',implies_true,IntKind.bits, ↓reduceIte,Nat.reduceEqDiff,Nat.reduceAdd,Nat.reduceSub,Nat.reduceMul,Nat.reduceLT,Nat.reduceLeDiff,Nat.reduceBEq,Int.reduceLE,Int.reduceLT,Int.reduceToNat,reduceCtorEq,Ty.all]);rfl) (fun hb=>?_) (fun hb=>?_)<;>(try simp only[hb0,decide_eq_true_eq,decide_eq_false_iff_not,reduceCtorEq]at hb)<;>(try(exfalso;omega)))
  |(with_reducible refine ite_in (fun hb=>?_) (fun hb=>?_)<;>(try simp only[Decidable.not_not]at hb)<;>(try simp only[hb,if_true,if_false,not_false_eq_true,not_true_eq_false, ↓reduceIte])<;>(try simp only[hb0,decide_eq_true_eq,decide_eq_false_iff_not,reduceCtorEq]at hb)<;>(try(exfalso;omega)))
  |(refine hK _ _ ?_;clear hK;try simp only[pst0, ↓reduceIte,Nat.reduceEqDiff])
  |(clear hK;refine hK _ _ ?_;clear hK;try simp only[pst0, ↓reduceIte,Nat.reduceEqDiff])
  |(clear hK;clear hK;refine hK _ _ ?_;clear hK;try simp only[pst0, ↓reduceIte,Nat.reduceEqDiff])
  |(clear hK;clear hK;clear hK;refine hK _ _ ?_;clear hK;try simp only[pst0, ↓reduceIte,Nat.reduceEqDiff])
  |(rw[if_pos];rotate_left 1;omega;simp(maxSteps:=2000000) only[undef,am0,am1,am2,am3,amb0,amb1,amb2,amb3,amb4,lwn,drn,callee,wantedB,isW,eff,pev,pst0,retPost,resAll,resP,resV,intP,mkV,putC,pbin,sbin,strsEq,peq,pint,pshift,pstr,pun,pconv,isShift,isConstB,app,subS,lay,rowsOf,lkV,keyKind,keyEq,mfind,mput,oInt,isZeroInt,forall_const,exists_eq_left',implies_true,IntKind.bits, ↓reduceIte,Nat.reduceEqDiff,Nat.reduceAdd,Nat.reduceSub,Nat.reduceMul,Nat.reduceLT,Nat.reduceLeDiff,Nat.reduceBEq,Int.reduceLE,Int.reduceLT,Int.reduceToNat,reduceCtorEq,Ty.all]))
 rfl
def letB(c:UInt8):Bool:=decide (97≤c.toNat)&&decide (c.toNat≤122)
def midB(c:UInt8):Bool:=letB c||(decide (48≤c.toNat)&&decide (c.toNat≤57))||decide (c.toNat=45)||decide (c.toNat=95)
def okAt(i:Nat)(c:UInt8):Bool:=letB c||(decide (i≠0)&&midB c)
def bytesOkB:List UInt8→Bool
 |[]=>true
 |c::l=>letB c&&l.all midB
def nameB(s:ByteArray):Bool:=bytesOkB s.data.toList&&decide (0<s.size)&&decide (s.size≤32)&&!(words.any fun w=>bEq s w)
def varB(s:ByteArray):Bool:=decide (2≤s.size)&&decide (s.size≤32)&&(match s.data.toList[0]? with|some c=>decide (c.toNat=63)|none=>false)&&nameB (s.extract 1 s.size)
theorem ba_get(s:ByteArray)(i:Nat):s[i]? =s.data.toList[i]?:=by
 rw[getElem?_def]
 by_cases hi:i<s.size
 ·rw [dif_pos hi,List.getElem?_eq_getElem (by simpa using hi)]
  rfl
 ·rw [dif_neg hi,List.getElem?_eq_none (by simp;omega)]
theorem letB_mid{c:UInt8}(h:letB c=true):midB c=true:=by simp[midB,h]
theorem bytesOk_true{l:List UInt8}(h: ∀ (j:Nat)(c:UInt8),l[j]? =some c→okAt j c=true):bytesOkB l=true:=by
 cases l with
 |nil=>rfl
 |cons c l=>
  simp only[bytesOkB,Bool.and_eq_true,List.all_eq_true]
  refine⟨by simpa[okAt]using h 0 c rfl,fun x hx=>?_⟩
  obtain⟨i,hi⟩:=List.getElem?_of_mem hx
  have:=h (i+1) x (by simpa using hi)
  simp only[okAt,Bool.or_eq_true,Bool.and_eq_true]at this
  exact this.elim letB_mid (·.2)
theorem bytesOk_false{l:List UInt8}{j:Nat}{c:UInt8}(hj:l[j]? =some c)(h:okAt j c=false):bytesOkB l=false:=by
 cases l with
 |nil=>simp at hj
 |cons d l=>
  cases j with
  |zero=>
   simp at hj;subst hj
   simp only[okAt]at h
   simp at h
   simp[bytesOkB,h]
  |succ j=>
   simp at hj
   have hm:midB c=false:=by simp[okAt]at h;exact h.2
   have:l.all midB=false:=by rw[List.all_eq_false];exact⟨c,List.mem_of_getElem? hj,by simp[hm]⟩
   simp[bytesOkB,this]
end Go.Proofs.YtdbmemfnjnkefaaGreat
namespace Go.Proofs.YtdbmemfnjnkefaaGreat
open Go.AM
set_option maxHeartbeats 2000000
set_option maxRecDepth 20000
theorem drop_of_get{α:Type}{l:List α}{k:Nat}{a:α}(h:l[k]? =some a):l.drop k=a::l.drop (k+1):=by
 obtain⟨hl,rfl⟩:=List.getElem?_eq_some_iff.1 h
 exact List.drop_eq_getElem_cons hl
theorem bsEq_len: ∀ {l m:List ByteArray},¬ l.length=m.length→bsEq l m=false
 |[],[],h=>by simp at h
 |[],_::_,_=>rfl
 |_::_,[],_=>rfl
 |a::l,b::m,h=>by simp only[bsEq,bsEq_len (l:=l) (m:=m) (by simpa using h),Bool.and_false]
theorem ftexts_c{h:Heap}{l m:List ByteArray}(hl:l.length≤bigN)(hm:m.length≤bigN):PCall Tryz.prog 57 [.imm 1 (strRows l),.imm 1 (strRows m)] h fun r h'=>r= .sc (.bool (bsEq l m))∧h'=h:=by
 unfold bigN at hl hm
 have hll:=strRows_len l
 have hlm:=strRows_len m
 refine pcall_body (ow:=fun _=>false) (wf:=fun _=>false) Ty.mixed Tryz.func57 rfl Ty.hb_57 (by rw[Tryz.ntmps57];simp) ?_
 rw[Tryz.ntmps57,Tryz.results57]
 cases hne:((l.length:Int) !=m.length)with
 |true=>
  have:bsEq l m=false:=bsEq_len (by simp at hne;omega)
  repeat'(first
   |refine a_seq fun K hK=>?_
   |(refine a_block ?_)
   |((first|refine a_regionS ?_|refine a_region (fun K hK=>?_)|refine a_ret ?_);simp(maxSteps:=2000000) only[undef,am0,am1,am2,am3,amb0,amb1,amb2,amb3,amb4,lwn,drn,callee,wantedB,isW,eff,pev,pst0,retPost,resAll,resP,resV,intP,mkV,putC,pbin,sbin,strsEq,peq,pint,pshift,pstr,pun,pconv,isShift,isConstB,app,subS,lay,rowsOf,lkV,keyKind,keyEq,mfind,mput,oInt,isZeroInt,forall_const,exists_eq_left',implies_true,IntKind.bits, ↓reduceIte,Nat.reduceEqDiff,Nat.reduceAdd,Nat.reduceSub,Nat.reduceMul,Nat.reduceLT,Nat.reduceLeDiff,Nat.reduceBEq,Int.reduceLE,Int.reduceLT,Int.reduceToNat,reduceCtorEq,Ty.all,hll,hlm,hne])
   |(refine a_skip ?_;try simp only[pst0, ↓reduceIte,Nat.reduceEqDiff])
   |(refine a_exit ?_;try simp only[pst0, ↓reduceIte,Nat.reduceEqDiff])
   |(refine a_cond _ (by(try simp(maxSteps:=2000000) only[undef,am0,am1,am2,am3,amb0,amb1,amb2,amb3,amb4,lwn,drn,callee,wantedB,isW,eff,pev,pst0,retPost,resAll,resP,resV,intP,mkV,putC,pbin,sbin,strsEq,peq,pint,pshift,pstr,pun,pconv,isShift,isConstB,app,subS,lay,rowsOf,lkV,keyKind,keyEq,mfind,mput,oInt,isZeroInt,forall_const,exists_eq_left',implies_true,IntKind.bits, ↓reduceIte,Nat.reduceEqDiff,Nat.reduceAdd,Nat.reduceSub,Nat.reduceMul,Nat.reduceLT,Nat.reduceLeDiff,Nat.reduceBEq,Int.reduceLE,Int.reduceLT,Int.reduceToNat,reduceCtorEq,Ty.all,hll,hlm,hne]);rfl) (fun hb=>?_) (fun hb=>?_)<;>(try simp only[hb0,decide_eq_true_eq,decide_eq_false_iff_not,reduceCtorEq]at hb)<;>(try(exfalso;omega)))
   |(with_reducible refine ite_in (fun hb=>?_) (fun hb=>?_)<;>(try simp only[Decidable.not_not]at hb)<;>(try simp only[hb,if_true,if_false,not_false_eq_true,not_true_eq_false, ↓reduceIte])<;>(try simp only[hb0,decide_eq_true_eq,decide_eq_false_iff_not,reduceCtorEq]at hb)<;>(try(exfalso;omega)))
   |(refine hK _ _ ?_;clear hK;try simp only[pst0, ↓reduceIte,Nat.reduceEqDiff])
   |(clear hK;refine hK _ _ ?_;clear hK;try simp only[pst0, ↓reduceIte,Nat.reduceEqDiff])
   |(clear hK;clear hK;refine hK _ _ ?_;clear hK;try simp only[pst0, ↓reduceIte,Nat.reduceEqDiff])
   |(clear hK;clear hK;clear hK;refine hK _ _ ?_;clear hK;try simp only[pst0, ↓reduceIte,Nat.reduceEqDiff])
   |(rw[if_pos];rotate_left 1;omega;simp(maxSteps:=2000000) only[undef,am0,am1,am2,am3,amb0,amb1,amb2,amb3,amb4,lwn,drn,callee,wantedB,isW,eff,pev,pst0,retPost,resAll,resP,resV,intP,mkV,putC,pbin,sbin,strsEq,peq,pint,pshift,pstr,pun,pconv,isShift,isConstB,app,subS,lay,rowsOf,lkV,keyKind,keyEq,mfind,mput,oInt,isZeroInt,forall_const,exists_eq_left',implies_true,IntKind.bits, ↓reduceIte,Nat.reduceEqDiff,Nat.reduceAdd,Nat.reduceSub,Nat.reduceMul,Nat.reduceLT,Nat.reduceLeDiff,Nat.reduceBEq,Int.reduceLE,Int.reduceLT,Int.reduceToNat,reduceCtorEq,Ty.all,hll,hlm,hne]))
  rw[this]
 |false=>
  have hlen:l.length=m.length:=by simp at hne;omega
  repeat'(first
   |refine a_seq fun K hK=>?_
   |(refine a_block ?_)
   |((first|refine a_regionS ?_|refine a_region (fun K hK=>?_)|refine a_ret ?_);simp(maxSteps:=2000000) only[undef,am0,am1,am2,am3,amb0,amb1,amb2,amb3,amb4,lwn,drn,callee,wantedB,isW,eff,pev,pst0,retPost,resAll,resP,resV,intP,mkV,putC,pbin,sbin,strsEq,peq,pint,pshift,pstr,pun,pconv,isShift,isConstB,app,subS,lay,rowsOf,lkV,keyKind,keyEq,mfind,mput,oInt,isZeroInt,forall_const,exists_eq_left',implies_true,IntKind.bits, ↓reduceIte,Nat.reduceEqDiff,Nat.reduceAdd,Nat.reduceSub,Nat.reduceMul,Nat.reduceLT,Nat.reduceLeDiff,Nat.reduceBEq,Int.reduceLE,Int.reduceLT,Int.reduceToNat,reduceCtorEq,Ty.all,hll,hlm,hne])
   |(refine a_skip ?_;try simp only[pst0, ↓reduceIte,Nat.reduceEqDiff])
   |(refine a_exit ?_;try simp only[pst0, ↓reduceIte,Nat.reduceEqDiff])
   |(refine a_cond _ (by(try simp(maxSteps:=2000000) only[undef,am0,am1,am2,am3,amb0,amb1,amb2,amb3,amb4,lwn,drn,callee,wantedB,isW,eff,pev,pst0,retPost,resAll,resP,resV,intP,mkV,putC,pbin,sbin,strsEq,peq,pint,pshift,pstr,pun,pconv,isShift,isConstB,app,subS,lay,rowsOf,lkV,keyKind,keyEq,mfind,mput,oInt,isZeroInt,forall_const,exists_eq_left',implies_true,IntKind.bits, ↓reduceIte,Nat.reduceEqDiff,Nat.reduceAdd,Nat.reduceSub,Nat.reduceMul,Nat.reduceLT,Nat.reduceLeDiff,Nat.reduceBEq,Int.reduceLE,Int.reduceLT,Int.reduceToNat,reduceCtorEq,Ty.all,hll,hlm,hne]);rfl) (fun hb=>?_) (fun hb=>?_)<;>(try simp only[hb0,decide_eq_true_eq,decide_eq_false_iff_not,reduceCtorEq]at hb)<;>(try(exfalso;omega)))
   |(with_reducible refine ite_in (fun hb=>?_) (fun hb=>?_)<;>(try simp only[Decidable.not_not]at hb)<;>(try simp only[hb,if_true,if_false,not_false_eq_true,not_true_eq_false, ↓reduceIte])<;>(try simp only[hb0,decide_eq_true_eq,decide_eq_false_iff_not,reduceCtorEq]at hb)<;>(try(exfalso;omega)))
   |(refine hK _ _ ?_;clear hK;try simp only[pst0, ↓reduceIte,Nat.reduceEqDiff])
   |(clear hK;refine hK _ _ ?_;clear hK;try simp only[pst0, ↓reduceIte,Nat.reduceEqDiff])
   |(clear hK;clear hK;refine hK _ _ ?_;clear hK;try simp only[pst0, ↓reduceIte,Nat.reduceEqDiff])
   |(clear hK;clear hK;clear hK;refine hK _ _ ?_;clear hK;try simp only[pst0, ↓reduceIte,Nat.reduceEqDiff])
   |(rw[if_pos];rotate_left 1;omega;simp(maxSteps:=2000000) only[undef,am0,am1,am2,am3,amb0,amb1,amb2,amb3,amb4,lwn,drn,callee,wantedB,isW,eff,pev,pst0,retPost,resAll,resP,resV,intP,mkV,putC,pbin,sbin,strsEq,peq,pint,pshift,pstr,pun,pconv,isShift,isConstB,app,subS,lay,rowsOf,lkV,keyKind,keyEq,mfind,mput,oInt,isZeroInt,forall_const,exists_eq_left',implies_true,IntKind.bits, ↓reduceIte,Nat.reduceEqDiff,Nat.reduceAdd,Nat.reduceSub,Nat.reduceMul,Nat.reduceLT,Nat.reduceLeDiff,Nat.reduceBEq,Int.reduceLE,Int.reduceLT,Int.reduceToNat,reduceCtorEq,Ty.all,hll,hlm,hne]))
  refine a_loop (fun c S h'=>h'=h∧S 0= .imm 1 (strRows l)∧S 1= .imm 1 (strRows m)∧S 12= .sc (.int .i64 l.length)∧ ∃ k:Nat,S 13= .sc (.int .i64 k)∧k≤l.length∧c=l.length-k∧bsEq l m=bsEq (l.drop k) (m.drop k)) l.length ?_ ?_
  ·simp only[undef,am0,am1,am2,am3,amb0,amb1,amb2,amb3,amb4,lwn,drn,callee,wantedB,isW,eff,pev,pst0,retPost,resAll,resP,resV,intP,mkV,putC,pbin,sbin,strsEq,peq,pint,pshift,pstr,pun,pconv,isShift,isConstB,app,subS,lay,rowsOf,lkV,keyKind,keyEq,mfind,mput,oInt,isZeroInt,forall_const,exists_eq_left',implies_true,IntKind.bits, ↓reduceIte,Nat.reduceEqDiff,Nat.reduceAdd,Nat.reduceSub,Nat.reduceMul,Nat.reduceLT,Nat.reduceLeDiff,Nat.reduceBEq,Int.reduceLE,Int.reduceLT,Int.reduceToNat,reduceCtorEq]
   exact⟨0,rfl,by omega,rfl,by simp⟩
  ·rintro c S h' ⟨rfl,g0,g1,g12,k,gk,hkl,rfl,hinv⟩
   by_cases hlt:k<l.length
   ·have hd:decide ((k:Int)<(l.length:Int))=true:=by simp;omega
    have w7:IntKind.i64.wrap ((k:Int)+1)=k+1:=by rw[wrap64 (by omega) (by omega)]
    obtain⟨a,hx⟩: ∃ a,l[k]? =some a:=⟨_,List.getElem?_eq_getElem hlt⟩
    obtain⟨b,hy⟩: ∃ b,m[k]? =some b:=⟨_,List.getElem?_eq_getElem (by omega)⟩
    rw[drop_of_get hx,drop_of_get hy]at hinv
    simp only[bsEq]at hinv
    have hr:=strRows_get hx
    have hr2:=strRows_get hy
    cases he:(a.data.toList==b.data.toList)with
    |false=>
     simp only[bEq,he,Bool.false_and]at hinv
     repeat'(first
      |refine a_seq fun K hK=>?_
      |(refine a_block ?_)
      |((first|refine a_regionS ?_|refine a_drawS (by decide+kernel) ?_|refine a_region (fun K hK=>?_)|refine a_draw (by decide+kernel) (fun K hK=>?_)|refine a_ret ?_);simp(maxSteps:=2000000) only[undef,am0,am1,am2,am3,amb0,amb1,amb2,amb3,amb4,lwn,drn,callee,wantedB,isW,eff,pev,pst0,retPost,resAll,resP,resV,intP,mkV,putC,pbin,sbin,strsEq,peq,pint,pshift,pstr,pun,pconv,isShift,isConstB,app,subS,lay,rowsOf,lkV,keyKind,keyEq,mfind,mput,oInt,isZeroInt,forall_const,exists_eq_left',implies_true,IntKind.bits, ↓reduceIte,Nat.reduceEqDiff,Nat.reduceAdd,Nat.reduceSub,Nat.reduceMul,Nat.reduceLT,Nat.reduceLeDiff,Nat.reduceBEq,Int.reduceLE,Int.reduceLT,Int.reduceToNat,reduceCtorEq,Ty.all,g0,g1,g12,gk,hll,hlm,hd,hr,hr2,he,w7,Bool.not_false])
      |(refine a_skip ?_;try simp only[pst0, ↓reduceIte,Nat.reduceEqDiff])
      |(refine a_exit ?_;try simp only[pst0, ↓reduceIte,Nat.reduceEqDiff])
      |(refine a_cond _ (by(try simp(maxSteps:=2000000) only[undef,am0,am1,am2,am3,amb0,amb1,amb2,amb3,amb4,lwn,drn,callee,wantedB,isW,eff,pev,pst0,retPost,resAll,resP,resV,intP,mkV,putC,pbin,sbin,strsEq,peq,pint,pshift,pstr,pun,pconv,isShift,isConstB,app,subS,lay,rowsOf,lkV,keyKind,keyEq,mfind,mput,oInt,isZeroInt,forall_const,exists_eq_left',implies_true,IntKind.bits, ↓reduceIte,Nat.reduceEqDiff,Nat.reduceAdd,Nat.reduceSub,Nat.reduceMul,Nat.reduceLT,Nat.reduceLeDiff,Nat.reduceBEq,Int.reduceLE,Int.reduceLT,Int.reduceToNat,reduceCtorEq,Ty.all,g0,g1,g12,gk,hll,hlm,hd,hr,hr2,he,w7,Bool.not_false]);rfl) (fun hb=>?_) (fun hb=>?_)<;>(try simp only[hb0,decide_eq_true_eq,decide_eq_false_iff_not,reduceCtorEq]at hb)<;>(try(exfalso;omega)))
      |(with_reducible refine ite_in (fun hb=>?_) (fun hb=>?_)<;>(try simp only[Decidable.not_not]at hb)<;>(try simp only[hb,if_true,if_false,not_false_eq_true,not_true_eq_false, ↓reduceIte])<;>(try simp only[hb0,decide_eq_true_eq,decide_eq_false_iff_not,reduceCtorEq]at hb)<;>(try(exfalso;omega)))
      |(refine hK _ _ ?_;clear hK;try simp only[pst0, ↓reduceIte,Nat.reduceEqDiff])
      |(clear hK;refine hK _ _ ?_;clear hK;try simp only[pst0, ↓reduceIte,Nat.reduceEqDiff])
      |(clear hK;clear hK;refine hK _ _ ?_;clear hK;try simp only[pst0, ↓reduceIte,Nat.reduceEqDiff])
      |(clear hK;clear hK;clear hK;refine hK _ _ ?_;clear hK;try simp only[pst0, ↓reduceIte,Nat.reduceEqDiff])
      |((first|(with_reducible refine a_past _ rfl (by decide+kernel) ?_)|(with_reducible refine a_past2 (by simp only[List.forall_mem_cons,undef,am0,am1,am2,am3,amb0,amb1,amb2,amb3,amb4,lwn,drn,callee,wantedB,isW,eff,pev,pst0,retPost,resAll,resP,resV,intP,mkV,putC,pbin,sbin,strsEq,peq,pint,pshift,pstr,pun,pconv,isShift,isConstB,app,subS,lay,rowsOf,lkV,keyKind,keyEq,mfind,mput,oInt,isZeroInt,forall_const,exists_eq_left',implies_true,IntKind.bits, ↓reduceIte,Nat.reduceEqDiff,Nat.reduceAdd,Nat.reduceSub,Nat.reduceMul,Nat.reduceLT,Nat.reduceLeDiff,Nat.reduceBEq,Int.reduceLE,Int.reduceLT,Int.reduceToNat,reduceCtorEq,Ty.all,g0,g1,g12,gk,hll,hlm,hd,hr,hr2,he,w7,Bool.not_false]<;>(repeat' apply And.intro)<;>first|trivial|exact .inl (by decide+kernel)) ?_));try simp(maxSteps:=2000000) only[undef,am0,am1,am2,am3,amb0,amb1,amb2,amb3,amb4,lwn,drn,callee,wantedB,isW,eff,pev,pst0,retPost,resAll,resP,resV,intP,mkV,putC,pbin,sbin,strsEq,peq,pint,pshift,pstr,pun,pconv,isShift,isConstB,app,subS,lay,rowsOf,lkV,keyKind,keyEq,mfind,mput,oInt,isZeroInt,forall_const,exists_eq_left',implies_true,IntKind.bits, ↓reduceIte,Nat.reduceEqDiff,Nat.reduceAdd,Nat.reduceSub,Nat.reduceMul,Nat.reduceLT,Nat.reduceLeDiff,Nat.reduceBEq,Int.reduceLE,Int.reduceLT,Int.reduceToNat,reduceCtorEq,Ty.all,g0,g1,g12,gk,hll,hlm,hd,hr,hr2,he,w7,Bool.not_false])
      |(rw[if_pos];rotate_left 1;omega;simp(maxSteps:=2000000) only[undef,am0,am1,am2,am3,amb0,amb1,amb2,amb3,amb4,lwn,drn,callee,wantedB,isW,eff,pev,pst0,retPost,resAll,resP,resV,intP,mkV,putC,pbin,sbin,strsEq,peq,pint,pshift,pstr,pun,pconv,isShift,isConstB,app,subS,lay,rowsOf,lkV,keyKind,keyEq,mfind,mput,oInt,isZeroInt,forall_const,exists_eq_left',implies_true,IntKind.bits, ↓reduceIte,Nat.reduceEqDiff,Nat.reduceAdd,Nat.reduceSub,Nat.reduceMul,Nat.reduceLT,Nat.reduceLeDiff,Nat.reduceBEq,Int.reduceLE,Int.reduceLT,Int.reduceToNat,reduceCtorEq,Ty.all,g0,g1,g12,gk,hll,hlm,hd,hr,hr2,he,w7,Bool.not_false]))
     rw[hinv]
    |true=>
     simp only[bEq,he,Bool.true_and]at hinv
     repeat'(first
      |refine a_seq fun K hK=>?_
      |(refine a_block ?_)
      |((first|refine a_regionS ?_|refine a_drawS (by decide+kernel) ?_|refine a_region (fun K hK=>?_)|refine a_draw (by decide+kernel) (fun K hK=>?_)|refine a_ret ?_);simp(maxSteps:=2000000) only[undef,am0,am1,am2,am3,amb0,amb1,amb2,amb3,amb4,lwn,drn,callee,wantedB,isW,eff,pev,pst0,retPost,resAll,resP,resV,intP,mkV,putC,pbin,sbin,strsEq,peq,pint,pshift,pstr,pun,pconv,isShift,isConstB,app,subS,lay,rowsOf,lkV,keyKind,keyEq,mfind,mput,oInt,isZeroInt,forall_const,exists_eq_left',implies_true,IntKind.bits, ↓reduceIte,Nat.reduceEqDiff,Nat.reduceAdd,Nat.reduceSub,Nat.reduceMul,Nat.reduceLT,Nat.reduceLeDiff,Nat.reduceBEq,Int.reduceLE,Int.reduceLT,Int.reduceToNat,reduceCtorEq,Ty.all,g0,g1,g12,gk,hll,hlm,hd,hr,hr2,he,w7,Bool.not_true])
      |(refine a_skip ?_;try simp only[pst0, ↓reduceIte,Nat.reduceEqDiff])
      |(refine a_exit ?_;try simp only[pst0, ↓reduceIte,Nat.reduceEqDiff])
      |(refine a_cond _ (by(try simp(maxSteps:=2000000) only[undef,am0,am1,am2,am3,amb0,amb1,amb2,amb3,amb4,lwn,drn,callee,wantedB,isW,eff,pev,pst0,retPost,resAll,resP,resV,intP,mkV,putC,pbin,sbin,strsEq,peq,pint,pshift,pstr,pun,pconv,isShift,isConstB,app,subS,lay,rowsOf,lkV,keyKind,keyEq,mfind,mput,oInt,isZeroInt,forall_const,exists_eq_left',implies_true,IntKind.bits, ↓reduceIte,Nat.reduceEqDiff,Nat.reduceAdd,Nat.reduceSub,Nat.reduceMul,Nat.reduceLT,Nat.reduceLeDiff,Nat.reduceBEq,Int.reduceLE,Int.reduceLT,Int.reduceToNat,reduceCtorEq,Ty.all,g0,g1,g12,gk,hll,hlm,hd,hr,hr2,he,w7,Bool.not_true]);rfl) (fun hb=>?_) (fun hb=>?_)<;>(try simp only[hb0,decide_eq_true_eq,decide_eq_false_iff_not,reduceCtorEq]at hb)<;>(try(exfalso;omega)))
      |(with_reducible refine ite_in (fun hb=>?_) (fun hb=>?_)<;>(try simp only[Decidable.not_not]at hb)<;>(try simp only[hb,if_true,if_false,not_false_eq_true,not_true_eq_false, ↓reduceIte])<;>(try simp only[hb0,decide_eq_true_eq,decide_eq_false_iff_not,reduceCtorEq]at hb)<;>(try(exfalso;omega)))
      |(refine hK _ _ ?_;clear hK;try simp only[pst0, ↓reduceIte,Nat.reduceEqDiff])
      |(clear hK;refine hK _ _ ?_;clear hK;try simp only[pst0, ↓reduceIte,Nat.reduceEqDiff])
      |(clear hK;clear hK;refine hK _ _ ?_;clear hK;try simp only[pst0, ↓reduceIte,Nat.reduceEqDiff])
      |(clear hK;clear hK;clear hK;refine hK _ _ ?_;clear hK;try simp only[pst0, ↓reduceIte,Nat.reduceEqDiff])
      |((first|(with_reducible refine a_past _ rfl (by decide+kernel) ?_)|(with_reducible refine a_past2 (by simp only[List.forall_mem_cons,undef,am0,am1,am2,am3,amb0,amb1,amb2,amb3,amb4,lwn,drn,callee,wantedB,isW,eff,pev,pst0,retPost,resAll,resP,resV,intP,mkV,putC,pbin,sbin,strsEq,peq,pint,pshift,pstr,pun,pconv,isShift,isConstB,app,subS,lay,rowsOf,lkV,keyKind,keyEq,mfind,mput,oInt,isZeroInt,forall_const,exists_eq_left',implies_true,IntKind.bits, ↓reduceIte,Nat.reduceEqDiff,Nat.reduceAdd,Nat.reduceSub,Nat.reduceMul,Nat.reduceLT,Nat.reduceLeDiff,Nat.reduceBEq,Int.reduceLE,Int.reduceLT,Int.reduceToNat,reduceCtorEq,Ty.all,g0,g1,g12,gk,hll,hlm,hd,hr,hr2,he,w7,Bool.not_true]<;>(repeat' apply And.intro)<;>first|trivial|exact .inl (by decide+kernel)) ?_));try simp(maxSteps:=2000000) only[undef,am0,am1,am2,am3,amb0,amb1,amb2,amb3,amb4,lwn,drn,callee,wantedB,isW,eff,pev,pst0,retPost,resAll,resP,resV,intP,mkV,putC,pbin,sbin,strsEq,peq,pint,pshift,pstr,pun,pconv,isShift,isConstB,app,subS,lay,rowsOf,lkV,keyKind,keyEq,mfind,mput,oInt,isZeroInt,forall_const,exists_eq_left',implies_true,IntKind.bits, ↓reduceIte,Nat.reduceEqDiff,Nat.reduceAdd,Nat.reduceSub,Nat.reduceMul,Nat.reduceLT,Nat.reduceLeDiff,Nat.reduceBEq,Int.reduceLE,Int.reduceLT,Int.reduceToNat,reduceCtorEq,Ty.all,g0,g1,g12,gk,hll,hlm,hd,hr,hr2,he,w7,Bool.not_true])
      |(rw[if_pos];rotate_left 1;omega;simp(maxSteps:=2000000) only[undef,am0,am1,am2,am3,amb0,amb1,amb2,amb3,amb4,lwn,drn,callee,wantedB,isW,eff,pev,pst0,retPost,resAll,resP,resV,intP,mkV,putC,pbin,sbin,strsEq,peq,pint,pshift,pstr,pun,pconv,isShift,isConstB,app,subS,lay,rowsOf,lkV,keyKind,keyEq,mfind,mput,oInt,isZeroInt,forall_const,exists_eq_left',implies_true,IntKind.bits, ↓reduceIte,Nat.reduceEqDiff,Nat.reduceAdd,Nat.reduceSub,Nat.reduceMul,Nat.reduceLT,Nat.reduceLeDiff,Nat.reduceBEq,Int.reduceLE,Int.reduceLT,Int.reduceToNat,reduceCtorEq,Ty.all,g0,g1,g12,gk,hll,hlm,hd,hr,hr2,he,w7,Bool.not_true]))
     exact⟨l.length-(k+1),by omega,k+1,by simp,by omega,rfl,hinv⟩
   ·have hd:decide ((k:Int)<(l.length:Int))=false:=by simp;omega
    rw[List.drop_eq_nil_of_le (by omega),List.drop_eq_nil_of_le (by omega)]at hinv
    simp only[bsEq]at hinv
    repeat'(first
     |refine a_seq fun K hK=>?_
     |(refine a_block ?_)
     |((first|refine a_regionS ?_|refine a_region (fun K hK=>?_)|refine a_ret ?_);simp(maxSteps:=2000000) only[undef,am0,am1,am2,am3,amb0,amb1,amb2,amb3,amb4,lwn,drn,callee,wantedB,isW,eff,pev,pst0,retPost,resAll,resP,resV,intP,mkV,putC,pbin,sbin,strsEq,peq,pint,pshift,pstr,pun,pconv,isShift,isConstB,app,subS,lay,rowsOf,lkV,keyKind,keyEq,mfind,mput,oInt,isZeroInt,forall_const,exists_eq_left',implies_true,IntKind.bits, ↓reduceIte,Nat.reduceEqDiff,Nat.reduceAdd,Nat.reduceSub,Nat.reduceMul,Nat.reduceLT,Nat.reduceLeDiff,Nat.reduceBEq,Int.reduceLE,Int.reduceLT,Int.reduceToNat,reduceCtorEq,Ty.all,g0,g1,g12,gk,hll,hd])
     |(refine a_skip ?_;try simp only[pst0, ↓reduceIte,Nat.reduceEqDiff])
     |(refine a_exit ?_;try simp only[pst0, ↓reduceIte,Nat.reduceEqDiff])
     |(refine a_cond _ (by(try simp(maxSteps:=2000000) only[undef,am0,am1,am2,am3,amb0,amb1,amb2,amb3,amb4,lwn,drn,callee,wantedB,isW,eff,pev,pst0,retPost,resAll,resP,resV,intP,mkV,putC,pbin,sbin,strsEq,peq,pint,pshift,pstr,pun,pconv,isShift,isConstB,app,subS,lay,rowsOf,lkV,keyKind,keyEq,mfind,mput,oInt,isZeroInt,forall_const,exists_eq_left',implies_true,IntKind.bits, ↓reduceIte,Nat.reduceEqDiff,Nat.reduceAdd,Nat.reduceSub,Nat.reduceMul,Nat.reduceLT,Nat.reduceLeDiff,Nat.reduceBEq,Int.reduceLE,Int.reduceLT,Int.reduceToNat,reduceCtorEq,Ty.all,g0,g1,g12,gk,hll,hd]);rfl) (fun hb=>?_) (fun hb=>?_)<;>(try simp only[hb0,decide_eq_true_eq,decide_eq_false_iff_not,reduceCtorEq]at hb)<;>(try(exfalso;omega)))
     |(with_reducible refine ite_in (fun hb=>?_) (fun hb=>?_)<;>(try simp only[Decidable.not_not]at hb)<;>(try simp only[hb,if_true,if_false,not_false_eq_true,not_true_eq_false, ↓reduceIte])<;>(try simp only[hb0,decide_eq_true_eq,decide_eq_false_iff_not,reduceCtorEq]at hb)<;>(try(exfalso;omega)))
     |(refine hK _ _ ?_;clear hK;try simp only[pst0, ↓reduceIte,Nat.reduceEqDiff])
     |(clear hK;refine hK _ _ ?_;clear hK;try simp only[pst0, ↓reduceIte,Nat.reduceEqDiff])
     |(clear hK;clear hK;refine hK _ _ ?_;clear hK;try simp only[pst0, ↓reduceIte,Nat.reduceEqDiff])
     |(clear hK;clear hK;clear hK;refine hK _ _ ?_;clear hK;try simp only[pst0, ↓reduceIte,Nat.reduceEqDiff])
     |(rw[if_pos];rotate_left 1;omega;simp(maxSteps:=2000000) only[undef,am0,am1,am2,am3,amb0,amb1,amb2,amb3,amb4,lwn,drn,callee,wantedB,isW,eff,pev,pst0,retPost,resAll,resP,resV,intP,mkV,putC,pbin,sbin,strsEq,peq,pint,pshift,pstr,pun,pconv,isShift,isConstB,app,subS,lay,rowsOf,lkV,keyKind,keyEq,mfind,mput,oInt,isZeroInt,forall_const,exists_eq_left',implies_true,IntKind.bits, ↓reduceIte,Nat.reduceEqDiff,Nat.reduceAdd,Nat.reduceSub,Nat.reduceMul,Nat.reduceLT,Nat.reduceLeDiff,Nat.reduceBEq,Int.reduceLE,Int.reduceLT,Int.reduceToNat,reduceCtorEq,Ty.all,g0,g1,g12,gk,hll,hd]))
    rw[hinv]
end Go.Proofs.YtdbmemfnjnkefaaGreat
namespace Go.Proofs.YtdbmemfnjnkefaaGreat
open Go.AM
set_option maxHeartbeats 4000000
set_option maxRecDepth 20000
theorem nsucc(n:Nat):(n=n+1)=False:=by simp
end Go.Proofs.YtdbmemfnjnkefaaGreat
namespace Go.AM
def At.same(a b:At):Bool:=bEq a.name b.name&&bsEq a.args b.args
def atsEq:List At→List At→Bool
 |[],[]=>true
 |a::l,b::m=>a.same b&&atsEq l m
 |_,_=>false
def Vl.same(a b:Vl):Bool:=(a.n==b.n)&&a.at_.same b.at_
def Vl.okS(v:Vl):Prop:=v.at_.ok
def cmpS:List ByteArray→List ByteArray→Int
 |[],[]=>0
 |[],m=>0-(m.length:Int)
 |l,[]=>(l.length:Int)
 |a::l,b::m=>bif Op.bytesLess a.data.toList b.data.toList then-1 else bif !(Op.bytesLess a.data.toList b.data.toList||(a.data.toList==b.data.toList))then 1 else cmpS l m
def cmpA(a b:At):Int:=bif bEq a.name b.name then cmpS a.args b.args else bif Op.bytesLess a.name.data.toList b.name.data.toList then-1 else 1
theorem less_self: ∀ l:List UInt8,Op.bytesLess l l=false
 |[]=>rfl
 |a::l=>by simp[Op.bytesLess,less_self l]
theorem cmpS_zero: ∀ l m:List ByteArray,(cmpS l m==0)=bsEq l m
 |[],[]=>rfl
 |[],b::m=>by
  simp only[cmpS,bsEq,List.length_cons]
  simp;omega
 |a::l,[]=>by
  simp only[cmpS,bsEq,List.length_cons]
  simp;omega
 |a::l,b::m=>by
  simp only[cmpS,bsEq,bEq]
  cases he:(a.data.toList==b.data.toList)with
  |true=>
   have h2:=eq_of_beq he
   rw[h2,less_self]
   simp only[cond_false,Bool.or_true,Bool.not_true,Bool.true_and]
   exact cmpS_zero l m
  |false=>
   cases hl:Op.bytesLess a.data.toList b.data.toList with
   |true=>simp only[cond_true,Bool.false_and];rfl
   |false=>simp only[cond_false,Bool.or_false,Bool.not_false,cond_true,Bool.false_and];rfl
theorem cmpA_zero(a b:At):(cmpA a b==0)=a.same b:=by
 unfold cmpA At.same
 cases he:bEq a.name b.name with
 |true=>simp only[cond_true,Bool.true_and];exact cmpS_zero _ _
 |false=>
  simp only[cond_false,Bool.false_and]
  cases Op.bytesLess a.name.data.toList b.name.data.toList<;>rfl
end Go.AM
namespace Go.Proofs.YtdbmemfnjnkefaaGreat
open Go.AM
set_option maxHeartbeats 4000000
set_option maxRecDepth 20000
theorem cmpS_step{l m:List ByteArray}{k:Nat}{a b:ByteArray}(hx:l[k]? =some a)(hy:m[k]? =some b):cmpS (l.drop k) (m.drop k)=bif Op.bytesLess a.data.toList b.data.toList then-1 else bif !(Op.bytesLess a.data.toList b.data.toList||(a.data.toList==b.data.toList))then 1 else cmpS (l.drop (k+1)) (m.drop (k+1)):=by
 rw[drop_of_get hx,drop_of_get hy];try rfl
theorem cmpS_end{l m:List ByteArray}{k:Nat}(h:¬ k<l.length∨¬ k<m.length)(hl:k≤l.length)(hm:k≤m.length):cmpS (l.drop k) (m.drop k)=(l.length:Int)-m.length:=by
 by_cases h1:k<l.length
 ·have h2:k=m.length:=by omega
  rw[show List.drop k m=[]from List.drop_eq_nil_of_le (by omega)]
  obtain⟨a,hx⟩: ∃ a,l[k]? =some a:=⟨_,List.getElem?_eq_getElem h1⟩
  have hlen:(l.drop k).length=l.length-k:=List.length_drop
  rw[drop_of_get hx]at hlen⊢
  simp only[cmpS]
  simp only[List.length_cons]at hlen⊢
  omega
 ·rw [show List.drop k l=[]from List.drop_eq_nil_of_le (by omega)]
  by_cases h2:k<m.length
  ·obtain ⟨b,hy⟩: ∃ b,m[k]? =some b:=⟨_,List.getElem?_eq_getElem h2⟩
   have hlen:(m.drop k).length=m.length-k:=List.length_drop
   rw[drop_of_get hy]at hlen⊢
   simp only[cmpS]
   simp only[List.length_cons]at hlen⊢
   omega
  ·rw [show List.drop k m=[]from List.drop_eq_nil_of_le (by omega)]
   simp only[cmpS]
   omega
theorem rcmpA_c{a b:At}(ha:a.ok)(hb:b.ok)(h:Heap):PCall Tryz.prog 23 [.agg (atRow a),.agg (atRow b)] h fun r h'=>r= .sc (.int .i64 (cmpA a b))∧h'=h:=by
 obtain⟨_,hal,_⟩:=ha
 obtain⟨_,hbl,_⟩:=hb
 unfold bigN at hal hbl
 unfold cmpA bEq
 obtain⟨name,args⟩:=a
 obtain⟨name3,args3⟩:=b
 simp only[atRow]at hal hbl⊢
 have hll:=strRows_len args
 have hlm:=strRows_len args3
 cases e0:(name.data.toList==name3.data.toList)with
 |false=>
  cases e1:Op.bytesLess name.data.toList name3.data.toList with
  |true=>
   refine pcall_body (ow:=fun _=>false) (wf:=fun _=>false) Ty.mixed Tryz.func23 rfl Ty.hb_23 (by rw[Tryz.ntmps23];simp) ?_
   rw[Tryz.ntmps23,Tryz.results23]
   repeat'(first
    |refine a_seq fun K hK=>?_
    |(refine a_block ?_)
    |((first|refine a_regionS ?_|refine a_region (fun K hK=>?_)|refine a_ret ?_);simp(maxSteps:=2000000) only[undef,am0,am1,am2,am3,amb0,amb1,amb2,amb3,amb4,lwn,drn,callee,wantedB,isW,eff,pev,pst0,retPost,resAll,resP,resV,intP,mkV,putC,pbin,sbin,strsEq,peq,pint,pshift,pstr,pun,pconv,isShift,isConstB,app,subS,lay,rowsOf,lkV,keyKind,keyEq,mfind,mput,oInt,isZeroInt,forall_const,exists_eq_left',implies_true,IntKind.bits, ↓reduceIte,Nat.reduceEqDiff,Nat.reduceAdd,Nat.reduceSub,Nat.reduceMul,Nat.reduceLT,Nat.reduceLeDiff,Nat.reduceBEq,Int.reduceLE,Int.reduceLT,Int.reduceToNat,reduceCtorEq,Ty.all,e0,e1,Bool.not_false])
    |(refine a_skip ?_;try simp only[pst0, ↓reduceIte,Nat.reduceEqDiff])
    |(refine a_exit ?_;try simp only[pst0, ↓reduceIte,Nat.reduceEqDiff])
    |(refine a_cond _ (by(try simp(maxSteps:=2000000) only[undef,am0,am1,am2,am3,amb0,amb1,amb2,amb3,amb4,lwn,drn,callee,wantedB,isW,eff,pev,pst0,retPost,resAll,resP,resV,intP,mkV,putC,pbin,sbin,strsEq,peq,pint,pshift,pstr,pun,pconv,isShift,isConstB,app,subS,lay,rowsOf,lkV,keyKind,keyEq,mfind,mput,oInt,isZeroInt,forall_const,exists_eq_left',implies_true,IntKind.bits, ↓reduceIte,Nat.reduceEqDiff,Nat.reduceAdd,Nat.reduceSub,Nat.reduceMul,Nat.reduceLT,Nat.reduceLeDiff,Nat.reduceBEq,Int.reduceLE,Int.reduceLT,Int.reduceToNat,reduceCtorEq,Ty.all,e0,e1,Bool.not_false]);rfl) (fun hb=>?_) (fun hb=>?_)<;>(try simp only[hb0,decide_eq_true_eq,decide_eq_false_iff_not,reduceCtorEq]at hb)<;>(try(exfalso;omega)))
    |(with_reducible refine ite_in (fun hb=>?_) (fun hb=>?_)<;>(try simp only[Decidable.not_not]at hb)<;>(try simp only[hb,if_true,if_false,not_false_eq_true,not_true_eq_false, ↓reduceIte])<;>(try simp only[hb0,decide_eq_true_eq,decide_eq_false_iff_not,reduceCtorEq]at hb)<;>(try(exfalso;omega)))
    |(refine hK _ _ ?_;clear hK;try simp only[pst0, ↓reduceIte,Nat.reduceEqDiff])
    |(clear hK;refine hK _ _ ?_;clear hK;try simp only[pst0, ↓reduceIte,Nat.reduceEqDiff])
    |(clear hK;clear hK;refine hK _ _ ?_;clear hK;try simp only[pst0, ↓reduceIte,Nat.reduceEqDiff])
    |(clear hK;clear hK;clear hK;refine hK _ _ ?_;clear hK;try simp only[pst0, ↓reduceIte,Nat.reduceEqDiff])
    |(rw[if_pos];rotate_left 1;omega;simp(maxSteps:=2000000) only[undef,am0,am1,am2,am3,amb0,amb1,amb2,amb3,amb4,lwn,drn,callee,wantedB,isW,eff,pev,pst0,retPost,resAll,resP,resV,intP,mkV,putC,pbin,sbin,strsEq,peq,pint,pshift,pstr,pun,pconv,isShift,isConstB,app,subS,lay,rowsOf,lkV,keyKind,keyEq,mfind,mput,oInt,isZeroInt,forall_const,exists_eq_left',implies_true,IntKind.bits, ↓reduceIte,Nat.reduceEqDiff,Nat.reduceAdd,Nat.reduceSub,Nat.reduceMul,Nat.reduceLT,Nat.reduceLeDiff,Nat.reduceBEq,Int.reduceLE,Int.reduceLT,Int.reduceToNat,reduceCtorEq,Ty.all,e0,e1,Bool.not_false]))
   all_goals rfl
  |false=>
   refine pcall_body (ow:=fun _=>false) (wf:=fun _=>false) Ty.mixed Tryz.func23 rfl Ty.hb_23 (by rw[Tryz.ntmps23];simp) ?_
   rw[Tryz.ntmps23,Tryz.results23]
   repeat'(first
    |refine a_seq fun K hK=>?_
    |(refine a_block ?_)
    |((first|refine a_regionS ?_|refine a_region (fun K hK=>?_)|refine a_ret ?_);simp(maxSteps:=2000000) only[undef,am0,am1,am2,am3,amb0,amb1,amb2,amb3,amb4,lwn,drn,callee,wantedB,isW,eff,pev,pst0,retPost,resAll,resP,resV,intP,mkV,putC,pbin,sbin,strsEq,peq,pint,pshift,pstr,pun,pconv,isShift,isConstB,app,subS,lay,rowsOf,lkV,keyKind,keyEq,mfind,mput,oInt,isZeroInt,forall_const,exists_eq_left',implies_true,IntKind.bits, ↓reduceIte,Nat.reduceEqDiff,Nat.reduceAdd,Nat.reduceSub,Nat.reduceMul,Nat.reduceLT,Nat.reduceLeDiff,Nat.reduceBEq,Int.reduceLE,Int.reduceLT,Int.reduceToNat,reduceCtorEq,Ty.all,e0,e1,Bool.not_false])
    |(refine a_skip ?_;try simp only[pst0, ↓reduceIte,Nat.reduceEqDiff])
    |(refine a_exit ?_;try simp only[pst0, ↓reduceIte,Nat.reduceEqDiff])
    |(refine a_cond _ (by(try simp(maxSteps:=2000000) only[undef,am0,am1,am2,am3,amb0,amb1,amb2,amb3,amb4,lwn,drn,callee,wantedB,isW,eff,pev,pst0,retPost,resAll,resP,resV,intP,mkV,putC,pbin,sbin,strsEq,peq,pint,pshift,pstr,pun,pconv,isShift,isConstB,app,subS,lay,rowsOf,lkV,keyKind,keyEq,mfind,mput,oInt,isZeroInt,forall_const,exists_eq_left',implies_true,IntKind.bits, ↓reduceIte,Nat.reduceEqDiff,Nat.reduceAdd,Nat.reduceSub,Nat.reduceMul,Nat.reduceLT,Nat.reduceLeDiff,Nat.reduceBEq,Int.reduceLE,Int.reduceLT,Int.reduceToNat,reduceCtorEq,Ty.all,e0,e1,Bool.not_false]);rfl) (fun hb=>?_) (fun hb=>?_)<;>(try simp only[hb0,decide_eq_true_eq,decide_eq_false_iff_not,reduceCtorEq]at hb)<;>(try(exfalso;omega)))
    |(with_reducible refine ite_in (fun hb=>?_) (fun hb=>?_)<;>(try simp only[Decidable.not_not]at hb)<;>(try simp only[hb,if_true,if_false,not_false_eq_true,not_true_eq_false, ↓reduceIte])<;>(try simp only[hb0,decide_eq_true_eq,decide_eq_false_iff_not,reduceCtorEq]at hb)<;>(try(exfalso;omega)))
    |(refine hK _ _ ?_;clear hK;try simp only[pst0, ↓reduceIte,Nat.reduceEqDiff])
    |(clear hK;refine hK _ _ ?_;clear hK;try simp only[pst0, ↓reduceIte,Nat.reduceEqDiff])
    |(clear hK;clear hK;refine hK _ _ ?_;clear hK;try simp only[pst0, ↓reduceIte,Nat.reduceEqDiff])
    |(clear hK;clear hK;clear hK;refine hK _ _ ?_;clear hK;try simp only[pst0, ↓reduceIte,Nat.reduceEqDiff])
    |(rw[if_pos];rotate_left 1;omega;simp(maxSteps:=2000000) only[undef,am0,am1,am2,am3,amb0,amb1,amb2,amb3,amb4,lwn,drn,callee,wantedB,isW,eff,pev,pst0,retPost,resAll,resP,resV,intP,mkV,putC,pbin,sbin,strsEq,peq,pint,pshift,pstr,pun,pconv,isShift,isConstB,app,subS,lay,rowsOf,lkV,keyKind,keyEq,mfind,mput,oInt,isZeroInt,forall_const,exists_eq_left',implies_true,IntKind.bits, ↓reduceIte,Nat.reduceEqDiff,Nat.reduceAdd,Nat.reduceSub,Nat.reduceMul,Nat.reduceLT,Nat.reduceLeDiff,Nat.reduceBEq,Int.reduceLE,Int.reduceLT,Int.reduceToNat,reduceCtorEq,Ty.all,e0,e1,Bool.not_false]))
   all_goals rfl
 |true=>
  simp only[cond_true]
  generalize hF:cmpS args args3=F
  refine pcall_body (ow:=fun _=>false) (wf:=fun _=>false) Ty.mixed Tryz.func23 rfl Ty.hb_23 (by rw[Tryz.ntmps23];simp) ?_
  rw[Tryz.ntmps23,Tryz.results23]
  repeat'(first
   |refine a_seq fun K hK=>?_
   |(refine a_block ?_)
   |((first|refine a_regionS ?_|refine a_region (fun K hK=>?_)|refine a_ret ?_);simp(maxSteps:=2000000) only[undef,am0,am1,am2,am3,amb0,amb1,amb2,amb3,amb4,lwn,drn,callee,wantedB,isW,eff,pev,pst0,retPost,resAll,resP,resV,intP,mkV,putC,pbin,sbin,strsEq,peq,pint,pshift,pstr,pun,pconv,isShift,isConstB,app,subS,lay,rowsOf,lkV,keyKind,keyEq,mfind,mput,oInt,isZeroInt,forall_const,exists_eq_left',implies_true,IntKind.bits, ↓reduceIte,Nat.reduceEqDiff,Nat.reduceAdd,Nat.reduceSub,Nat.reduceMul,Nat.reduceLT,Nat.reduceLeDiff,Nat.reduceBEq,Int.reduceLE,Int.reduceLT,Int.reduceToNat,reduceCtorEq,Ty.all,e0,Bool.not_true])
   |(refine a_skip ?_;try simp only[pst0, ↓reduceIte,Nat.reduceEqDiff])
   |(refine a_exit ?_;try simp only[pst0, ↓reduceIte,Nat.reduceEqDiff])
   |(refine a_cond _ (by(try simp(maxSteps:=2000000) only[undef,am0,am1,am2,am3,amb0,amb1,amb2,amb3,amb4,lwn,drn,callee,wantedB,isW,eff,pev,pst0,retPost,resAll,resP,resV,intP,mkV,putC,pbin,sbin,strsEq,peq,pint,pshift,pstr,pun,pconv,isShift,isConstB,app,subS,lay,rowsOf,lkV,keyKind,keyEq,mfind,mput,oInt,isZeroInt,forall_const,exists_eq_left',implies_true,IntKind.bits, ↓reduceIte,Nat.reduceEqDiff,Nat.reduceAdd,Nat.reduceSub,Nat.reduceMul,Nat.reduceLT,Nat.reduceLeDiff,Nat.reduceBEq,Int.reduceLE,Int.reduceLT,Int.reduceToNat,reduceCtorEq,Ty.all,e0,Bool.not_true]);rfl) (fun hb=>?_) (fun hb=>?_)<;>(try simp only[hb0,decide_eq_true_eq,decide_eq_false_iff_not,reduceCtorEq]at hb)<;>(try(exfalso;omega)))
   |(with_reducible refine ite_in (fun hb=>?_) (fun hb=>?_)<;>(try simp only[Decidable.not_not]at hb)<;>(try simp only[hb,if_true,if_false,not_false_eq_true,not_true_eq_false, ↓reduceIte])<;>(try simp only[hb0,decide_eq_true_eq,decide_eq_false_iff_not,reduceCtorEq]at hb)<;>(try(exfalso;omega)))
   |(refine hK _ _ ?_;clear hK;try simp only[pst0, ↓reduceIte,Nat.reduceEqDiff])
   |(clear hK;refine hK _ _ ?_;clear hK;try simp only[pst0, ↓reduceIte,Nat.reduceEqDiff])
   |(clear hK;clear hK;refine hK _ _ ?_;clear hK;try simp only[pst0, ↓reduceIte,Nat.reduceEqDiff])
   |(clear hK;clear hK;clear hK;refine hK _ _ ?_;clear hK;try simp only[pst0, ↓reduceIte,Nat.reduceEqDiff])
   |(rw[if_pos];rotate_left 1;omega;simp(maxSteps:=2000000) only[undef,am0,am1,am2,am3,amb0,amb1,amb2,amb3,amb4,lwn,drn,callee,wantedB,isW,eff,pev,pst0,retPost,resAll,resP,resV,intP,mkV,putC,pbin,sbin,strsEq,peq,pint,pshift,pstr,pun,pconv,isShift,isConstB,app,subS,lay,rowsOf,lkV,keyKind,keyEq,mfind,mput,oInt,isZeroInt,forall_const,exists_eq_left',implies_true,IntKind.bits, ↓reduceIte,Nat.reduceEqDiff,Nat.reduceAdd,Nat.reduceSub,Nat.reduceMul,Nat.reduceLT,Nat.reduceLeDiff,Nat.reduceBEq,Int.reduceLE,Int.reduceLT,Int.reduceToNat,reduceCtorEq,Ty.all,e0,Bool.not_true]))
  refine a_loop (fun c S h'=>h'=h∧S 2= .cptr [sPV name,.imm 1 (strRows args)]∧S 3= .cptr [sPV name3,.imm 1 (strRows args3)]∧ ∃ k:Nat,S 5= .sc (.int .i64 k)∧k≤args.length∧k≤args3.length∧c=args.length-k∧F=cmpS (args.drop k) (args3.drop k)) args.length ?_ ?_
  ·simp only[undef,am0,am1,am2,am3,amb0,amb1,amb2,amb3,amb4,lwn,drn,callee,wantedB,isW,eff,pev,pst0,retPost,resAll,resP,resV,intP,mkV,putC,pbin,sbin,strsEq,peq,pint,pshift,pstr,pun,pconv,isShift,isConstB,app,subS,lay,rowsOf,lkV,keyKind,keyEq,mfind,mput,oInt,isZeroInt,forall_const,exists_eq_left',implies_true,IntKind.bits, ↓reduceIte,Nat.reduceEqDiff,Nat.reduceAdd,Nat.reduceSub,Nat.reduceMul,Nat.reduceLT,Nat.reduceLeDiff,Nat.reduceBEq,Int.reduceLE,Int.reduceLT,Int.reduceToNat,reduceCtorEq]
   exact⟨0,rfl,by omega,by omega,rfl,by rw[← hF];try rfl⟩
  ·clear hF
   rintro c S h' ⟨rfl,g2,g3,k,g5,hka,hkb,rfl,hinv⟩
   by_cases h1:k<args.length
   ·have hd:decide ((k:Int)<(args.length:Int))=true:=by simp;omega
    by_cases h2:k<args3.length
    ·have hd2:decide ((k:Int)<(args3.length:Int))=true:=by simp;omega
     have w7:IntKind.i64.wrap ((k:Int)+1)=k+1:=by rw[wrap64 (by omega) (by omega)]
     obtain⟨a,hx⟩: ∃ a,args[k]? =some a:=⟨_,List.getElem?_eq_getElem h1⟩
     obtain⟨b,hy⟩: ∃ b,args3[k]? =some b:=⟨_,List.getElem?_eq_getElem h2⟩
     have hr:=strRows_get hx
     have hr2:=strRows_get hy
     rw[cmpS_step hx hy]at hinv
     cases c1:Op.bytesLess a.data.toList b.data.toList with
     |true=>
      rw[c1]at hinv
      simp only[cond_true]at hinv
      repeat'(first
       |refine a_seq fun K hK=>?_
       |(refine a_block ?_)
       |((first|refine a_regionS ?_|refine a_drawS (by decide+kernel) ?_|refine a_region (fun K hK=>?_)|refine a_draw (by decide+kernel) (fun K hK=>?_)|refine a_ret ?_);simp(maxSteps:=2000000) only[undef,am0,am1,am2,am3,amb0,amb1,amb2,amb3,amb4,lwn,drn,callee,wantedB,isW,eff,pev,pst0,retPost,resAll,resP,resV,intP,mkV,putC,pbin,sbin,strsEq,peq,pint,pshift,pstr,pun,pconv,isShift,isConstB,app,subS,lay,rowsOf,lkV,keyKind,keyEq,mfind,mput,oInt,isZeroInt,forall_const,exists_eq_left',implies_true,IntKind.bits, ↓reduceIte,Nat.reduceEqDiff,Nat.reduceAdd,Nat.reduceSub,Nat.reduceMul,Nat.reduceLT,Nat.reduceLeDiff,Nat.reduceBEq,Int.reduceLE,Int.reduceLT,Int.reduceToNat,reduceCtorEq,Ty.all,g2,g3,g5,hll,hlm,hd,hd2,hr,hr2,c1])
       |(refine a_skip ?_;try simp only[pst0, ↓reduceIte,Nat.reduceEqDiff])
       |(refine a_exit ?_;try simp only[pst0, ↓reduceIte,Nat.reduceEqDiff])
       |(refine a_cond _ (by(try simp(maxSteps:=2000000) only[undef,am0,am1,am2,am3,amb0,amb1,amb2,amb3,amb4,lwn,drn,callee,wantedB,isW,eff,pev,pst0,retPost,resAll,resP,resV,intP,mkV,putC,pbin,sbin,strsEq,peq,pint,pshift,pstr,pun,pconv,isShift,isConstB,app,subS,lay,rowsOf,lkV,keyKind,keyEq,mfind,mput,oInt,isZeroInt,forall_const,exists_eq_left',implies_true,IntKind.bits, ↓reduceIte,Nat.reduceEqDiff,Nat.reduceAdd,Nat.reduceSub,Nat.reduceMul,Nat.reduceLT,Nat.reduceLeDiff,Nat.reduceBEq,Int.reduceLE,Int.reduceLT,Int.reduceToNat,reduceCtorEq,Ty.all,g2,g3,g5,hll,hlm,hd,hd2,hr,hr2,c1]);rfl) (fun hb=>?_) (fun hb=>?_)<;>(try simp only[hb0,decide_eq_true_eq,decide_eq_false_iff_not,reduceCtorEq]at hb)<;>(try(exfalso;omega)))
       |(with_reducible refine ite_in (fun hb=>?_) (fun hb=>?_)<;>(try simp only[Decidable.not_not]at hb)<;>(try simp only[hb,if_true,if_false,not_false_eq_true,not_true_eq_false, ↓reduceIte])<;>(try simp only[hb0,decide_eq_true_eq,decide_eq_false_iff_not,reduceCtorEq]at hb)<;>(try(exfalso;omega)))
       |(refine hK _ _ ?_;clear hK;try simp only[pst0, ↓reduceIte,Nat.reduceEqDiff])
       |(clear hK;refine hK _ _ ?_;clear hK;try simp only[pst0, ↓reduceIte,Nat.reduceEqDiff])
       |(clear hK;clear hK;refine hK _ _ ?_;clear hK;try simp only[pst0, ↓reduceIte,Nat.reduceEqDiff])
       |(clear hK;clear hK;clear hK;refine hK _ _ ?_;clear hK;try simp only[pst0, ↓reduceIte,Nat.reduceEqDiff])
       |((first|(with_reducible refine a_past _ rfl (by decide+kernel) ?_)|(with_reducible refine a_past2 (by simp only[List.forall_mem_cons,undef,am0,am1,am2,am3,amb0,amb1,amb2,amb3,amb4,lwn,drn,callee,wantedB,isW,eff,pev,pst0,retPost,resAll,resP,resV,intP,mkV,putC,pbin,sbin,strsEq,peq,pint,pshift,pstr,pun,pconv,isShift,isConstB,app,subS,lay,rowsOf,lkV,keyKind,keyEq,mfind,mput,oInt,isZeroInt,forall_const,exists_eq_left',implies_true,IntKind.bits, ↓reduceIte,Nat.reduceEqDiff,Nat.reduceAdd,Nat.reduceSub,Nat.reduceMul,Nat.reduceLT,Nat.reduceLeDiff,Nat.reduceBEq,Int.reduceLE,Int.reduceLT,Int.reduceToNat,reduceCtorEq,Ty.all,g2,g3,g5,hll,hlm,hd,hd2,hr,hr2,c1]<;>(repeat' apply And.intro)<;>first|trivial|exact .inl (by decide+kernel)) ?_));try simp(maxSteps:=2000000) only[undef,am0,am1,am2,am3,amb0,amb1,amb2,amb3,amb4,lwn,drn,callee,wantedB,isW,eff,pev,pst0,retPost,resAll,resP,resV,intP,mkV,putC,pbin,sbin,strsEq,peq,pint,pshift,pstr,pun,pconv,isShift,isConstB,app,subS,lay,rowsOf,lkV,keyKind,keyEq,mfind,mput,oInt,isZeroInt,forall_const,exists_eq_left',implies_true,IntKind.bits, ↓reduceIte,Nat.reduceEqDiff,Nat.reduceAdd,Nat.reduceSub,Nat.reduceMul,Nat.reduceLT,Nat.reduceLeDiff,Nat.reduceBEq,Int.reduceLE,Int.reduceLT,Int.reduceToNat,reduceCtorEq,Ty.all,g2,g3,g5,hll,hlm,hd,hd2,hr,hr2,c1])
       |(rw[if_pos];rotate_left 1;omega;simp(maxSteps:=2000000) only[undef,am0,am1,am2,am3,amb0,amb1,amb2,amb3,amb4,lwn,drn,callee,wantedB,isW,eff,pev,pst0,retPost,resAll,resP,resV,intP,mkV,putC,pbin,sbin,strsEq,peq,pint,pshift,pstr,pun,pconv,isShift,isConstB,app,subS,lay,rowsOf,lkV,keyKind,keyEq,mfind,mput,oInt,isZeroInt,forall_const,exists_eq_left',implies_true,IntKind.bits, ↓reduceIte,Nat.reduceEqDiff,Nat.reduceAdd,Nat.reduceSub,Nat.reduceMul,Nat.reduceLT,Nat.reduceLeDiff,Nat.reduceBEq,Int.reduceLE,Int.reduceLT,Int.reduceToNat,reduceCtorEq,Ty.all,g2,g3,g5,hll,hlm,hd,hd2,hr,hr2,c1]))
      all_goals rw[hinv]
     |false=>
      rw[c1]at hinv
      simp only[cond_false,Bool.false_or]at hinv
      cases c2:(a.data.toList==b.data.toList)with
      |false=>
       rw[c2]at hinv
       simp only[Bool.not_false,cond_true]at hinv
       repeat'(first
        |refine a_seq fun K hK=>?_
        |(refine a_block ?_)
        |((first|refine a_regionS ?_|refine a_drawS (by decide+kernel) ?_|refine a_region (fun K hK=>?_)|refine a_draw (by decide+kernel) (fun K hK=>?_)|refine a_ret ?_);simp(maxSteps:=2000000) only[undef,am0,am1,am2,am3,amb0,amb1,amb2,amb3,amb4,lwn,drn,callee,wantedB,isW,eff,pev,pst0,retPost,resAll,resP,resV,intP,mkV,putC,pbin,sbin,strsEq,peq,pint,pshift,pstr,pun,pconv,isShift,isConstB,app,subS,lay,rowsOf,lkV,keyKind,keyEq,mfind,mput,oInt,isZeroInt,forall_const,exists_eq_left',implies_true,IntKind.bits, ↓reduceIte,Nat.reduceEqDiff,Nat.reduceAdd,Nat.reduceSub,Nat.reduceMul,Nat.reduceLT,Nat.reduceLeDiff,Nat.reduceBEq,Int.reduceLE,Int.reduceLT,Int.reduceToNat,reduceCtorEq,Ty.all,g2,g3,g5,hll,hlm,hd,hd2,hr,hr2,c1,c2,Bool.or_false,Bool.not_false])
        |(refine a_skip ?_;try simp only[pst0, ↓reduceIte,Nat.reduceEqDiff])
        |(refine a_exit ?_;try simp only[pst0, ↓reduceIte,Nat.reduceEqDiff])
        |(refine a_cond _ (by(try simp(maxSteps:=2000000) only[undef,am0,am1,am2,am3,amb0,amb1,amb2,amb3,amb4,lwn,drn,callee,wantedB,isW,eff,pev,pst0,retPost,resAll,resP,resV,intP,mkV,putC,pbin,sbin,strsEq,peq,pint,pshift,pstr,pun,pconv,isShift,isConstB,app,subS,lay,rowsOf,lkV,keyKind,keyEq,mfind,mput,oInt,isZeroInt,forall_const,exists_eq_left',implies_true,IntKind.bits, ↓reduceIte,Nat.reduceEqDiff,Nat.reduceAdd,Nat.reduceSub,Nat.reduceMul,Nat.reduceLT,Nat.reduceLeDiff,Nat.reduceBEq,Int.reduceLE,Int.reduceLT,Int.reduceToNat,reduceCtorEq,Ty.all,g2,g3,g5,hll,hlm,hd,hd2,hr,hr2,c1,c2,Bool.or_false,Bool.not_false]);rfl) (fun hb=>?_) (fun hb=>?_)<;>(try simp only[hb0,decide_eq_true_eq,decide_eq_false_iff_not,reduceCtorEq]at hb)<;>(try(exfalso;omega)))
        |(with_reducible refine ite_in (fun hb=>?_) (fun hb=>?_)<;>(try simp only[Decidable.not_not]at hb)<;>(try simp only[hb,if_true,if_false,not_false_eq_true,not_true_eq_false, ↓reduceIte])<;>(try simp only[hb0,decide_eq_true_eq,decide_eq_false_iff_not,reduceCtorEq]at hb)<;>(try(exfalso;omega)))
        |(refine hK _ _ ?_;clear hK;try simp only[pst0, ↓reduceIte,Nat.reduceEqDiff])
        |(clear hK;refine hK _ _ ?_;clear hK;try simp only[pst0, ↓reduceIte,Nat.reduceEqDiff])
        |(clear hK;clear hK;refine hK _ _ ?_;clear hK;try simp only[pst0, ↓reduceIte,Nat.reduceEqDiff])
        |(clear hK;clear hK;clear hK;refine hK _ _ ?_;clear hK;try simp only[pst0, ↓reduceIte,Nat.reduceEqDiff])
        |((first|(with_reducible refine a_past _ rfl (by decide+kernel) ?_)|(with_reducible refine a_past2 (by simp only[List.forall_mem_cons,undef,am0,am1,am2,am3,amb0,amb1,amb2,amb3,amb4,lwn,drn,callee,wantedB,isW,eff,pev,pst0,retPost,resAll,resP,resV,intP,mkV,putC,pbin,sbin,strsEq,peq,pint,pshift,pstr,pun,pconv,isShift,isConstB,app,subS,lay,rowsOf,lkV,keyKind,keyEq,mfind,mput,oInt,isZeroInt,forall_const,exists_eq_left',implies_true,IntKind.bits, ↓reduceIte,Nat.reduceEqDiff,Nat.reduceAdd,Nat.reduceSub,Nat.reduceMul,Nat.reduceLT,Nat.reduceLeDiff,Nat.reduceBEq,Int.reduceLE,Int.reduceLT,Int.reduceToNat,reduceCtorEq,Ty.all,g2,g3,g5,hll,hlm,hd,hd2,hr,hr2,c1,c2,Bool.or_false,Bool.not_false]<;>(repeat' apply And.intro)<;>first|trivial|exact .inl (by decide+kernel)) ?_));try simp(maxSteps:=2000000) only[undef,am0,am1,am2,am3,amb0,amb1,amb2,amb3,amb4,lwn,drn,callee,wantedB,isW,eff,pev,pst0,retPost,resAll,resP,resV,intP,mkV,putC,pbin,sbin,strsEq,peq,pint,pshift,pstr,pun,pconv,isShift,isConstB,app,subS,lay,rowsOf,lkV,keyKind,keyEq,mfind,mput,oInt,isZeroInt,forall_const,exists_eq_left',implies_true,IntKind.bits, ↓reduceIte,Nat.reduceEqDiff,Nat.reduceAdd,Nat.reduceSub,Nat.reduceMul,Nat.reduceLT,Nat.reduceLeDiff,Nat.reduceBEq,Int.reduceLE,Int.reduceLT,Int.reduceToNat,reduceCtorEq,Ty.all,g2,g3,g5,hll,hlm,hd,hd2,hr,hr2,c1,c2,Bool.or_false,Bool.not_false])
        |(rw[if_pos];rotate_left 1;omega;simp(maxSteps:=2000000) only[undef,am0,am1,am2,am3,amb0,amb1,amb2,amb3,amb4,lwn,drn,callee,wantedB,isW,eff,pev,pst0,retPost,resAll,resP,resV,intP,mkV,putC,pbin,sbin,strsEq,peq,pint,pshift,pstr,pun,pconv,isShift,isConstB,app,subS,lay,rowsOf,lkV,keyKind,keyEq,mfind,mput,oInt,isZeroInt,forall_const,exists_eq_left',implies_true,IntKind.bits, ↓reduceIte,Nat.reduceEqDiff,Nat.reduceAdd,Nat.reduceSub,Nat.reduceMul,Nat.reduceLT,Nat.reduceLeDiff,Nat.reduceBEq,Int.reduceLE,Int.reduceLT,Int.reduceToNat,reduceCtorEq,Ty.all,g2,g3,g5,hll,hlm,hd,hd2,hr,hr2,c1,c2,Bool.or_false,Bool.not_false]))
       all_goals rw[hinv]
      |true=>
       rw[c2]at hinv
       simp only[Bool.not_true,cond_false]at hinv
       repeat'(first
        |refine a_seq fun K hK=>?_
        |(refine a_block ?_)
        |((first|refine a_regionS ?_|refine a_drawS (by decide+kernel) ?_|refine a_region (fun K hK=>?_)|refine a_draw (by decide+kernel) (fun K hK=>?_)|refine a_ret ?_);simp(maxSteps:=2000000) only[undef,am0,am1,am2,am3,amb0,amb1,amb2,amb3,amb4,lwn,drn,callee,wantedB,isW,eff,pev,pst0,retPost,resAll,resP,resV,intP,mkV,putC,pbin,sbin,strsEq,peq,pint,pshift,pstr,pun,pconv,isShift,isConstB,app,subS,lay,rowsOf,lkV,keyKind,keyEq,mfind,mput,oInt,isZeroInt,forall_const,exists_eq_left',implies_true,IntKind.bits, ↓reduceIte,Nat.reduceEqDiff,Nat.reduceAdd,Nat.reduceSub,Nat.reduceMul,Nat.reduceLT,Nat.reduceLeDiff,Nat.reduceBEq,Int.reduceLE,Int.reduceLT,Int.reduceToNat,reduceCtorEq,Ty.all,g2,g3,g5,hll,hlm,hd,hd2,hr,hr2,c1,c2,Bool.or_true,Bool.not_true,w7])
        |(refine a_skip ?_;try simp only[pst0, ↓reduceIte,Nat.reduceEqDiff])
        |(refine a_exit ?_;try simp only[pst0, ↓reduceIte,Nat.reduceEqDiff])
        |(refine a_cond _ (by(try simp(maxSteps:=2000000) only[undef,am0,am1,am2,am3,amb0,amb1,amb2,amb3,amb4,lwn,drn,callee,wantedB,isW,eff,pev,pst0,retPost,resAll,resP,resV,intP,mkV,putC,pbin,sbin,strsEq,peq,pint,pshift,pstr,pun,pconv,isShift,isConstB,app,subS,lay,rowsOf,lkV,keyKind,keyEq,mfind,mput,oInt,isZeroInt,forall_const,exists_eq_left',implies_true,IntKind.bits, ↓reduceIte,Nat.reduceEqDiff,Nat.reduceAdd,Nat.reduceSub,Nat.reduceMul,Nat.reduceLT,Nat.reduceLeDiff,Nat.reduceBEq,Int.reduceLE,Int.reduceLT,Int.reduceToNat,reduceCtorEq,Ty.all,g2,g3,g5,hll,hlm,hd,hd2,hr,hr2,c1,c2,Bool.or_true,Bool.not_true,w7]);rfl) (fun hb=>?_) (fun hb=>?_)<;>(try simp only[hb0,decide_eq_true_eq,decide_eq_false_iff_not,reduceCtorEq]at hb)<;>(try(exfalso;omega)))
        |(with_reducible refine ite_in (fun hb=>?_) (fun hb=>?_)<;>(try simp only[Decidable.not_not]at hb)<;>(try simp only[hb,if_true,if_false,not_false_eq_true,not_true_eq_false, ↓reduceIte])<;>(try simp only[hb0,decide_eq_true_eq,decide_eq_false_iff_not,reduceCtorEq]at hb)<;>(try(exfalso;omega)))
        |(refine hK _ _ ?_;clear hK;try simp only[pst0, ↓reduceIte,Nat.reduceEqDiff])
        |(clear hK;refine hK _ _ ?_;clear hK;try simp only[pst0, ↓reduceIte,Nat.reduceEqDiff])
        |(clear hK;clear hK;refine hK _ _ ?_;clear hK;try simp only[pst0, ↓reduceIte,Nat.reduceEqDiff])
        |(clear hK;clear hK;clear hK;refine hK _ _ ?_;clear hK;try simp only[pst0, ↓reduceIte,Nat.reduceEqDiff])
        |((first|(with_reducible refine a_past _ rfl (by decide+kernel) ?_)|(with_reducible refine a_past2 (by simp only[List.forall_mem_cons,undef,am0,am1,am2,am3,amb0,amb1,amb2,amb3,amb4,lwn,drn,callee,wantedB,isW,eff,pev,pst0,retPost,resAll,resP,resV,intP,mkV,putC,pbin,sbin,strsEq,peq,pint,pshift,pstr,pun,pconv,isShift,isConstB,app,subS,lay,rowsOf,lkV,keyKind,keyEq,mfind,mput,oInt,isZeroInt,forall_const,exists_eq_left',implies_true,IntKind.bits, ↓reduceIte,Nat.reduceEqDiff,Nat.reduceAdd,Nat.reduceSub,Nat.reduceMul,Nat.reduceLT,Nat.reduceLeDiff,Nat.reduceBEq,Int.reduceLE,Int.reduceLT,Int.reduceToNat,reduceCtorEq,Ty.all,g2,g3,g5,hll,hlm,hd,hd2,hr,hr2,c1,c2,Bool.or_true,Bool.not_true,w7]<;>(repeat' apply And.intro)<;>first|trivial|exact .inl (by decide+kernel)) ?_));try simp(maxSteps:=2000000) only[undef,am0,am1,am2,am3,amb0,amb1,amb2,amb3,amb4,lwn,drn,callee,wantedB,isW,eff,pev,pst0,retPost,resAll,resP,resV,intP,mkV,putC,pbin,sbin,strsEq,peq,pint,pshift,pstr,pun,pconv,isShift,isConstB,app,subS,lay,rowsOf,lkV,keyKind,keyEq,mfind,mput,oInt,isZeroInt,forall_const,exists_eq_left',implies_true,IntKind.bits, ↓reduceIte,Nat.reduceEqDiff,Nat.reduceAdd,Nat.reduceSub,Nat.reduceMul,Nat.reduceLT,Nat.reduceLeDiff,Nat.reduceBEq,Int.reduceLE,Int.reduceLT,Int.reduceToNat,reduceCtorEq,Ty.all,g2,g3,g5,hll,hlm,hd,hd2,hr,hr2,c1,c2,Bool.or_true,Bool.not_true,w7])
        |(rw[if_pos];rotate_left 1;omega;simp(maxSteps:=2000000) only[undef,am0,am1,am2,am3,amb0,amb1,amb2,amb3,amb4,lwn,drn,callee,wantedB,isW,eff,pev,pst0,retPost,resAll,resP,resV,intP,mkV,putC,pbin,sbin,strsEq,peq,pint,pshift,pstr,pun,pconv,isShift,isConstB,app,subS,lay,rowsOf,lkV,keyKind,keyEq,mfind,mput,oInt,isZeroInt,forall_const,exists_eq_left',implies_true,IntKind.bits, ↓reduceIte,Nat.reduceEqDiff,Nat.reduceAdd,Nat.reduceSub,Nat.reduceMul,Nat.reduceLT,Nat.reduceLeDiff,Nat.reduceBEq,Int.reduceLE,Int.reduceLT,Int.reduceToNat,reduceCtorEq,Ty.all,g2,g3,g5,hll,hlm,hd,hd2,hr,hr2,c1,c2,Bool.or_true,Bool.not_true,w7]))
       exact⟨args.length-(k+1),by omega,k+1,by simp,by omega,by omega,rfl,hinv⟩
    ·have hd2:decide ((k:Int)<(args3.length:Int))=false:=by simp;omega
     rw[cmpS_end (.inr h2) hka hkb]at hinv
     have wr:IntKind.i64.wrap ((args.length:Int)-(args3.length:Int))=(args.length:Int)-args3.length:=by rw[wrap64 (by omega) (by omega)]
     repeat'(first
      |refine a_seq fun K hK=>?_
      |(refine a_block ?_)
      |((first|refine a_regionS ?_|refine a_region (fun K hK=>?_)|refine a_ret ?_);simp(maxSteps:=2000000) only[undef,am0,am1,am2,am3,amb0,amb1,amb2,amb3,amb4,lwn,drn,callee,wantedB,isW,eff,pev,pst0,retPost,resAll,resP,resV,intP,mkV,putC,pbin,sbin,strsEq,peq,pint,pshift,pstr,pun,pconv,isShift,isConstB,app,subS,lay,rowsOf,lkV,keyKind,keyEq,mfind,mput,oInt,isZeroInt,forall_const,exists_eq_left',implies_true,IntKind.bits, ↓reduceIte,Nat.reduceEqDiff,Nat.reduceAdd,Nat.reduceSub,Nat.reduceMul,Nat.reduceLT,Nat.reduceLeDiff,Nat.reduceBEq,Int.reduceLE,Int.reduceLT,Int.reduceToNat,reduceCtorEq,Ty.all,g2,g3,g5,hll,hlm,hd,hd2,wr])
      |(refine a_skip ?_;try simp only[pst0, ↓reduceIte,Nat.reduceEqDiff])
      |(refine a_exit ?_;try simp only[pst0, ↓reduceIte,Nat.reduceEqDiff])
      |(refine a_cond _ (by(try simp(maxSteps:=2000000) only[undef,am0,am1,am2,am3,amb0,amb1,amb2,amb3,amb4,lwn,drn,callee,wantedB,isW,eff,pev,pst0,retPost,resAll,resP,resV,intP,mkV,putC,pbin,sbin,strsEq,peq,pint,pshift,pstr,pun,pconv,isShift,isConstB,app,subS,lay,rowsOf,lkV,keyKind,keyEq,mfind,mput,oInt,isZeroInt,forall_const,exists_eq_left',implies_true,IntKind.bits, ↓reduceIte,Nat.reduceEqDiff,Nat.reduceAdd,Nat.reduceSub,Nat.reduceMul,Nat.reduceLT,Nat.reduceLeDiff,Nat.reduceBEq,Int.reduceLE,Int.reduceLT,Int.reduceToNat,reduceCtorEq,Ty.all,g2,g3,g5,hll,hlm,hd,hd2,wr]);rfl) (fun hb=>?_) (fun hb=>?_)<;>(try simp only[hb0,decide_eq_true_eq,decide_eq_false_iff_not,reduceCtorEq]at hb)<;>(try(exfalso;omega)))
      |(with_reducible refine ite_in (fun hb=>?_) (fun hb=>?_)<;>(try simp only[Decidable.not_not]at hb)<;>(try simp only[hb,if_true,if_false,not_false_eq_true,not_true_eq_false, ↓reduceIte])<;>(try simp only[hb0,decide_eq_true_eq,decide_eq_false_iff_not,reduceCtorEq]at hb)<;>(try(exfalso;omega)))
      |(refine hK _ _ ?_;clear hK;try simp only[pst0, ↓reduceIte,Nat.reduceEqDiff])
      |(clear hK;refine hK _ _ ?_;clear hK;try simp only[pst0, ↓reduceIte,Nat.reduceEqDiff])
      |(clear hK;clear hK;refine hK _ _ ?_;clear hK;try simp only[pst0, ↓reduceIte,Nat.reduceEqDiff])
      |(clear hK;clear hK;clear hK;refine hK _ _ ?_;clear hK;try simp only[pst0, ↓reduceIte,Nat.reduceEqDiff])
      |(rw[if_pos];rotate_left 1;omega;simp(maxSteps:=2000000) only[undef,am0,am1,am2,am3,amb0,amb1,amb2,amb3,amb4,lwn,drn,callee,wantedB,isW,eff,pev,pst0,retPost,resAll,resP,resV,intP,mkV,putC,pbin,sbin,strsEq,peq,pint,pshift,pstr,pun,pconv,isShift,isConstB,app,subS,lay,rowsOf,lkV,keyKind,keyEq,mfind,mput,oInt,isZeroInt,forall_const,exists_eq_left',implies_true,IntKind.bits, ↓reduceIte,Nat.reduceEqDiff,Nat.reduceAdd,Nat.reduceSub,Nat.reduceMul,Nat.reduceLT,Nat.reduceLeDiff,Nat.reduceBEq,Int.reduceLE,Int.reduceLT,Int.reduceToNat,reduceCtorEq,Ty.all,g2,g3,g5,hll,hlm,hd,hd2,wr]))
     all_goals rw[hinv]
   ·have hd:decide ((k:Int)<(args.length:Int))=false:=by simp;omega
    rw[cmpS_end (.inl h1) hka hkb]at hinv
    have wr:IntKind.i64.wrap ((args.length:Int)-(args3.length:Int))=(args.length:Int)-args3.length:=by rw[wrap64 (by omega) (by omega)]
    repeat'(first
     |refine a_seq fun K hK=>?_
     |(refine a_block ?_)
     |((first|refine a_regionS ?_|refine a_region (fun K hK=>?_)|refine a_ret ?_);simp(maxSteps:=2000000) only[undef,am0,am1,am2,am3,amb0,amb1,amb2,amb3,amb4,lwn,drn,callee,wantedB,isW,eff,pev,pst0,retPost,resAll,resP,resV,intP,mkV,putC,pbin,sbin,strsEq,peq,pint,pshift,pstr,pun,pconv,isShift,isConstB,app,subS,lay,rowsOf,lkV,keyKind,keyEq,mfind,mput,oInt,isZeroInt,forall_const,exists_eq_left',implies_true,IntKind.bits, ↓reduceIte,Nat.reduceEqDiff,Nat.reduceAdd,Nat.reduceSub,Nat.reduceMul,Nat.reduceLT,Nat.reduceLeDiff,Nat.reduceBEq,Int.reduceLE,Int.reduceLT,Int.reduceToNat,reduceCtorEq,Ty.all,g2,g3,g5,hll,hlm,hd,wr])
     |(refine a_skip ?_;try simp only[pst0, ↓reduceIte,Nat.reduceEqDiff])
     |(refine a_exit ?_;try simp only[pst0, ↓reduceIte,Nat.reduceEqDiff])
     |(refine a_cond _ (by(try simp(maxSteps:=2000000) only[undef,am0,am1,am2,am3,amb0,amb1,amb2,amb3,amb4,lwn,drn,callee,wantedB,isW,eff,pev,pst0,retPost,resAll,resP,resV,intP,mkV,putC,pbin,sbin,strsEq,peq,pint,pshift,pstr,pun,pconv,isShift,isConstB,app,subS,lay,rowsOf,lkV,keyKind,keyEq,mfind,mput,oInt,isZeroInt,forall_const,exists_eq_left',implies_true,IntKind.bits, ↓reduceIte,Nat.reduceEqDiff,Nat.reduceAdd,Nat.reduceSub,Nat.reduceMul,Nat.reduceLT,Nat.reduceLeDiff,Nat.reduceBEq,Int.reduceLE,Int.reduceLT,Int.reduceToNat,reduceCtorEq,Ty.all,g2,g3,g5,hll,hlm,hd,wr]);rfl) (fun hb=>?_) (fun hb=>?_)<;>(try simp only[hb0,decide_eq_true_eq,decide_eq_false_iff_not,reduceCtorEq]at hb)<;>(try(exfalso;omega)))
     |(with_reducible refine ite_in (fun hb=>?_) (fun hb=>?_)<;>(try simp only[Decidable.not_not]at hb)<;>(try simp only[hb,if_true,if_false,not_false_eq_true,not_true_eq_false, ↓reduceIte])<;>(try simp only[hb0,decide_eq_true_eq,decide_eq_false_iff_not,reduceCtorEq]at hb)<;>(try(exfalso;omega)))
     |(refine hK _ _ ?_;clear hK;try simp only[pst0, ↓reduceIte,Nat.reduceEqDiff])
     |(clear hK;refine hK _ _ ?_;clear hK;try simp only[pst0, ↓reduceIte,Nat.reduceEqDiff])
     |(clear hK;clear hK;refine hK _ _ ?_;clear hK;try simp only[pst0, ↓reduceIte,Nat.reduceEqDiff])
     |(clear hK;clear hK;clear hK;refine hK _ _ ?_;clear hK;try simp only[pst0, ↓reduceIte,Nat.reduceEqDiff])
     |(rw[if_pos];rotate_left 1;omega;simp(maxSteps:=2000000) only[undef,am0,am1,am2,am3,amb0,amb1,amb2,amb3,amb4,lwn,drn,callee,wantedB,isW,eff,pev,pst0,retPost,resAll,resP,resV,intP,mkV,putC,pbin,sbin,strsEq,peq,pint,pshift,pstr,pun,pconv,isShift,isConstB,app,subS,lay,rowsOf,lkV,keyKind,keyEq,mfind,mput,oInt,isZeroInt,forall_const,exists_eq_left',implies_true,IntKind.bits, ↓reduceIte,Nat.reduceEqDiff,Nat.reduceAdd,Nat.reduceSub,Nat.reduceMul,Nat.reduceLT,Nat.reduceLeDiff,Nat.reduceBEq,Int.reduceLE,Int.reduceLT,Int.reduceToNat,reduceCtorEq,Ty.all,g2,g3,g5,hll,hlm,hd,wr]))
    all_goals rw[hinv]
end Go.Proofs.YtdbmemfnjnkefaaGreat
