/- What the claim rests on, part 3: the abstract machine, contracts of the functions, plain data. -/
import Derived.Test.YtdekkbdlcblhcaaZi2
set_option linter.unusedVariables false
set_option linter.unusedSimpArgs false
set_option linter.unusedSectionVars false
namespace Go.AM
structure Pm where
 name:ByteArray
 type:ByteArray
inductive Ex where
 |mk(op name:ByteArray)(n:Int)(args:List ByteArray)(kids:List Ex)
inductive Fm where
 |mk(op name:ByteArray)(args:List ByteArray)(params:List Pm)(exprs:List Ex)(kids:List Fm)
abbrev sPV(s:ByteArray):PV:= .sc (.string s)
def strRows(l:List ByteArray):List (List PV):=l.map fun s=>[sPV s]
def pmRow(p:Pm):List PV:=[sPV p.name,sPV p.type]
def pmRows(l:List Pm):List (List PV):=l.map pmRow
theorem pmRows_len(l:List Pm):(pmRows l).length=l.length:=by simp[pmRows]
mutual
def Ex.cells:Ex→List PV
 | .mk op name n args kids=>[sPV op,sPV name,.sc (.int .i64 n),.imm 1 (strRows args),.imm 5 (Ex.rows kids)]
def Ex.rows:List Ex→List (List PV)
 |[]=>[]
 |k::ks=>k.cells::Ex.rows ks
end
mutual
def Fm.cells:Fm→List PV
 | .mk op name args params exprs kids=>[sPV op,sPV name,.imm 1 (strRows args),.imm 2 (pmRows params),.imm 5 (Ex.rows exprs),.imm 6 (Fm.rows kids)]
def Fm.rows:List Fm→List (List PV)
 |[]=>[]
 |k::ks=>k.cells::Fm.rows ks
end
theorem Ex.rows_map: ∀ l:List Ex,Ex.rows l=l.map Ex.cells
 |[]=>rfl
 |k::ks=>by simp[Ex.rows,Ex.rows_map ks]
theorem Fm.rows_map: ∀ l:List Fm,Fm.rows l=l.map Fm.cells
 |[]=>rfl
 |k::ks=>by simp[Fm.rows,Fm.rows_map ks]
mutual
def Ex.size:Ex→Int
 | .mk _ _ _ _ kids=>Ex.sizes 1 kids
def Ex.sizes(n:Int):List Ex→Int
 |[]=>n
 |k::ks=>Ex.sizes (IntKind.i64.wrap (n+k.size)) ks
end
mutual
def Fm.size:Fm→Int
 | .mk _ _ _ _ exprs kids=>Fm.sizes (Ex.sizes 1 exprs) kids
def Fm.sizes(n:Int):List Fm→Int
 |[]=>n
 |k::ks=>Fm.sizes (IntKind.i64.wrap (n+k.size)) ks
end
def bEq(a b:ByteArray):Bool:=a.data.toList==b.data.toList
def bsEq:List ByteArray→List ByteArray→Bool
 |[],[]=>true
 |a::l,b::m=>bEq a b&&bsEq l m
 |_,_=>false
theorem Ex.rows_len(l:List Ex):(Ex.rows l).length=l.length:=by simp[Ex.rows_map]
theorem Fm.rows_len(l:List Fm):(Fm.rows l).length=l.length:=by simp[Fm.rows_map]
theorem Ex.rows_get{l:List Ex}{i:Nat}{k:Ex}(h:l[i]? =some k):(Ex.rows l)[i]? =some k.cells:=by simp[Ex.rows_map,h]
theorem Fm.rows_get{l:List Fm}{i:Nat}{k:Fm}(h:l[i]? =some k):(Fm.rows l)[i]? =some k.cells:=by simp[Fm.rows_map,h]
theorem Ex.ind{C:Ex→Prop}(hC: ∀ op name n args kids,(∀ k∈kids,C k)→C (.mk op name n args kids)): ∀ e,C e
 | .mk op name n args kids=>hC op name n args kids fun k hk=>Ex.ind hC k
termination_by e=>SizeOf.sizeOf e
decreasing_by
 have:=List.sizeOf_lt_of_mem hk
 simp only[Ex.mk.sizeOf_spec]
 omega
theorem Fm.ind{C:Fm→Prop}(hC: ∀ op name args params exprs kids,(∀ k∈kids,C k)→C (.mk op name args params exprs kids)): ∀ f,C f
 | .mk op name args params exprs kids=>hC op name args params exprs kids fun k hk=>Fm.ind hC k
termination_by f=>SizeOf.sizeOf f
decreasing_by
 have:=List.sizeOf_lt_of_mem hk
 simp only[Fm.mk.sizeOf_spec]
 omega
theorem Ex.sizes_append: ∀ (l m:List Ex)(n:Int),Ex.sizes n (l++m)=Ex.sizes (Ex.sizes n l) m
 |[],m,n=>by simp[Ex.sizes]
 |k::l,m,n=>by simp only[List.cons_append,Ex.sizes];exact Ex.sizes_append l m _
theorem Fm.sizes_append: ∀ (l m:List Fm)(n:Int),Fm.sizes n (l++m)=Fm.sizes (Fm.sizes n l) m
 |[],m,n=>by simp[Fm.sizes]
 |k::l,m,n=>by simp only[List.cons_append,Fm.sizes];exact Fm.sizes_append l m _
theorem Ex.sizes_take{l:List Ex}{i:Nat}{k:Ex}(n:Int)(h:l[i]? =some k):Ex.sizes n (l.take (i+1))=IntKind.i64.wrap (Ex.sizes n (l.take i)+k.size):=by
 rw[List.take_add_one,h,Ex.sizes_append];try rfl
theorem Fm.sizes_take{l:List Fm}{i:Nat}{k:Fm}(n:Int)(h:l[i]? =some k):Fm.sizes n (l.take (i+1))=IntKind.i64.wrap (Fm.sizes n (l.take i)+k.size):=by
 rw[List.take_add_one,h,Fm.sizes_append];try rfl
def bigN:Nat:=1152921504606846976
mutual
def Ex.ok:Ex→Prop
 | .mk op name n args kids=>op.size≤bigN∧name.size≤bigN∧(-9223372036854775808≤n∧n≤9223372036854775807)∧(args.length≤bigN∧ ∀ a∈args,a.size≤bigN)∧kids.length≤bigN∧Ex.oks kids
def Ex.oks:List Ex→Prop
 |[]=>True
 |k::ks=>k.ok∧Ex.oks ks
end
def Pm.ok(p:Pm):Prop:=p.name.size≤bigN∧p.type.size≤bigN
mutual
def Fm.ok:Fm→Prop
 | .mk op name args params exprs kids=>op.size≤bigN∧name.size≤bigN∧(args.length≤bigN∧ ∀ a∈args,a.size≤bigN)∧(params.length≤bigN∧ ∀ p∈params,p.ok)∧(exprs.length≤bigN∧Ex.oks exprs)∧kids.length≤bigN∧Fm.oks kids
def Fm.oks:List Fm→Prop
 |[]=>True
 |k::ks=>k.ok∧Fm.oks ks
end
theorem Ex.oks_iff:{l:List Ex}→(Ex.oks l↔ ∀ k∈l,k.ok)
 |[]=>by simp[Ex.oks]
 |k::ks=>by simp[Ex.oks,Ex.oks_iff (l:=ks)]
theorem Fm.oks_iff:{l:List Fm}→(Fm.oks l↔ ∀ k∈l,k.ok)
 |[]=>by simp[Fm.oks]
 |k::ks=>by simp[Fm.oks,Fm.oks_iff (l:=ks)]
structure Grow(h h':Heap):Prop where
 le:h.next≤h'.next
 old: ∀ id,id<h.next→h'.obj id=h.obj id
theorem Grow.refl(h:Heap):Grow h h:=⟨Nat.le_refl _,fun _ _=>rfl⟩
theorem Grow.new{h h':Heap}(g:Grow h h')(o:AObj):Grow h (h'.new o):=
 ⟨Nat.le_trans g.le (by simp[Heap.new]),fun id hid=>by simp only[Heap.new];rw[if_neg (by have:=g.le;omega)];exact g.old id hid⟩
theorem Grow.set{h h':Heap}(g:Grow h h'){id:Nat}(hid:h.next≤id)(o:AObj):Grow h (h'.set id o):=
 ⟨g.le,fun i hi=>by simp only[Heap.set];rw[if_neg (by omega)];exact g.old i hi⟩
end Go.AM
namespace Go.AM
structure At where
 name:ByteArray
 args:List ByteArray
structure Vl where
 at_:At
 n:Int
structure Pb where
 name:ByteArray
 domain:ByteArray
 objects:List Pm
 init:List At
 values:List Vl
 goal:Fm
def atRow(a:At):List PV:=[sPV a.name,.imm 1 (strRows a.args)]
def atRows(l:List At):List (List PV):=l.map atRow
theorem atRows_len(l:List At):(atRows l).length=l.length:=by simp[atRows]
theorem atRows_get{l:List At}{i:Nat}{a:At}(h:l[i]? =some a):(atRows l)[i]? =some [sPV a.name,.imm 1 (strRows a.args)]:=by simp[atRows,h,atRow]
def vlRow(v:Vl):List PV:=[sPV v.at_.name,.imm 1 (strRows v.at_.args),.sc (.int .i64 v.n)]
def vlRows(l:List Vl):List (List PV):=l.map vlRow
theorem vlRows_len(l:List Vl):(vlRows l).length=l.length:=by simp[vlRows]
theorem vlRows_get{l:List Vl}{i:Nat}{v:Vl}(h:l[i]? =some v):(vlRows l)[i]? =some [sPV v.at_.name,.imm 1 (strRows v.at_.args),.sc (.int .i64 v.n)]:=by simp[vlRows,h,vlRow]
def Pb.cells(p:Pb):List PV:=[sPV p.name,sPV p.domain,.imm 2 (pmRows p.objects),.imm 2 (atRows p.init),.imm 3 (vlRows p.values)]++p.goal.cells
def At.ok(a:At):Prop:=a.name.size≤bigN∧a.args.length≤bigN∧ ∀ s∈a.args,s.size≤bigN
end Go.AM
namespace Go.AM
set_option maxRecDepth 20000
variable {P:Program}{ow:Nat→Bool}{s:Slots}{h:Heap}
theorem am0:type_of% (And.intro @rowsI_len (And.intro @ex2_eq (And.intro @new_obj (And.intro @kill_obj (And.intro @set_obj (And.intro @new_next (And.intro @kill_next (And.intro @set_next (And.intro @lenP_imm (And.intro @lenP_emp (And.intro @lenP_nil (And.intro @lenP_own (And.intro @lenP_str (And.intro @lenP_mnil (And.intro @lenP_mp (And.intro @lenK_imm (And.intro @lenK_emp (And.intro @lenK_nil (And.intro @lenK_own (And.intro @lenK_str (And.intro @lenK_mnil (And.intro @lenK_mp (And.intro @idx_imm (And.intro @idx_own (And.intro @idxA_ptr (And.intro @idxA_cptr (And.intro @fldP_ptr (And.intro @fldP_cptr (And.intro @rd_ptr (And.intro @rd_cptr (And.intro @wr_ptr (And.intro @view_imm (And.intro @view_emp (@view_nil)))))))))))))))))))))))))))))))))):=And.intro @rowsI_len (And.intro @ex2_eq (And.intro @new_obj (And.intro @kill_obj (And.intro @set_obj (And.intro @new_next (And.intro @kill_next (And.intro @set_next (And.intro @lenP_imm (And.intro @lenP_emp (And.intro @lenP_nil (And.intro @lenP_own (And.intro @lenP_str (And.intro @lenP_mnil (And.intro @lenP_mp (And.intro @lenK_imm (And.intro @lenK_emp (And.intro @lenK_nil (And.intro @lenK_own (And.intro @lenK_str (And.intro @lenK_mnil (And.intro @lenK_mp (And.intro @idx_imm (And.intro @idx_own (And.intro @idxA_ptr (And.intro @idxA_cptr (And.intro @fldP_ptr (And.intro @fldP_cptr (And.intro @rd_ptr (And.intro @rd_cptr (And.intro @wr_ptr (And.intro @view_imm (And.intro @view_emp (@view_nil)))))))))))))))))))))))))))))))))
theorem am1:type_of% (And.intro @view_own (And.intro @zOk_imm (And.intro @zOk_emp (And.intro @zOk_nil (And.intro @zOk_own (And.intro @isTail_emp (And.intro @isTail_nil (And.intro @isTail_own (And.intro @isSl_imm (And.intro @isSl_own (And.intro @isSl_emp (And.intro @isSl_nil (And.intro @mview_nil (And.intro @mview_mp (And.intro @subL_imm (And.intro @subL_own (And.intro @cells_agg (And.intro @cells_sc (And.intro @cells_imm (And.intro @cells_own (And.intro @cells_ptr (And.intro @cells_cptr (And.intro @cells_emp (And.intro @cells_mp (And.intro @oneC_int (And.intro @oneC_bool (And.intro @oneC_str (And.intro @oneC_nilI (And.intro @oneC_if (And.intro @oneC_p (And.intro @oneC_s (And.intro @oneC_m (And.intro @oneC_imm (@oneC_own)))))))))))))))))))))))))))))))))):=And.intro @view_own (And.intro @zOk_imm (And.intro @zOk_emp (And.intro @zOk_nil (And.intro @zOk_own (And.intro @isTail_emp (And.intro @isTail_nil (And.intro @isTail_own (And.intro @isSl_imm (And.intro @isSl_own (And.intro @isSl_emp (And.intro @isSl_nil (And.intro @mview_nil (And.intro @mview_mp (And.intro @subL_imm (And.intro @subL_own (And.intro @cells_agg (And.intro @cells_sc (And.intro @cells_imm (And.intro @cells_own (And.intro @cells_ptr (And.intro @cells_cptr (And.intro @cells_emp (And.intro @cells_mp (And.intro @oneC_int (And.intro @oneC_bool (And.intro @oneC_str (And.intro @oneC_nilI (And.intro @oneC_if (And.intro @oneC_p (And.intro @oneC_s (And.intro @oneC_m (And.intro @oneC_imm (@oneC_own)))))))))))))))))))))))))))))))))
theorem am2:type_of% (And.intro @oneC_ptr (And.intro @oneC_cptr (And.intro @oneC_emp (And.intro @oneC_mp (And.intro @owp_move (And.intro @owp_assign (And.intro @owp_pick (And.intro @owp_alloc (And.intro @owp_box (And.intro @owp_build (And.intro @owp_buildSlice (And.intro @owp_load (And.intro @owp_store (And.intro @owp_nilCheck (And.intro @owp_binOp (And.intro @owp_unOp (And.intro @owp_convert (And.intro @owp_makeInterface (And.intro @owp_makeMap (And.intro @owp_makeSlice (And.intro @owp_slice (And.intro @owp_fieldAddr (And.intro @owp_field (And.intro @owp_indexAddr (And.intro @owp_index (And.intro @owp_lookup (And.intro @owp_mapUpdate (And.intro @owp_typeAssert (And.intro @owp_extract (And.intro @owp_callB (And.intro @Does_move (And.intro @Does_assign (And.intro @Does_pick (@Does_alloc)))))))))))))))))))))))))))))))))):=And.intro @oneC_ptr (And.intro @oneC_cptr (And.intro @oneC_emp (And.intro @oneC_mp (And.intro @owp_move (And.intro @owp_assign (And.intro @owp_pick (And.intro @owp_alloc (And.intro @owp_box (And.intro @owp_build (And.intro @owp_buildSlice (And.intro @owp_load (And.intro @owp_store (And.intro @owp_nilCheck (And.intro @owp_binOp (And.intro @owp_unOp (And.intro @owp_convert (And.intro @owp_makeInterface (And.intro @owp_makeMap (And.intro @owp_makeSlice (And.intro @owp_slice (And.intro @owp_fieldAddr (And.intro @owp_field (And.intro @owp_indexAddr (And.intro @owp_index (And.intro @owp_lookup (And.intro @owp_mapUpdate (And.intro @owp_typeAssert (And.intro @owp_extract (And.intro @owp_callB (And.intro @Does_move (And.intro @Does_assign (And.intro @Does_pick (@Does_alloc)))))))))))))))))))))))))))))))))
theorem am3:type_of% (And.intro @Does_box (And.intro @Does_build (And.intro @Does_buildSlice (And.intro @Does_load (And.intro @Does_store (And.intro @Does_nilCheck (And.intro @Does_binOp (And.intro @Does_unOp (And.intro @Does_convert (And.intro @Does_makeInterface (And.intro @Does_makeMap (And.intro @Does_makeSlice (And.intro @Does_slice (And.intro @Does_fieldAddr (And.intro @Does_field (And.intro @Does_indexAddr (And.intro @Does_index (And.intro @Does_lookup (And.intro @Does_mapUpdate (And.intro @Does_typeAssert (And.intro @Does_extract (And.intro @Does_callB (And.intro @constPV_int (And.intro @constPV_bool (And.intro @constPV_str (And.intro @constPV_nilI (And.intro @constPV_ptr (And.intro @constPV_slice (And.intro @constPV_map (And.intro @constPV_agg (And.intro @upd_app (And.intro @updO_some (And.intro @updO_none (@slots0_app)))))))))))))))))))))))))))))))))):=And.intro @Does_box (And.intro @Does_build (And.intro @Does_buildSlice (And.intro @Does_load (And.intro @Does_store (And.intro @Does_nilCheck (And.intro @Does_binOp (And.intro @Does_unOp (And.intro @Does_convert (And.intro @Does_makeInterface (And.intro @Does_makeMap (And.intro @Does_makeSlice (And.intro @Does_slice (And.intro @Does_fieldAddr (And.intro @Does_field (And.intro @Does_indexAddr (And.intro @Does_index (And.intro @Does_lookup (And.intro @Does_mapUpdate (And.intro @Does_typeAssert (And.intro @Does_extract (And.intro @Does_callB (And.intro @constPV_int (And.intro @constPV_bool (And.intro @constPV_str (And.intro @constPV_nilI (And.intro @constPV_ptr (And.intro @constPV_slice (And.intro @constPV_map (And.intro @constPV_agg (And.intro @upd_app (And.intro @updO_some (And.intro @updO_none (@slots0_app)))))))))))))))))))))))))))))))))
theorem amb0:type_of% (And.intro @Nat.zero_add (And.intro @Int.natCast_nonneg (And.intro @decide_eq_true_eq (And.intro @decide_eq_false_iff_not (And.intro @Bool.not_eq_true (And.intro @Bool.not_eq_false (And.intro @not_false_eq_true (And.intro @not_true_eq_false (And.intro @Decidable.not_not (And.intro @Option.bind_some.{0,0} (And.intro @Option.bind_none.{0,0} (And.intro @Option.map_some.{0,0} (And.intro @Option.map_none.{0,0} (And.intro @Option.all_some.{0} (And.intro @Option.all_none.{0} (And.intro @Option.any_some.{0} (And.intro @Option.any_none.{0} (And.intro @Option.some.injEq.{0} (And.intro @Prod.mk.injEq.{0,0} (And.intro @List.map_cons.{0,0} (And.intro @List.map_nil.{0,0} (And.intro @List.length_cons.{0} (And.intro @List.length_nil.{0} (And.intro @List.length_map.{0,0} (And.intro @List.getD_cons_zero.{0} (And.intro @List.getD_cons_succ.{0} (And.intro @List.getElem?_cons_zero.{0} (And.intro @List.getElem?_cons_succ.{0} (And.intro @List.drop_zero.{0} (And.intro @List.drop_succ_cons.{0} (And.intro @List.drop_nil.{0} (And.intro @List.take_zero.{0} (And.intro @List.take_succ_cons.{0} (@List.take_nil.{0})))))))))))))))))))))))))))))))))):=And.intro @Nat.zero_add (And.intro @Int.natCast_nonneg (And.intro @decide_eq_true_eq (And.intro @decide_eq_false_iff_not (And.intro @Bool.not_eq_true (And.intro @Bool.not_eq_false (And.intro @not_false_eq_true (And.intro @not_true_eq_false (And.intro @Decidable.not_not (And.intro @Option.bind_some.{0,0} (And.intro @Option.bind_none.{0,0} (And.intro @Option.map_some.{0,0} (And.intro @Option.map_none.{0,0} (And.intro @Option.all_some.{0} (And.intro @Option.all_none.{0} (And.intro @Option.any_some.{0} (And.intro @Option.any_none.{0} (And.intro @Option.some.injEq.{0} (And.intro @Prod.mk.injEq.{0,0} (And.intro @List.map_cons.{0,0} (And.intro @List.map_nil.{0,0} (And.intro @List.length_cons.{0} (And.intro @List.length_nil.{0} (And.intro @List.length_map.{0,0} (And.intro @List.getD_cons_zero.{0} (And.intro @List.getD_cons_succ.{0} (And.intro @List.getElem?_cons_zero.{0} (And.intro @List.getElem?_cons_succ.{0} (And.intro @List.drop_zero.{0} (And.intro @List.drop_succ_cons.{0} (And.intro @List.drop_nil.{0} (And.intro @List.take_zero.{0} (And.intro @List.take_succ_cons.{0} (@List.take_nil.{0})))))))))))))))))))))))))))))))))
theorem amb1:type_of% (And.intro @List.head?_cons.{0} (And.intro @List.all_cons.{0} (And.intro @List.all_nil.{0} (And.intro @List.cons_append.{0} (And.intro @List.nil_append.{0} (And.intro @List.append_nil.{0} (And.intro @List.replicate_succ.{0} (And.intro @List.replicate_zero.{0} (And.intro @List.set_cons_zero.{0} (And.intro @List.set_cons_succ.{0} (And.intro @decide_true (And.intro @decide_false (And.intro @Bool.or_true (And.intro @Bool.true_or (And.intro @Bool.or_false (And.intro @Bool.false_or (And.intro @Bool.and_true (And.intro @Bool.true_and (And.intro @Bool.and_false (And.intro @Bool.false_and (And.intro @Bool.not_true (And.intro @Bool.not_false (And.intro @Bool.false_eq_true (And.intro @and_true (And.intro @true_and (And.intro @and_false (And.intro @false_and (And.intro @and_self (And.intro @or_true (And.intro @true_or (And.intro @or_false (And.intro @false_or (And.intro @List.not_mem_nil.{0} (@false_implies)))))))))))))))))))))))))))))))))):=And.intro @List.head?_cons.{0} (And.intro @List.all_cons.{0} (And.intro @List.all_nil.{0} (And.intro @List.cons_append.{0} (And.intro @List.nil_append.{0} (And.intro @List.append_nil.{0} (And.intro @List.replicate_succ.{0} (And.intro @List.replicate_zero.{0} (And.intro @List.set_cons_zero.{0} (And.intro @List.set_cons_succ.{0} (And.intro @decide_true (And.intro @decide_false (And.intro @Bool.or_true (And.intro @Bool.true_or (And.intro @Bool.or_false (And.intro @Bool.false_or (And.intro @Bool.and_true (And.intro @Bool.true_and (And.intro @Bool.and_false (And.intro @Bool.false_and (And.intro @Bool.not_true (And.intro @Bool.not_false (And.intro @Bool.false_eq_true (And.intro @and_true (And.intro @true_and (And.intro @and_false (And.intro @false_and (And.intro @and_self (And.intro @or_true (And.intro @true_or (And.intro @or_false (And.intro @false_or (And.intro @List.not_mem_nil.{0} (@false_implies)))))))))))))))))))))))))))))))))
theorem amb2:type_of% (And.intro @Int.toNat_natCast (And.intro @zB_0 (@List.getElem?_map.{0,0}))):=And.intro @Int.toNat_natCast (And.intro @zB_0 (@List.getElem?_map.{0,0}))
theorem amb3:type_of% (And.intro @andK_u64 (And.intro @orK_u64 (And.intro @xorK_u64 (And.intro @andnK_u64 (And.intro @andK_i64 (And.intro @orK_i64 (And.intro @xorK_i64 (And.intro @andnK_i64 (And.intro @andK_u8 (And.intro @orK_u8 (And.intro @xorK_u8 (@andnK_u8)))))))))))):=And.intro @andK_u64 (And.intro @orK_u64 (And.intro @xorK_u64 (And.intro @andnK_u64 (And.intro @andK_i64 (And.intro @orK_i64 (And.intro @xorK_i64 (And.intro @andnK_i64 (And.intro @andK_u8 (And.intro @orK_u8 (And.intro @xorK_u8 (@andnK_u8)))))))))))
theorem amb4:type_of% (And.intro @beq_iff_eq.{0} (And.intro @bne_iff_ne.{0} (And.intro @ne_eq.{1} (And.intro @beq_eq_false_iff_ne.{0} (@beq_self_eq_true.{0}))))):=And.intro @beq_iff_eq.{0} (And.intro @bne_iff_ne.{0} (And.intro @ne_eq.{1} (And.intro @beq_eq_false_iff_ne.{0} (@beq_self_eq_true.{0}))))
theorem hb0:type_of% (And.intro @not_true_eq_false (And.intro @not_false_eq_true (And.intro @decide_eq_true_eq (And.intro @decide_eq_false_iff_not (And.intro @Bool.or_eq_true (And.intro @Bool.or_eq_false_iff (And.intro @Bool.and_eq_true (And.intro @Bool.and_eq_false_iff (And.intro @Bool.not_eq_true' (And.intro @Bool.not_eq_false' (And.intro @Bool.not_eq_true (And.intro @Bool.not_eq_false (And.intro @bne_iff_ne.{0} (And.intro @bne_eq_false_iff_eq.{0} (And.intro @beq_iff_eq.{0} (And.intro @beq_eq_false_iff_ne.{0} (And.intro @ne_eq.{1} (And.intro @gt_iff_lt.{0} (And.intro @ge_iff_le.{0} (And.intro @Int.not_lt (And.intro @Int.not_le (@Decidable.not_not)))))))))))))))))))))):=And.intro @not_true_eq_false (And.intro @not_false_eq_true (And.intro @decide_eq_true_eq (And.intro @decide_eq_false_iff_not (And.intro @Bool.or_eq_true (And.intro @Bool.or_eq_false_iff (And.intro @Bool.and_eq_true (And.intro @Bool.and_eq_false_iff (And.intro @Bool.not_eq_true' (And.intro @Bool.not_eq_false' (And.intro @Bool.not_eq_true (And.intro @Bool.not_eq_false (And.intro @bne_iff_ne.{0} (And.intro @bne_eq_false_iff_eq.{0} (And.intro @beq_iff_eq.{0} (And.intro @beq_eq_false_iff_ne.{0} (And.intro @ne_eq.{1} (And.intro @gt_iff_lt.{0} (And.intro @ge_iff_le.{0} (And.intro @Int.not_lt (And.intro @Int.not_le (@Decidable.not_not)))))))))))))))))))))
section
variable {K:Slots→Heap→Prop}{Q:Post}{i j:Nat}
theorem ps1:Post.seq K Q .normal s h=K s h:=rfl
theorem ps2:Post.seq K Q .ret s h=Q .ret s h:=rfl
theorem ps3:Post.seq K Q (.exit i) s h=Q (.exit i) s h:=rfl
theorem ps4:Post.block j Q .normal s h=Q .normal s h:=rfl
theorem ps5:Post.block j Q .ret s h=Q .ret s h:=rfl
theorem ps6:Post.block j Q (.exit i) s h=if i=j then Q .normal s h else Q (.exit i) s h:=rfl
end
theorem pst0:type_of% (And.intro @ps1 (And.intro @ps2 (And.intro @ps3 (And.intro @ps4 (And.intro @ps5 @ps6))))):=And.intro @ps1 (And.intro @ps2 (And.intro @ps3 (And.intro @ps4 (And.intro @ps5 @ps6))))
end Go.AM
