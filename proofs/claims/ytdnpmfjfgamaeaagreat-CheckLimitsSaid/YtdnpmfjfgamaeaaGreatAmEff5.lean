/- Maps and operators; every operation together. -/
import Derived.Test.YtdnpmfjfgamaeaaGreatAmEff4
import Derived.Laws.StructEq
import Derived.Laws.IdiomStrings
import Derived.Laws.BytesString
set_option linter.unusedVariables false
set_option linter.unusedSimpArgs false
set_option linter.unusedSectionVars false
namespace Go.AM
section
variable {P : Program} {β β' : Env} {h h' : Heap} {w w' : World} {s : Slots} {a : Act}

theorem constPV_rep {n : Nat} {F : Nat → Prop} (v : Value) : Rep β n F w (constPV v) v := by
  cases v <;> simp only [constPV] <;> try simp only [Rep]
  split
  · rename_i cs hc
    simp only [Rep]
    exact ⟨cs.toList, by simp, List.all_eq_true.1 hc, RepL.sc _⟩
  · simp only [Rep]

theorem bytes_beq (a b : ByteArray) : (a == b) = true ↔ a = b := by
  obtain ⟨x⟩ := a; obtain ⟨y⟩ := b
  rw [ByteArray.mk.injEq]
  show (x == y) = true ↔ x = y
  exact beq_iff_eq
theorem keyEq_true {k k' : Value} (he : keyEq k k' = some true) : k = k' := by
  cases k <;> cases k' <;> simp only [keyEq, Option.some.injEq, reduceCtorEq] at he
  · simp [beq_iff_eq.1 he]
  · split at he <;> simp at he
    simp [*]
  · rw [(bytes_beq _ _).1 he]

/-- the kinds of keys that are asked at once -/
def kdOk (kd : TypeDesc) (kt : Nat) : Prop := match kd with
  | .bool => kt = 1
  | .int _ => kt = 2
  | .string => kt = 3
  | _ => False
theorem key_same' {kd : TypeDesc} {k k' : Value} {b : Bool} {kt : Nat} (hk : keyKind kt k = true) (hd : kdOk kd kt) (he : keyEq k k' = some b) : Instr.sameNow kd k k' = some b := by
  cases k <;> cases k' <;> simp [keyEq] at he <;> simp [keyKind] at hk <;> subst hk <;> cases kd <;> simp [kdOk] at hd <;> simp [Instr.sameNow, he]

theorem mfind_none {n : Nat} {F : Nat → Prop} {kd : TypeDesc} {k : Value} {kt : Nat} (hk : keyKind kt k = true) (hd : kdOk kd kt) : ∀ (es : List (Value × PV)) (fs : List MapEntry) (i : Nat), RepM β n F w es fs → mfind k es = some none → Instr.findNow kd k fs i = some none
  | [], [], i, _, _ => by simp [Instr.findNow]
  | [], _ :: _, _, h, _ => by simp [RepM] at h
  | _ :: _, [], _, h, _ => by simp [RepM] at h
  | (k', p) :: es, f :: fs, i, h, hm => by
    simp only [RepM] at h
    simp only [mfind] at hm
    split at hm
    · simp at hm
    · rename_i he
      simp only [Instr.findNow, h.1.1, key_same' hk hd he]
      exact mfind_none hk hd es fs (i + 1) h.2 hm
    · simp at hm
theorem mfind_some {n : Nat} {F : Nat → Prop} {kd : TypeDesc} {k : Value} {v : PV} {kt : Nat} (hk : keyKind kt k = true) (hd : kdOk kd kt) : ∀ (es : List (Value × PV)) (fs : List MapEntry) (i : Nat), RepM β n F w es fs → mfind k es = some (some v) →
    ∃ j e, Instr.findNow kd k fs i = some (some (i + j, e.val)) ∧ fs[j]? = some e ∧ Rep β n F w v e.val
  | [], [], i, _, hm => by simp [mfind] at hm
  | [], _ :: _, _, h, _ => by simp [RepM] at h
  | _ :: _, [], _, h, _ => by simp [RepM] at h
  | (k', p) :: es, f :: fs, i, h, hm => by
    simp only [RepM] at h
    simp only [mfind] at hm
    split at hm
    · rename_i he
      simp at hm
      subst hm
      exact ⟨0, f, by simp only [Instr.findNow, h.1.1, key_same' hk hd he, Nat.add_zero], rfl, h.1.2⟩
    · rename_i he
      obtain ⟨j, e, h1, h2, h3⟩ := mfind_some hk hd es fs (i + 1) h.2 hm
      refine ⟨j + 1, e, ?_, by simpa using h2, h3⟩
      simp only [Instr.findNow, h.1.1, key_same' hk hd he, h1]
      congr 3; omega
    · simp at hm
theorem mput_rep {n : Nat} {F : Nat → Prop} {kd : TypeDesc} {k : Value} {v : PV} {x : Value} {kt : Nat} (hk : keyKind kt k = true) (hd : kdOk kd kt) (hx : Rep β n F w v x) : ∀ (es es' : List (Value × PV)) (fs : List MapEntry) (i : Nat), RepM β n F w es fs → mput k v es = some es' →
    (Instr.findNow kd k fs i = some none ∧ ∀ born, RepM β n F w es' (fs ++ [⟨k, x, born⟩])) ∨
    (∃ j e, Instr.findNow kd k fs i = some (some (i + j, e.val)) ∧ fs[j]? = some e ∧ e.key = k ∧ RepM β n F w es' (fs.set j { e with key := k, val := x }))
  | [], es', [], i, _, hm => by
    simp [mput] at hm; subst hm
    exact .inl ⟨by simp [Instr.findNow], fun born => by simp only [List.nil_append, RepM]; exact ⟨⟨trivial, hx⟩, trivial⟩⟩
  | [], _, _ :: _, _, h, _ => by simp [RepM] at h
  | _ :: _, _, [], _, h, _ => by simp [RepM] at h
  | (k', p) :: es, es', f :: fs, i, h, hm => by
    simp only [RepM] at h
    simp only [mput] at hm
    split at hm
    · rename_i he
      simp at hm
      subst hm
      refine .inr ⟨0, f, by simp only [Instr.findNow, h.1.1, key_same' hk hd he, Nat.add_zero], rfl, by rw [h.1.1, keyEq_true he], ?_⟩
      simp only [List.set_cons_zero, RepM]
      exact ⟨⟨trivial, hx⟩, h.2⟩
    · rename_i he
      cases hm2 : mput k v es with
      | none => simp [hm2] at hm
      | some es2 =>
        simp [hm2] at hm
        subst hm
        rcases mput_rep hk hd hx es es2 fs (i + 1) h.2 hm2 with ⟨h1, h2⟩ | ⟨j, e, h1, h2, h3, h4⟩
        · refine .inl ⟨by simp only [Instr.findNow, h.1.1, key_same' hk hd he, h1], fun born => ?_⟩
          simp only [List.cons_append, RepM]
          exact ⟨h.1, h2 born⟩
        · refine .inr ⟨j + 1, e, ?_, by simpa using h2, h3, ?_⟩
          · simp only [Instr.findNow, h.1.1, key_same' hk hd he, h1]
            congr 3; omega
          · simp only [List.set_cons_succ, RepM]
            exact ⟨h.1, h4⟩
    · simp at hm

theorem mapT_info {t : Nat} {m : Nat × Value} (hm : mapT P t = some m) : ∃ k e i, P.underlying t = some (.map k e) ∧ P.info? e = some i ∧ i.zero = some m.2 ∧ kT P k = m.1 := by
  unfold mapT at hm
  split at hm
  · rename_i k e hu
    unfold zvT at hm
    cases hi : P.info? e with
    | none => simp [hi] at hm
    | some i =>
      cases hz : i.zero with
      | none => simp [hi, hz] at hm
      | some z => simp [hi, hz] at hm; subst hm; exact ⟨k, e, i, hu, hi, hz, rfl⟩
  · simp at hm
theorem kdOk_of {k : Nat} {kv : Value} {kt : Nat} (hk : keyKind kt kv = true) (hkt : kT P k = kt) : ∃ kd, P.underlying k = some kd ∧ kdOk kd kt := by
  subst hkt
  cases hu : P.underlying k with
  | none => simp only [kT, hu] at hk; cases kv <;> simp [keyKind] at hk
  | some kd =>
    refine ⟨kd, rfl, ?_⟩
    simp only [kT, hu] at hk ⊢
    cases kd <;> simp only [kdOk] <;> cases kv <;> simp [keyKind] at hk
theorem run_checkKey1 {b : Bool} {k n : Nat} {kv : Value} {kd : TypeDesc} {kt : Nat} (hu : P.underlying k = some kd) (hd : kdOk kd kt) (w : World) : (Instr.checkKey b (n + 1) k kv).run P w = .ok () w := by
  cases kd <;> simp [kdOk] at hd <;> simp [Instr.checkKey, run_underlying hu]
theorem run_checkKey {b : Bool} {k : Nat} {kv : Value} {kd : TypeDesc} {kt : Nat} (hu : P.underlying k = some kd) (hd : kdOk kd kt) (w : World) : (Instr.checkKey b 10000 k kv).run P w = .ok () w := run_checkKey1 (n := 9999) hu hd w
theorem run_getMap {r : Nat} {fs : Array MapEntry} {cl : Nat} (hr : w.heap[r]? = some (.map fs cl)) : (getObj r).run P w = .ok (.map fs cl) w := by
  simp only [getObj, Sem.run, hr]

theorem mview_sound (sm : Sim β h w) {p : PV} {x : Value} {es : List (Value × PV)} (hv : mview h p = some es) (hx : RepH β h w p x) :
    (x = .map none ∧ es = []) ∨ ∃ r fs cl, x = .map (some r) ∧ w.heap[r]? = some (.map fs cl) ∧ RepM β h.next (Fz β h w) w es fs.toList := by
  unfold mview at hv
  split at hv
  · simp at hv; subst hv
    simp only [RepH, Rep] at hx
    exact .inl ⟨hx, rfl⟩
  · rename_i id
    split at hv
    · rename_i es' hob
      simp at hv; subst hv
      have hok := sm.ok id _ hob
      simp only [ObjOk] at hok
      obtain ⟨b, fs, cl, h1, h2, h3⟩ := hok
      simp only [RepH, Rep] at hx
      obtain ⟨_, b', hb', rfl⟩ := hx
      rw [h1] at hb'; simp at hb'; subst hb'
      exact .inr ⟨b, fs, cl, rfl, h2, h3⟩
    · simp at hv
  · simp at hv

theorem lookup_sound (sm : Sim β h w) {t : Nat} {m : Nat × Value} {p : PV} {kv x : Value} {es : List (Value × PV)} {r : Option PV} {ok : Bool} (hm : mapT P t = some m) (hv : mview h p = some es) (hk : keyKind m.1 kv = true)
    (hf : mfind kv es = some r) (hx : RepH β h w p x) :
    ∃ v, (Instr.lookup t x kv ok).run P w = .ok v w ∧ RepH β h w (lkV ok m.2 r) v := by
  obtain ⟨k, e, i, hu, hi, hz, hkt⟩ := mapT_info hm
  obtain ⟨kd, hkd, hd⟩ := kdOk_of (P := P) hk hkt
  have hfin : ∀ (fs : Array MapEntry), RepM β h.next (Fz β h w) w es fs.toList → (Instr.lookup t x kv ok).run P w = (do
      let (v, ok') ← match ← Instr.findKey k kv fs.toList with
        | some (_, v) => pure (v, true)
        | none => pure (← zeroValue e, false)
      pure (if ok then .tuple #[v, .bool ok'] else v) : Sem Value).run P w → ∃ v, (Instr.lookup t x kv ok).run P w = .ok v w ∧ RepH β h w (lkV ok m.2 r) v := by
    intro fs hrep hrun
    rw [hrun]
    cases r with
    | none =>
      have h1 := mfind_none hk hd es fs.toList 0 hrep hf
      have h2 : (Instr.findKey k kv fs.toList).run P w = .ok none w := by simp [Instr.findKey, run_underlying hkd, h1]
      have h3 : (zeroValue e).run P w = .ok m.2 w := by simp [zeroValue, typeInfo, hi, hz]
      refine ⟨if ok then .tuple #[m.2, .bool false] else m.2, by simp [h2, h3], ?_⟩
      cases ok with
      | true => simp only [lkV, if_true, RepH, Rep]; exact ⟨[m.2, .bool false], rfl, by simp only [RepL, Rep]; exact ⟨constPV_rep _, trivial, trivial⟩⟩
      | false => simp only [lkV, Bool.false_eq_true, if_false]; exact constPV_rep _
    | some v =>
      obtain ⟨j, en, h1, h2, h3⟩ := mfind_some hk hd es fs.toList 0 hrep hf
      have h4 : (Instr.findKey k kv fs.toList).run P w = .ok (some (0 + j, en.val)) w := by simp [Instr.findKey, run_underlying hkd, h1]
      refine ⟨if ok then .tuple #[en.val, .bool true] else en.val, by simp [h4], ?_⟩
      cases ok with
      | true => simp only [lkV, if_true, RepH, Rep]; exact ⟨[en.val, .bool true], rfl, by simp only [RepL, Rep]; exact ⟨h3, trivial, trivial⟩⟩
      | false => simp only [lkV, Bool.false_eq_true, if_false]; exact h3
  rcases mview_sound sm hv hx with ⟨rfl, rfl⟩ | ⟨rr, fs, cl, rfl, h2, h3⟩
  · refine hfin #[] (by simp [RepM]) ?_
    simp only [Instr.lookup, Sem.run_bind, run_underlying hu, Result.andThen_ok, Sem.run_pure, run_checkKey hkd hd]
    rfl
  · refine hfin fs h3 ?_
    simp only [Instr.lookup, Sem.run_bind, run_underlying hu, Result.andThen_ok, Sem.run_pure, run_checkKey hkd hd, run_getMap h2]
    rfl

theorem sameBits_key1 {k : Value} {kt n : Nat} (hk : keyKind kt k = true) : Instr.sameBits n k k = true := by
  cases k <;> simp [keyKind] at hk <;> simp [Instr.sameBits, bytes_beq]
theorem sameBits_key {k : Value} {kt : Nat} (hk : keyKind kt k = true) : Instr.sameBits 10000 k k = true := sameBits_key1 hk

theorem run_setMap {r : Nat} {fs : Array MapEntry} {cl : Nat} (o : Obj) (hr : w.heap[r]? = some (.map fs cl)) : (setObj r o).run P w = .ok () { w with heap := w.heap.setIfInBounds r o } := by
  simp only [setObj, Sem.run, hr]

/-- a map changed in its place -/
theorem Sim.setMap (sm : Sim β h w) {id b cl cl' : Nat} {es es' : List (Value × PV)} {fs fs' : Array MapEntry} (hob : h.obj id = some (.map es)) (hb : (β id).b = some b) (hw : w.heap[b]? = some (.map fs cl))
    (hrep : RepM β h.next (Fz β h w) w es' fs'.toList) :
    Sim β (h.set id (.map es')) { w with heap := w.heap.setIfInBounds b (.map fs' cl') } ∧ Ext β h w β (h.set id (.map es')) { w with heap := w.heap.setIfInBounds b (.map fs' cl') } := by
  have hlt : b < w.heap.size := (Array.getElem?_eq_some_iff.1 hw).1
  refine Sim.step sm id (.map es') rfl rfl rfl (by simp) (by simp [Heap.set]) (fun _ _ => rfl) (by simp [Heap.set]) (sm.lt id (by rw [hob]; rfl)) (fun id' hne => .inr (by simp [Heap.set, hne])) (fun b' hb' => .inr ⟨id, by rw [hob]; rfl, hb', .inl rfl⟩) (fun b' _ hb' => ?_) (fun m => ?_)
  · have : b ≠ b' := fun e => hb' (by rw [← e]; exact hb)
    simp [Array.getElem?_setIfInBounds_ne this]
  · simp only [ObjOk]
    exact ⟨b, fs', cl', hb, by simp [hlt], RepM.mv m _ _ hrep⟩

theorem mapUpdate_sound (sm : Sim β h w) {t id : Nat} {m : Nat × Value} {kv x y : Value} {q : PV} {es es' : List (Value × PV)} (hm : mapT P t = some m) (hob : h.obj id = some (.map es)) (hk : keyKind m.1 kv = true)
    (hp : mput kv q es = some es') (hx : RepH β h w (.mp id) x) (hy : RepH β h w q y) :
    ∃ w', (Instr.mapUpdate t x kv y).run P w = .ok () w' ∧ Sim β (h.set id (.map es')) w' ∧ Ext β h w β (h.set id (.map es')) w' := by
  obtain ⟨k, e, i, hu, hi, hz, hkt⟩ := mapT_info hm
  obtain ⟨kd, hkd, hd⟩ := kdOk_of (P := P) hk hkt
  have hok := sm.ok id _ hob
  simp only [ObjOk] at hok
  obtain ⟨b, fs, cl, h1, h2, h3⟩ := hok
  simp only [RepH, Rep] at hx
  obtain ⟨_, b', hb', rfl⟩ := hx
  rw [h1] at hb'; simp at hb'; subst hb'
  rcases mput_rep hk hd hy es es' fs.toList 0 h3 hp with ⟨g1, g2⟩ | ⟨j, en, g1, g2, g3, g4⟩
  · have h4 : (Instr.findKey k kv fs.toList).run P w = .ok none w := by simp [Instr.findKey, run_underlying hkd, g1]
    have := Sim.setMap sm (cl' := cl + 1) (fs' := fs.push ⟨kv, y, cl⟩) hob h1 h2 (by simpa using g2 cl)
    refine ⟨_, ?_, this⟩
    simp only [Instr.mapUpdate, Sem.run_bind, run_underlying hu, Result.andThen_ok, run_checkKey hkd hd, run_getMap h2, h4, run_setMap _ h2]
  · have h4 : (Instr.findKey k kv fs.toList).run P w = .ok (some (0 + j, en.val)) w := by simp [Instr.findKey, run_underlying hkd, g1]
    have hfs : fs[j]? = some en := by rw [← Array.getElem?_toList]; exact g2
    have hkk : (((fs[0 + j]?).map (·.key)).getD kv) = kv := by simp [hfs, g3]
    have hmod : (fs.modify (0 + j) fun e => { e with key := kv, val := y }).toList = fs.toList.set j { en with key := kv, val := y } := by
      rw [Nat.zero_add]
      apply List.ext_getElem?
      intro n
      rw [Array.getElem?_toList, Array.getElem?_modify, List.getElem?_set]
      by_cases hn : j = n
      · subst hn
        have hjl : j < fs.toList.length := (List.getElem?_eq_some_iff.1 g2).1
        rw [if_pos rfl, if_pos rfl, if_pos hjl, hfs]
        rfl
      · rw [if_neg hn, if_neg hn]; simp
    have := Sim.setMap sm (cl' := cl) (fs' := fs.modify (0 + j) fun e => { e with key := kv, val := y }) hob h1 h2 (by rw [hmod]; exact g4)
    refine ⟨_, ?_, this⟩
    have hks : (Instr.keyThatStays kv kv).run P w = .ok kv w := by simp [Instr.keyThatStays, sameBits_key hk]
    simp only [Instr.mapUpdate, Sem.run_bind, run_underlying hu, Result.andThen_ok, run_checkKey hkd hd, run_getMap h2, h4, hkk, hks, run_setMap _ h2]

theorem makeMap_sound (sm : Sim β h w) (t : Nat) : ∃ v w' β', (Instr.makeMap t none).run P w = .ok v w' ∧ Sim β' (h.new (.map [])) w' ∧ Ext β h w β' (h.new (.map [])) w' ∧ RepH β' (h.new (.map [])) w' (.mp h.next) v := by
  have := Sim.step (h' := h.new (.map [])) (β' := ⟨fun id => if id = h.next then ⟨some w.heap.size, 0, 0, 0⟩ else β id, β.X⟩) (w' := w.alloc (.map #[] 0)) sm h.next (.map []) rfl rfl rfl (by simp) (by simp [Heap.new]) (fun id hid => by simp; intro e; omega) (by simp [Heap.new]) (by simp [Heap.new]) (fun id hne => .inr (by simp [Heap.new, hne])) (fun b hb => .inl (by simp at hb; omega)) (fun b hb _ => heap_alloc_old w _ hb) (fun m => by
    simp only [ObjOk, if_true]
    exact ⟨w.heap.size, #[], 0, rfl, heap_alloc_new w _, by simp [RepM]⟩)
  refine ⟨.map (some w.heap.size), _, _, by simp [Instr.makeMap], this.1, this.2, ?_⟩
  simp [RepH, Rep, Heap.new]

/-! Strings and bytes. -/
theorem u8T_info {t : Nat} (hu : u8T P t = true) : ∃ e, P.underlying t = some (.slice e) ∧ P.underlying e = some (.int .u8) := by
  unfold u8T at hu
  split at hu
  · rename_i e he
    split at hu
    · rename_i h2; exact ⟨e, he, h2⟩
    · simp at hu
  · simp at hu
theorem bytesR_at (s : ByteArray) (cap n : Nat) (F : Nat → Prop) : RowsAt β n F w 1 (bytesR s.data.toList) (bytesRow s cap) := by
  intro i r hr
  simp only [bytesR, List.getElem?_map] at hr
  cases hi : s.data.toList[i]? with
  | none => simp [hi] at hr
  | some b =>
    simp [hi] at hr
    subst hr
    refine ⟨rfl, fun j p hp => ?_⟩
    cases j with
    | succ j => simp at hp
    | zero =>
      simp at hp
      subst hp
      rw [Array.getElem?_toList] at hi
      have hlt : i < s.data.size := (Array.getElem?_eq_some_iff.1 hi).1
      refine ⟨.int .u8 b.toNat, ?_, by simp [Value.oneCell'], by simp only [Rep]⟩
      rw [Nat.mul_one, Nat.add_zero, bytesRow, Array.getElem?_append_left (by simpa using hlt)]
      simp [hi]
theorem bytesRow_size (s : ByteArray) {cap : Nat} (h : s.size ≤ cap) : (bytesRow s cap).size = cap := by
  simp [bytesRow]
  have : s.data.size = s.size := rfl
  omega
theorem Sim.newRowsF (sm : Sim β h w) (z : Nat) (rows : List (List PV)) (c : Array Value) (e : TypeId) (fr : Nat × Nat) (hfr : ∀ i, i < c.size → ¬ (fr.1 ≤ i ∧ i < fr.2)) (hr : RowsAt β h.next (Fz β h w) w z rows c) (hlen : rows.length * z ≤ c.size) :
    Sim ⟨fun id => if id = h.next then ⟨some w.heap.size, 0, z, c.size⟩ else β id, β.X⟩ (h.new (.arr z rows)) (w.alloc (.cells c e fr)) ∧
    Ext β h w ⟨fun id => if id = h.next then ⟨some w.heap.size, 0, z, c.size⟩ else β id, β.X⟩ (h.new (.arr z rows)) (w.alloc (.cells c e fr)) := by
  refine Sim.step sm h.next (.arr z rows) rfl rfl rfl (by simp) (by simp [Heap.new]) (fun id hid => by simp; intro e; omega) (by simp [Heap.new]) (by simp [Heap.new]) (fun id hne => .inr (by simp [Heap.new, hne])) (fun b hb => .inl (by simp at hb; omega)) (fun b hb _ => heap_alloc_old w _ hb) (fun m => ?_)
  simp only [ObjOk, if_true]
  exact ⟨trivial, .inr ⟨w.heap.size, c, e, fr, rfl, heap_alloc_new w _, rfl, by omega, hfr, hr.rep m (heap_alloc_new w _)⟩⟩
theorem strBytes_sound (sm : Sim β h w) {src dst : Nat} {s : ByteArray} {ow : Bool} {r : PV} (hs : P.underlying src = some .string) (hu : u8T P dst = true) (hn : s.size ≤ 140737488355328)
    (he : (if ow then some (PV.own h.next 0 s.data.toList.length, h.new (.arr 1 (bytesR s.data.toList))) else some (.imm 1 (bytesR s.data.toList), h)) = some (r, h')) :
    ∃ v w' β', (convert src dst (.string s)).run P w = .ok v w' ∧ Sim β' h' w' ∧ Ext β h w β' h' w' ∧ RepH β' h' w' r v := by
  obtain ⟨e, h1, h2⟩ := u8T_info hu
  have hge := grownCap_ge w s.size 0 e
  have hm : grownCap w s.size 0 e ≤ maxLen := grownCap_le_maxLen w _ _ e (by simp only [maxLen]; omega)
  have hsz := bytesRow_size s hge
  have hlen : s.data.toList.length = s.size := by rw [Array.length_toList]; rfl
  have hbl : (bytesR s.data.toList).length = s.size := by simp [bytesR]
  obtain ⟨d1, d2⟩ := sm.drew
  cases ow with
  | true =>
    simp at he
    obtain ⟨rfl, rfl⟩ := he
    obtain ⟨a1, a2⟩ := Sim.newRowsF d1 1 (bytesR s.data.toList) (bytesRow s (grownCap w s.size 0 e)) e ((bytesRow s (grownCap w s.size 0 e)).size, (bytesRow s (grownCap w s.size 0 e)).size + 1) (fun i hi => by simp only; omega) (bytesR_at s _ _ _) (by rw [hbl, hsz]; omega)
    refine ⟨_, _, _, run_bytes_of_string w src dst e s hs h1 h2, a1, d2.trans a2, ?_⟩
    simp only [RepH, Rep]
    refine ⟨by simp [Heap.new], some ⟨w.heap.size, 0, none⟩, grownCap w s.size 0 e, ?_, ?_, hm, .inr ⟨w.heap.size, ?_, ?_, ?_⟩⟩
    · simp
    · simpa using hge
    · simp
    · simp
    · simp [hsz]
  | false =>
    simp at he
    obtain ⟨rfl, rfl⟩ := he
    obtain ⟨a1, a2, a3⟩ := d1.junk (.cells (bytesRow s (grownCap w s.size 0 e)) e ((bytesRow s (grownCap w s.size 0 e)).size, (bytesRow s (grownCap w s.size 0 e)).size + 1))
    refine ⟨_, _, β, run_bytes_of_string w src dst e s hs h1 h2, a1, d2.trans a2, ?_⟩
    simp only [RepH, Rep]
    refine ⟨some ⟨w.heap.size, 0, none⟩, grownCap w s.size 0 e, by rw [hbl], by rw [hbl]; exact hge, hm, .inr ⟨w.heap.size, 0, a3, rfl, ?_⟩⟩
    exact (bytesR_at s _ _ _).rep a2.mv (heap_alloc_new w.drew _)

theorem byteRow_vals {n : Nat} {F : Nat → Prop} : ∀ {rows : List (List PV)} {l : List UInt8} {xs : List Value}, byteRow rows = some l → RepL β n F w rows.flatten xs → ∃ ns : List Int, xs = ns.map (Value.int .u8) ∧ ns.map (fun n => UInt8.ofNat n.toNat) = l := by
  intro rows
  induction rows with
  | nil => intro l xs hb hx; simp [byteRow] at hb; subst hb; cases xs <;> simp [RepL] at hx; exact ⟨[], rfl, rfl⟩
  | cons r rows ih =>
    intro l xs hb hx
    unfold byteRow at hb
    split at hb
    · simp_all
    · rename_i n' rest heq
      simp only [List.cons.injEq] at heq
      obtain ⟨rfl, rfl⟩ := heq
      cases hr : byteRow rows with
      | none => simp [hr] at hb
      | some l' =>
        simp [hr] at hb
        subst hb
        cases xs with
        | nil => simp [RepL] at hx
        | cons x xs =>
          simp only [List.flatten_cons, List.cons_append, List.nil_append, RepL, Rep] at hx
          obtain ⟨ns, h1, h2⟩ := ih hr hx.2
          exact ⟨n' :: ns, by simp [hx.1, h1], by simp [h2]⟩
    · simp at hb
theorem foldl_push (ns : List Int) (s : ByteArray) : ns.foldl (fun r n => r.push (UInt8.ofNat n.toNat)) s = ⟨(s.data.toList ++ ns.map fun n => UInt8.ofNat n.toNat).toArray⟩ := by
  induction ns generalizing s with
  | nil => simp
  | cons n ns ih => rw [List.foldl_cons, ih]; simp [ByteArray.push]
theorem bytesStr_sound (sm : Sim β h w) {src dst : Nat} {y : PV} {rows : List (List PV)} {l : List UInt8} {x : Value} (hu : u8T P src = true) (hd : P.underlying dst = some .string) (hz : zOk h 1 y = true) (hv : view h y = some rows) (hb : byteRow rows = some l)
    (hx : RepH β h w y x) : (convert src dst x).run P w = .ok (.string ⟨l.toArray⟩) w := by
  obtain ⟨e, h1, h2⟩ := u8T_info hu
  obtain ⟨aa, cap, rfl, hle, h3⟩ := view_sound sm hv hz hx
  rw [run_convert_bytes_string w src dst e aa _ _ h1 h2 hd]
  have hz1 : ∀ r ∈ rows, r.length = 1 := by
    rcases h3 with rfl | ⟨b, o, _, h4⟩
    · simp
    · exact h4.lens
  obtain ⟨ys, hyr, hyl, hy1, hyn⟩ := firstCells_sound (P := P) (w := w) (cap := cap) hz1 h3
  obtain ⟨ns, rfl, hns⟩ := byteRow_vals hb hyl
  cases aa with
  | none =>
    rcases h3 with rfl | ⟨b, o, h4, _⟩
    · simp [byteRow] at hb; subst hb
      simp [Conv.bytesToString]
      rfl
    · simp at h4
  | some aa =>
    have hld : (loadCells aa rows.length).run P w = .ok (ns.map (Value.int .u8)).toArray w := by
      rcases h3 with rfl | ⟨b, o, h4, h5⟩
      · have : ns = [] := by simpa using hyn
        subst this
        simp [loadCells, loadCellsFrom]
      · simpa [Builtin.firstCells] using hyr
    rw [run_bytesToString w aa _ cap ns hld, foldl_push, hns]
    simp

/-! Operators. -/
theorem kT_bool {t : Nat} (hk : kT P t = 1) : P.underlying t = some .bool := by unfold kT at hk; split at hk <;> first | assumption | (simp at hk)
theorem kT_ptr {t : Nat} (hk : kT P t = 4) : ∃ e, P.underlying t = some (.pointer e) := by unfold kT at hk; split at hk <;> first | exact ⟨_, ‹_›⟩ | (simp at hk)
theorem kT_map {t : Nat} (hk : kT P t = 6) : ∃ k e, P.underlying t = some (.map k e) := by unfold kT at hk; split at hk <;> first | exact ⟨_, _, ‹_›⟩ | (simp at hk)
theorem kT_slc {t : Nat} (hk : kT P t = 5) : ∃ e, P.underlying t = some (.slice e) := by unfold kT at hk; split at hk <;> first | exact ⟨_, ‹_›⟩ | (simp at hk)
theorem kT_iface {t : Nat} (hk : kT P t = 7) : ∃ ms, P.underlying t = some (.interface ms) := by unfold kT at hk; split at hk <;> first | exact ⟨_, ‹_›⟩ | (simp at hk)

theorem peq_sound {n : Nat} {F : Nat → Prop} {t d : Nat} {p q : PV} {x y : Value} {b : Bool} {c : Bool} (he : peq (kT P t) c p q = some b) (hx : Rep β n F w p x) (hy : Rep β n F w q y) :
    (Op.equalIn (d + 1) t x y).run P w = .ok b w ∧ ∀ (op : BinOp) (u v : Operand), c = (isConstB u || isConstB v) → (eqGuard op t u v x y).run P w = .ok () w := by
  unfold peq at he
  split at he <;> (try (simp at he; done)) <;> (split at he <;> (try (simp at he; done))) <;> rename_i hk <;> simp at he <;> subst he
  · simp only [Rep] at hx hy
    subst hx; subst hy
    refine ⟨by simp [Op.equalIn, run_underlying (kT_bool hk)], fun op u v _ => by cases op <;> rfl⟩
  · obtain ⟨ms, hu⟩ := kT_iface hk.1
    simp only [Rep] at hx hy
    subst hx; subst hy
    refine ⟨by simp [Op.equalIn, run_underlying hu], fun op u v hc => ?_⟩
    rw [hk.2] at hc
    have hor : isConstB u = true ∨ isConstB v = true := (Bool.or_eq_true _ _).mp hc.symm
    rcases hor with h1 | h1
    · cases u <;> simp [isConstB] at h1
      cases op <;> rfl
    · cases v <;> simp [isConstB] at h1
      cases op <;> cases u <;> rfl
  · obtain ⟨ms, hu⟩ := kT_iface hk
    simp only [Rep] at hx hy
    subst hx; subst hy
    exact ⟨by simp [Op.equalIn, run_underlying hu], fun op u v _ => by cases op <;> rfl⟩
  · obtain ⟨ms, hu⟩ := kT_iface hk
    simp only [Rep] at hx hy
    subst hx; subst hy
    exact ⟨by simp [Op.equalIn, run_underlying hu], fun op u v _ => by cases op <;> rfl⟩
  · obtain ⟨e, hu⟩ := kT_ptr hk
    simp only [Rep] at hx hy
    subst hx; subst hy
    exact ⟨by simp [Op.equalIn, run_underlying hu], fun op u v _ => by cases op <;> rfl⟩
  · obtain ⟨e, hu⟩ := kT_ptr hk
    simp only [Rep] at hx hy
    obtain ⟨_, b, _, rfl⟩ := hx; subst hy
    exact ⟨by simp [Op.equalIn, run_underlying hu], fun op u v _ => by cases op <;> rfl⟩
  · obtain ⟨e, hu⟩ := kT_ptr hk
    simp only [Rep] at hx hy
    obtain ⟨_, b, _, rfl⟩ := hy; subst hx
    exact ⟨by simp [Op.equalIn, run_underlying hu], fun op u v _ => by cases op <;> rfl⟩
  · obtain ⟨e, hu⟩ := kT_ptr hk
    simp only [Rep] at hx hy
    obtain ⟨b, o, _, rfl, _⟩ := hx; subst hy
    exact ⟨by simp [Op.equalIn, run_underlying hu], fun op u v _ => by cases op <;> rfl⟩
  · obtain ⟨e, hu⟩ := kT_ptr hk
    simp only [Rep] at hx hy
    obtain ⟨b, o, _, rfl, _⟩ := hy; subst hx
    exact ⟨by simp [Op.equalIn, run_underlying hu], fun op u v _ => by cases op <;> rfl⟩
  · obtain ⟨k, e, hu⟩ := kT_map hk
    simp only [Rep] at hx hy
    obtain ⟨_, b, _, rfl⟩ := hx; subst hy
    exact ⟨by simp [Op.equalIn, run_underlying hu], fun op u v _ => by cases op <;> rfl⟩
  · obtain ⟨k, e, hu⟩ := kT_map hk
    simp only [Rep] at hx hy
    subst hx; subst hy
    exact ⟨by simp [Op.equalIn, run_underlying hu], fun op u v _ => by cases op <;> rfl⟩
  · obtain ⟨e, hu⟩ := kT_slc hk
    simp only [Rep] at hx hy
    subst hx; subst hy
    exact ⟨by simp [Op.equalIn, run_underlying hu], fun op u v _ => by cases op <;> rfl⟩
  · obtain ⟨e, hu⟩ := kT_slc hk.1
    simp only [Rep] at hx hy
    obtain ⟨a, cap, rfl, _, _, hr⟩ := hx; subst hy
    rcases hr with rfl | ⟨b, o, _, rfl, _⟩
    · simp at hk
    · exact ⟨by simp [Op.equalIn, run_underlying hu], fun op u v _ => by cases op <;> rfl⟩
  · obtain ⟨e, hu⟩ := kT_slc hk.1
    simp only [Rep] at hx hy
    obtain ⟨_, a, cap, rfl, hlc, _, hr⟩ := hx; subst hy
    rcases hr with rfl | ⟨b, _, rfl, _⟩
    · omega
    · exact ⟨by simp [Op.equalIn, run_underlying hu], fun op u v _ => by cases op <;> rfl⟩

theorem int_int_sound {op : BinOp} {t : Nat} {k k' : IntKind} {a b : Int} {v : Value} (hv : (if isShift op then pshift op k a b else if k = k' then pint op k a b else none) = some v) (u1 u2 : Operand) :
    (do eqGuard op t u1 u2 (.int k a) (.int k' b); binOp op t (.int k a) (.int k' b) : Sem Value).run P w = .ok v w := by
  have hg : eqGuard op t u1 u2 (.int k a) (.int k' b) = pure () := by cases op <;> rfl
  rw [hg]
  simp only [pure_bind]
  cases op <;> simp only [isShift, Bool.false_eq_true, if_false, if_true] at hv
  all_goals first
    | (simp only [pshift] at hv
       split at hv
       · simp at hv
       · rename_i hb
         simp at hv
         subst hv
         simp [binOp, Op.shift, hb]; done)
    | (split at hv
       · rename_i hk
         subst hk
         simp only [pint] at hv
         first
           | (simp at hv; done)
           | (simp at hv; subst hv; simp [binOp, Op.intArith, Op.intBits, Op.intCmp, andK, orK, xorK, andnK]; done)
           | (split at hv
              · simp at hv
              · rename_i hb
                simp at hv; subst hv; simp [binOp, Op.intDiv, hb])
       · simp at hv)

theorem str_str_sound {op : BinOp} {t : Nat} {a b : ByteArray} {v : Value} (hv : pstr op a b = some v) (u1 u2 : Operand) :
    (do eqGuard op t u1 u2 (.string a) (.string b); binOp op t (.string a) (.string b) : Sem Value).run P w = .ok v w := by
  have hg : eqGuard op t u1 u2 (.string a) (.string b) = pure () := by cases op <;> rfl
  rw [hg]
  simp only [pure_bind]
  cases op <;> simp only [pstr] at hv <;> first
    | (simp at hv; done)
    | (simp at hv; subst hv; simp [binOp, Op.stringOp, ByteArray.toList_eq]; done)
    | (split at hv
       · simp at hv
       · rename_i hb
         simp at hv; subst hv
         simp only [binOp, Op.stringOp, hb, if_false]
         rfl)

theorem pbin_sound {n : Nat} {F : Nat → Prop} {op : BinOp} {t : Nat} {p q r : PV} {x y : Value} (u1 u2 : Operand) (hv : pbin op (kT P t) (isConstB u1 || isConstB u2) p q = some r) (hx : Rep β n F w p x) (hy : Rep β n F w q y) :
    ∃ v, (do eqGuard op t u1 u2 x y; binOp op t x y : Sem Value).run P w = .ok v w ∧ Rep β n F w r v := by
  unfold pbin at hv
  split at hv
  · rename_i k a k' b
    simp only [Rep] at hx hy
    subst hx; subst hy
    cases hh : (if isShift op then pshift op k a b else if k = k' then pint op k a b else none) with
    | none => simp [hh] at hv
    | some v =>
      rw [hh] at hv
      simp at hv; subst hv
      exact ⟨v, int_int_sound hh u1 u2, by simp only [Rep]⟩
  · simp only [Rep] at hx hy
    subst hx; subst hy
    rename_i a b
    cases hh : pstr op a b with
    | none => simp [hh] at hv
    | some v =>
      simp [hh] at hv; subst hv
      exact ⟨v, str_str_sound hh u1 u2, by simp only [Rep]⟩
  · rename_i k lo hi m r0 k' c
    simp only [Rep] at hx hy
    subst hy
    obtain ⟨i, i1, i2, i3, rfl⟩ := hx
    unfold pabL at hv
    split at hv
    case isFalse => simp at hv
    rename_i hk
    subst hk
    have key : ∀ v, pint op k i c = some v → isShift op = false → ∃ v', (do eqGuard op t u1 u2 (.int k i) (.int k c); binOp op t (.int k i) (.int k c) : Sem Value).run P w = .ok v' w ∧ Rep β n F w (.sc v) v' := by
      intro v hpv hns
      exact ⟨v, int_int_sound (by rw [hns, if_neg (by simp), if_pos rfl]; exact hpv) u1 u2, by simp only [Rep]⟩
    split at hv
    · split at hv
      · rename_i hc
        simp at hv; subst hv
        obtain ⟨rfl, hm⟩ := hc
        have hpi : pint .rem k i c = some (.int k r0) := by unfold pint; simp only; rw [if_neg (by omega), i3]
        exact key _ hpi rfl
      · simp at hv
    · rename_i hop
      cases hc : cmpL op lo hi c with
      | none => simp [hc] at hv
      | some b =>
        simp [hc] at hv; subst hv
        have h1 : pint op k i c = some (.bool b) ∧ isShift op = false := by
          unfold cmpL at hc
          split at hc <;> (try (simp at hc; done)) <;> (refine ⟨?_, rfl⟩) <;> simp only [pint, Option.some.injEq, Value.bool.injEq]
          all_goals (split at hc <;> (try (split at hc)) <;> (try (simp at hc; done)) <;> (simp at hc; subst hc; simp; omega))
        exact key _ h1.1 h1.2
  · rename_i k' c k lo hi m r0
    simp only [Rep] at hx hy
    subst hx
    obtain ⟨i, i1, i2, i3, rfl⟩ := hy
    unfold pabR at hv
    split at hv
    case isFalse => simp at hv
    rename_i hk
    subst hk
    have key : ∀ v, pint op k c i = some v → isShift op = false → ∃ v', (do eqGuard op t u1 u2 (.int k c) (.int k i); binOp op t (.int k c) (.int k i) : Sem Value).run P w = .ok v' w ∧ Rep β n F w (.sc v) v' := by
      intro v hpv hns
      exact ⟨v, int_int_sound (by rw [hns, if_neg (by simp), if_pos rfl]; exact hpv) u1 u2, by simp only [Rep]⟩
    cases hc : cmpL (flipO op) lo hi c with
    | none => simp [hc] at hv
    | some b =>
      simp [hc] at hv; subst hv
      have h1 : pint op k c i = some (.bool b) ∧ isShift op = false := by
        unfold cmpL flipO at hc
        cases op <;> simp only at hc <;> (try (simp at hc; done)) <;> (refine ⟨?_, rfl⟩) <;> simp only [pint, Option.some.injEq, Value.bool.injEq]
        all_goals (split at hc <;> (try (split at hc)) <;> (try (simp at hc; done)) <;> (simp at hc; subst hc; simp; omega))
      exact key _ h1.1 h1.2
  · rename_i hni hns hn1 hn2
    have hgen : ∀ b, peq (kT P t) (isConstB u1 || isConstB u2) p q = some b → binOp .eql t x y = (do pure (.bool (← Op.equal t x y))) ∧ binOp .neq t x y = (do pure (.bool (!(← Op.equal t x y)))) := by
      intro b hb
      unfold peq at hb
      split at hb <;> (try (simp at hb; done)) <;> simp only [Rep] at hx hy
      all_goals first
        | (subst hx; subst hy; exact ⟨rfl, rfl⟩)
        | (obtain ⟨_, _, _, rfl⟩ := hx; subst hy; exact ⟨rfl, rfl⟩)
        | (obtain ⟨_, _, _, rfl⟩ := hy; subst hx; exact ⟨rfl, rfl⟩)
        | (obtain ⟨_, _, _, rfl, _⟩ := hx; subst hy; exact ⟨rfl, rfl⟩)
        | (obtain ⟨_, _, _, rfl, _⟩ := hy; subst hx; exact ⟨rfl, rfl⟩)
        | (obtain ⟨_, _, rfl, _⟩ := hx; subst hy; exact ⟨rfl, rfl⟩)
    split at hv
    · cases hb : peq (kT P t) (isConstB u1 || isConstB u2) p q with
      | none => simp [hb] at hv
      | some b =>
        simp [hb] at hv; subst hv
        obtain ⟨h1, h2⟩ := peq_sound (d := 9999) hb hx hy
        refine ⟨.bool b, ?_, by simp only [Rep]⟩
        simp only [Sem.run_bind, h2 .eql u1 u2 rfl, Result.andThen_ok, (hgen b hb).1]
        show ((Op.equalIn (9999 + 1) t x y).run P w).andThen _ = _
        rw [h1]; rfl
    · cases hb : peq (kT P t) (isConstB u1 || isConstB u2) p q with
      | none => simp [hb] at hv
      | some b =>
        simp [hb] at hv; subst hv
        obtain ⟨h1, h2⟩ := peq_sound (d := 9999) hb hx hy
        refine ⟨.bool (!b), ?_, by simp only [Rep]⟩
        simp only [Sem.run_bind, h2 .neq u1 u2 rfl, Result.andThen_ok, (hgen b hb).2]
        show ((Op.equalIn (9999 + 1) t x y).run P w).andThen _ = _
        rw [h1]; rfl
    · simp at hv

theorem run_part_str {t i : Nat} (hk : kT P t = 3) {xs : Array Value} {v : Value} (hv : xs[i]? = some v) : (part t xs i).run P w = .ok v w := by
  have hu : P.underlying t = some .string := by unfold kT at hk; split at hk <;> first | assumption | (simp at hk)
  have ha : aggB P t = false := by simp [aggB, hk]
  simp [part, run_isAgg hu, ha, hv]
theorem eqFields_strs {n d : Nat} {F : Nat → Prop} {xs ys : List Value} : ∀ (fs : List Field) (i : Nat) (a b : List PV) {e : Bool}, sfOk P i fs = true → strsEq a b = some e → a.length = fs.length →
    RepL β n F w a (xs.drop i) → RepL β n F w b (ys.drop i) → (Op.eqFields (d + 1) xs.toArray ys.toArray fs).run P w = .ok e w
  | [], i, a, b, e, _, he, hl, _, _ => by
    have : a = [] := List.length_eq_zero_iff.1 hl
    subst this
    cases b with
    | nil => simp [strsEq] at he; subst he; simp [Op.eqFields]
    | cons => simp [strsEq] at he
  | f :: fs, i, [], b, e, _, _, hl, _, _ => by simp at hl
  | f :: fs, i, p :: a, b, e, hs, he, hl, ha, hb => by
    match p, b, he, ha, hb with
    | .sc (.string s), .sc (.string s') :: m, he1, ha1, hb1 =>
      simp only [strsEq, Option.map_eq_some_iff] at he1
      obtain ⟨r, he2, rfl⟩ := he1
      simp only [sfOk, Bool.and_eq_true, decide_eq_true_eq, beq_iff_eq] at hs
      obtain ⟨⟨⟨hn, ho⟩, hk⟩, hs⟩ := hs
      have hu : P.underlying f.type = some .string := by unfold kT at hk; split at hk <;> first | assumption | (simp at hk)
      have get : ∀ (zs : List Value) (s : ByteArray) (l : List PV), RepL β n F w (.sc (.string s) :: l) (zs.drop i) → zs[i]? = some (.string s) ∧ RepL β n F w l (zs.drop (i + 1)) := by
        intro zs s l hz
        have hd : ∀ u us, zs.drop i = u :: us → zs[i]? = some u ∧ zs.drop (i + 1) = us := by
          intro u us hu2
          have e1 : (zs.drop i)[0]? = some u := by rw [hu2]; rfl
          rw [List.getElem?_drop] at e1
          refine ⟨by simpa using e1, ?_⟩
          have e2 := congrArg (List.drop 1) hu2
          rw [List.drop_drop] at e2
          simpa using e2
        cases hc : zs.drop i with
        | nil => rw [hc] at hz; simp [RepL] at hz
        | cons u us =>
          rw [hc] at hz
          simp only [RepL, Rep] at hz
          obtain ⟨g1, g2⟩ := hd u us hc
          rw [g1, hz.1, g2]
          exact ⟨rfl, hz.2⟩
      obtain ⟨x1, x2⟩ := get xs s a ha1
      obtain ⟨y1, y2⟩ := get ys s' m hb1
      have ih := eqFields_strs (d := d) fs (i + 1) a m hs he2 (by simpa using hl) x2 y2
      have q1 := run_part_str (P := P) (w := w) hk (xs := xs.toArray) (by simpa using x1)
      have q2 := run_part_str (P := P) (w := w) hk (xs := ys.toArray) (by simpa using y1)
      simp only [Op.eqFields, hn, ne_eq, not_false_eq_true, if_true, Sem.run_bind, ho, q1, q2, Result.andThen_ok, run_equalIn_string w d f.type s s' hu, ByteArray.toList_eq]
      cases hc : (s.data.toList == s'.data.toList)
      · simp
      · simpa using ih
theorem sbin_sound {n : Nat} {F : Nat → Prop} {op : BinOp} {t : Nat} {p q r : PV} {x y : Value} (u1 u2 : Operand) (hv : sbin op (strsT P t) p q = some r) (hx : Rep β n F w p x) (hy : Rep β n F w q y) :
    ∃ v, (do eqGuard op t u1 u2 x y; binOp op t x y : Sem Value).run P w = .ok v w ∧ Rep β n F w r v := by
  unfold sbin at hv
  split at hv
  · rename_i a b
    split at hv
    · rename_i hn
      unfold strsT at hn
      split at hn
      · rename_i fs hu
        split at hn
        · rename_i hc
          obtain ⟨hs, hg, hf⟩ := hc
          simp only [Option.some.injEq] at hn
          simp only [Rep] at hx hy
          obtain ⟨xs, rfl, _, hx⟩ := hx
          obtain ⟨ys, rfl, _, hy⟩ := hy
          have hfo : P.fieldsOf t = fs := by unfold Program.fieldsOf; rw [hu]
          have key : ∀ e, strsEq a b = some e → (Op.equalIn 10000 t (.agg xs.toArray) (.agg ys.toArray)).run P w = .ok e w := by
            intro e he
            show (Op.equalIn (9999 + 1) t _ _).run P w = _
            rw [run_equalIn_struct w 9999 t _ _ (by rw [hu, hfo]) hs, hfo]
            exact eqFields_strs (d := 9998) fs.toList 0 a b hf he (by rw [← hn]; simp) (by simpa using hx) (by simpa using hy)
          cases op <;> simp only [] at hv <;> (try (simp at hv; done))
          · simp only [Option.map_eq_some_iff] at hv
            obtain ⟨e, he, rfl⟩ := hv
            refine ⟨.bool e, ?_, by simp only [Rep]⟩
            rw [Sem.run_bind, run_eqGuard_agg w _ t u1 u2 _ _ hg, Result.andThen_ok, run_eql_struct, key e he]
            rfl
          · simp only [Option.map_eq_some_iff] at hv
            obtain ⟨e, he, rfl⟩ := hv
            refine ⟨.bool !e, ?_, by simp only [Rep]⟩
            rw [Sem.run_bind, run_eqGuard_agg w _ t u1 u2 _ _ hg, Result.andThen_ok, run_neq_struct, key e he]
            rfl
        · simp at hn
      · simp at hn
    · simp at hv
  · simp at hv
end
end Go.AM
