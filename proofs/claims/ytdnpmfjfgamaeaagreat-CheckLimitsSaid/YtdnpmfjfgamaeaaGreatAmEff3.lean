/- Addresses, literals, maps and plain operators: the abstract machine's are the model's. -/
import Derived.Test.YtdnpmfjfgamaeaaGreatAmEff2
set_option linter.unusedVariables false
set_option linter.unusedSimpArgs false
set_option linter.unusedSectionVars false
namespace Go.AM
section
variable {P : Program} {β β' : Env} {h h' : Heap} {w w' : World} {s : Slots} {a : Act}

theorem intP_rep {n : Nat} {F : Nat → Prop} {p : PV} {k : Int} {x : Value} (hp : intP p = some k) (hx : Rep β n F w p x) : ∃ kk, x = .int kk k := by
  cases p with
  | sc v => cases v <;> simp [intP] at hp; subst hp; simp only [Rep] at hx; exact ⟨_, hx⟩
  | _ => simp [intP] at hp

theorem idx_sound (sm : Sim β h w) {t : Nat} {zb : Nat × Nat} {p q : PV} {x : Value} {k : IntKind} {n : Int} (hz : elT P t = some zb) (hi : idx h zb.1 p n = some q) (hx : RepH β h w p x) :
    ∃ v, (Instr.indexAt t x (.int k n)).run P w = .ok v w ∧ RepH β h w q v := by
  obtain ⟨e, i, zv, hu, hin, hsz, hby, hiz, hzl⟩ := elT_info hz
  unfold idx at hi
  split at hi
  case isFalse => simp at hi
  rename_i h0
  have hrun : ∀ (aa : Addr) (len cap : Nat), n.toNat < len → (Instr.indexAt t (.slice (some aa) len cap) (.int k n)).run P w = .ok (.pointer (some (aa.add (n.toNat * zb.1)))) w := by
    intro aa len cap hlt
    have h1 : n < (len : Int) := by omega
    simp [Instr.indexAt, asIntOf, run_underlying hu, h0, h1, sizeOf, typeInfo, hin, hsz]
  split at hi
  · rename_i z' rows
    split at hi
    case isFalse => simp at hi
    rename_i hzz
    subst hzz
    cases hr : rows[n.toNat]? with
    | none => simp [hr] at hi
    | some r =>
      simp [hr] at hi
      subst hi
      have hlt : n.toNat < rows.length := (List.getElem?_eq_some_iff.1 hr).1
      simp only [RepH, Rep] at hx
      obtain ⟨aa, cap, rfl, _, _, h3⟩ := hx
      rcases h3 with rfl | ⟨b, o, h4, rfl, h5⟩
      · simp at hlt
      · refine ⟨_, hrun _ _ _ hlt, ?_⟩
        rw [Addr.add_lit]
        simp only [RepH, Rep]
        exact ⟨b, _, h4, rfl, ((RepR_iff.1 h5) _ r hr).2⟩
  · rename_i id off len
    split at hi
    case h_2 => simp at hi
    rename_i z' rows hob
    split at hi
    case isFalse => simp at hi
    rename_i hc
    simp at hi
    subst hi
    simp only [RepH, Rep] at hx
    obtain ⟨hid, aa, cap, rfl, h2, _, h3⟩ := hx
    rcases h3 with h3 | ⟨b, h4, rfl, h6⟩
    · omega
    · refine ⟨_, hrun _ _ _ hc.2, ?_⟩
      rw [Addr.add_lit]
      have hok := sm.ok id _ hob
      simp only [ObjOk] at hok
      simp only [RepH, Rep]
      refine ⟨hid, b, h4, ?_⟩
      have hzb : (β id).z = zb.1 := by rw [hok.1]; exact hc.1
      rw [hzb, Nat.add_mul, Nat.add_zero, Nat.add_assoc]
  · simp at hi

theorem idxA_sound {t : Nat} {na : Nat × Nat} {p q : PV} {x : Value} {k : IntKind} {n : Int} (hz : arT P t = some na) (hi : idxA na.1 na.2 p n = some q) (hx : RepH β h w p x) :
    ∃ v, (Instr.indexAt t x (.int k n)).run P w = .ok v w ∧ RepH β h w q v := by
  obtain ⟨e, i, hu, hin, hsz⟩ := arT_info hz
  unfold idxA at hi
  split at hi
  case isFalse => simp at hi
  rename_i h0
  have hrun : ∀ (aa : Addr), (Instr.indexAt t (.pointer (some aa)) (.int k n)).run P w = .ok (.pointer (some (aa.add (n.toNat * na.2)))) w := by
    intro aa
    simp [Instr.indexAt, asIntOf, run_underlying hu, h0.1, h0.2, sizeOf, typeInfo, hin, hsz, Instr.sureAddr]
  split at hi
  · rename_i id r f
    simp at hi
    subst hi
    simp only [RepH, Rep] at hx
    obtain ⟨hid, b, hb, rfl⟩ := hx
    refine ⟨_, hrun _, ?_⟩
    rw [Addr.add_lit]
    simp only [RepH, Rep]
    exact ⟨hid, b, hb, by simp [Nat.add_assoc]⟩
  · rename_i cs
    split at hi
    case isFalse => simp at hi
    simp at hi
    subst hi
    simp only [RepH, Rep] at hx
    obtain ⟨b, o, h1, rfl, h3⟩ := hx
    refine ⟨_, hrun _, ?_⟩
    rw [Addr.add_lit]
    simp only [RepH, Rep]
    exact ⟨b, _, h1, rfl, (h3.drop _).take _⟩
  · simp at hi

theorem fld_sound {t f : Nat} {o : Nat × Nat × Bool} {p q : PV} {x : Value} (ho : fldT P t f = some o) (hf : fldP o.1 o.2.1 p = some q) (hx : RepH β h w p x) :
    ∃ v, (Instr.fieldAt t x f).run P w = .ok v w ∧ RepH β h w q v := by
  obtain ⟨fs, fd, hu, hfd, hsz, hof, hag⟩ := fldT_info ho
  have hrun : ∀ aa : Addr, 0 < o.2.1 → (Instr.fieldAt t (.pointer (some aa)) f).run P w = .ok (.pointer (some (aa.add o.1))) w := by
    intro aa hpos
    simp [Instr.fieldAt, run_underlying hu, hfd, Instr.sureAddr, fieldPlace, run_sizeOf hsz, hof]
    intro h0; omega
  unfold fldP at hf
  split at hf
  · rename_i id i c
    split at hf
    case isFalse => simp at hf
    rename_i hpos
    simp at hf
    subst hf
    simp only [RepH, Rep] at hx
    obtain ⟨hid, b, hb, rfl⟩ := hx
    refine ⟨_, hrun _ hpos, ?_⟩
    rw [Addr.add_lit]
    simp only [RepH, Rep]
    exact ⟨hid, b, hb, by simp [Nat.add_assoc]⟩
  · rename_i cs
    split at hf
    case isFalse => simp at hf
    rename_i hc
    simp at hf
    subst hf
    simp only [RepH, Rep] at hx
    obtain ⟨b, oo, h1, rfl, h3⟩ := hx
    refine ⟨_, hrun _ hc.1, ?_⟩
    rw [Addr.add_lit]
    simp only [RepH, Rep]
    exact ⟨b, _, h1, rfl, (h3.drop _).take _⟩
  · simp at hf

theorem field_sound {t f : Nat} {o : Nat × Nat × Bool} {cs : List PV} {v : PV} {x : Value} (ho : fldT P t f = some o) (hv : mkV o.2.2 o.2.1 (cs.drop o.1) = some v) (hx : RepH β h w (.agg cs) x) :
    ∃ u, (Instr.field t x f).run P w = .ok u w ∧ RepH β h w v u := by
  obtain ⟨fs, fd, hu, hfd, hsz, hof, hag⟩ := fldT_info ho
  obtain ⟨d, i, hd, hi, hn⟩ := szT_info hsz
  simp only [RepH, Rep] at hx
  obtain ⟨xs, rfl, h1, h2⟩ := hx
  have hlen := h2.len
  unfold mkV at hv
  rw [← hag] at hv
  by_cases ha : aggB P fd.type = true
  · rw [if_pos ha] at hv
    split at hv
    case isFalse => simp at hv
    simp at hv
    subst hv
    refine ⟨.agg ((xs.drop o.1).take o.2.1).toArray, ?_, ?_⟩
    · simp [Instr.field, run_underlying hu, hfd, part, run_isAgg hd, ha, run_sizeOf hsz, asAgg, hof, List.extract_eq_take_drop]
    · simp only [RepH, Rep]
      exact ⟨_, rfl, fun u hu => h1 u (List.mem_of_mem_drop (List.mem_of_mem_take hu)), (h2.drop _).take _⟩
  · have ha' : aggB P fd.type = false := by simpa using ha
    rw [ha'] at hv
    simp only [Bool.false_eq_true, if_false] at hv
    rw [List.head?_eq_getElem?, List.getElem?_drop] at hv
    obtain ⟨u, hu', hr⟩ := h2.get hv
    refine ⟨u, ?_, hr⟩
    simp at hu'
    simp [Instr.field, run_underlying hu, hfd, part, run_isAgg hd, ha', asAgg, hof, hu']

theorem arE_info {t : Nat} {na : Nat × Nat × Bool} (h : arE P t = some na) : ∃ e, P.underlying t = some (.array na.1 e) ∧ szT P e = some na.2.1 ∧ aggB P e = na.2.2 := by
  unfold arE at h
  split at h
  · rename_i n e hu
    simp only [Option.map_eq_some_iff] at h
    obtain ⟨z, hz, rfl⟩ := h
    exact ⟨e, hu, hz, rfl⟩
  · simp at h
theorem indexV_sound {t : Nat} {na : Nat × Nat × Bool} {cs : List PV} {v : PV} {x : Value} {k : IntKind} {n : Int} (ho : arE P t = some na) (h0 : 0 ≤ n ∧ n < na.1) (hv : mkV na.2.2 na.2.1 (cs.drop (n.toNat * na.2.1)) = some v) (hx : RepH β h w (.agg cs) x) :
    ∃ u, (Instr.index t x (.int k n)).run P w = .ok u w ∧ RepH β h w v u := by
  obtain ⟨e, hu, hsz, hag⟩ := arE_info ho
  obtain ⟨d, i, hd, hi, hn⟩ := szT_info hsz
  simp only [RepH, Rep] at hx
  obtain ⟨xs, rfl, h1, h2⟩ := hx
  have hlen := h2.len
  unfold mkV at hv
  rw [← hag] at hv
  by_cases ha : aggB P e = true
  · rw [if_pos ha] at hv
    split at hv
    case isFalse => simp at hv
    simp at hv
    subst hv
    refine ⟨.agg ((xs.drop (n.toNat * na.2.1)).take na.2.1).toArray, ?_, ?_⟩
    · simp [Instr.index, asIntOf, run_underlying hu, h0.1, h0.2, part, run_isAgg hd, ha, run_sizeOf hsz, asAgg, List.extract_eq_take_drop]
    · simp only [RepH, Rep]
      exact ⟨_, rfl, fun u hu => h1 u (List.mem_of_mem_drop (List.mem_of_mem_take hu)), (h2.drop _).take _⟩
  · have ha' : aggB P e = false := by simpa using ha
    rw [ha'] at hv
    simp only [Bool.false_eq_true, if_false] at hv
    rw [List.head?_eq_getElem?, List.getElem?_drop] at hv
    obtain ⟨u, hu', hr⟩ := h2.get hv
    refine ⟨u, ?_, hr⟩
    simp at hu'
    simp [Instr.index, asIntOf, run_underlying hu, h0.1, h0.2, part, run_isAgg hd, ha', run_sizeOf hsz, asAgg, hu']

theorem oInt_rep (hs : ∀ t, RepH β h w (s t) (a.tmps.getD t undef)) {x : Option Operand} {r : Option Int} (hx : oInt (pev s) x = some r) :
    (x = none ∧ r = none) ∨ ∃ y k kk, x = some y ∧ r = some k ∧ a.eval y = .int kk k := by
  cases x with
  | none => simp [oInt] at hx; exact .inl ⟨rfl, hx.symm⟩
  | some y =>
    simp only [oInt] at hx
    cases hk : intP (pev s y) with
    | none => simp [hk] at hx
    | some k =>
      simp [hk] at hx
      obtain ⟨kk, he⟩ := intP_rep hk (pev_rep hs y)
      exact .inr ⟨y, k, kk, rfl, hx.symm, he⟩

theorem run_sliceBound (w : World) {k : IntKind} {n : Int} {m : Nat} {c : BoundsCode} (h1 : 0 ≤ n) (h2 : n ≤ m) : (Instr.sliceBound (.int k n) m c).run P w = .ok n.toNat w := by
  simp [Instr.sliceBound, asIntOf, h1, h2]

/-- the bounds of a slice expression -/
theorem run_bounds (w : World) (isS : Bool) (len cap : Nat) (lo hi : Option Operand) (al bl : Option Int) (hlo : (lo = none ∧ al = none) ∨ ∃ y k kk, lo = some y ∧ al = some k ∧ a.eval y = .int kk k)
    (hhi : (hi = none ∧ bl = none) ∨ ∃ y k kk, hi = some y ∧ bl = some k ∧ a.eval y = .int kk k) (hlc : len ≤ cap) (h0 : 0 ≤ al.getD 0) (h1 : al.getD 0 ≤ bl.getD (len : Int)) (h2 : bl.getD (len : Int) ≤ (len : Int)) :
    (Instr.sliceBounds isS len cap (lo.map a.eval) (hi.map a.eval) none).run P w = .ok ((al.getD 0).toNat, (bl.getD (len : Int)).toNat, cap) w := by
  rcases hlo with ⟨rfl, rfl⟩ | ⟨y, k, kk, rfl, rfl, hy⟩ <;> rcases hhi with ⟨rfl, rfl⟩ | ⟨y', k', kk', rfl, rfl, hy'⟩
  · simp [Instr.sliceBounds]
  · simp at h0 h1 h2
    have e1 : (k' : Int) ≤ (cap : Int) := by omega
    simp [Instr.sliceBounds, hy', Instr.sliceBound, asIntOf, h1, e1]
  · simp at h0 h1 h2
    simp [Instr.sliceBounds, hy, Instr.sliceBound, asIntOf, h0, h1]
  · simp at h0 h1 h2
    have e1 : (k' : Int) ≤ (cap : Int) := by omega
    have e2 : (0 : Int) ≤ k' := by omega
    have e3 : k ≤ max k' 0 := by omega
    simp [Instr.sliceBounds, hy, hy', Instr.sliceBound, asIntOf, h0, e1, e2, e3]

theorem slice_sound (sm : Sim β h w) {t : Nat} {zb : Nat × Nat} {p q : PV} {x : Value} {lo hi : Option Operand} {al bl : Option Int} (hz : elT P t = some zb)
    (hlo : (lo = none ∧ al = none) ∨ ∃ y k kk, lo = some y ∧ al = some k ∧ a.eval y = .int kk k) (hhi : (hi = none ∧ bl = none) ∨ ∃ y k kk, hi = some y ∧ bl = some k ∧ a.eval y = .int kk k)
    (hq : subL zb.1 p h al bl = some q) (hx : RepH β h w p x) :
    ∃ v, (Instr.sliceAt t x (lo.map a.eval) (hi.map a.eval) none).run P w = .ok v w ∧ RepH β h w q v := by
  obtain ⟨e, i, zv, hu, hin, hsz, hby, hiz, hzl⟩ := elT_info hz
  unfold subL at hq
  split at hq
  case h_1 => simp at hq
  rename_i n hn
  dsimp only at hq
  split at hq
  case isFalse => simp at hq
  rename_i hc
  obtain ⟨c0, c1, c2, hzk⟩ := hc
  have hrun : ∀ (aa : Option Addr) (cap : Nat), n ≤ cap → (Instr.sliceAt t (.slice aa n cap) (lo.map a.eval) (hi.map a.eval) none).run P w =
      .ok (.slice (if cap = (al.getD 0).toNat then aa else aa.map (·.add ((al.getD 0).toNat * zb.1))) ((bl.getD (n : Int)).toNat - (al.getD 0).toNat) (cap - (al.getD 0).toNat)) w := by
    intro aa cap hcap
    have hb := run_bounds (P := P) (a := a) w true n cap lo hi al bl hlo hhi hcap c0 c1 c2
    simp [Instr.sliceAt, Instr.slice, run_underlying hu, hb, sizeOf, typeInfo, hin, hsz]
  split at hq
  · rename_i z' rows
    simp [lenP] at hn
    simp [zOk] at hzk
    simp at hq
    subst hq; subst hzk; subst hn
    simp only [RepH, Rep] at hx
    obtain ⟨aa, cap, rfl, h2, h2', h3⟩ := hx
    refine ⟨_, hrun aa cap h2, ?_⟩
    have hl : ((rows.drop (al.getD 0).toNat).take (bl.getD (rows.length : Int) - al.getD 0).toNat).length = (bl.getD (rows.length : Int)).toNat - (al.getD 0).toNat := by
      simp only [List.length_take, List.length_drop]; omega
    simp only [RepH, Rep]
    rw [hl]
    refine ⟨_, _, rfl, by omega, by omega, ?_⟩
    rcases h3 with rfl | ⟨b, o, h4, rfl, h5⟩
    · left; simp
    · by_cases hem : (bl.getD (rows.length : Int)).toNat - (al.getD 0).toNat = 0
      · left; exact List.eq_nil_of_length_eq_zero (by rw [hl]; exact hem)
      · right
        refine ⟨b, o + (al.getD 0).toNat * zb.1, h4, ?_, (h5.drop _).take _⟩
        rw [if_neg (by omega)]
        simp [Addr.add_lit]
  · rename_i id off len
    split at hq
    case h_2 => simp at hq
    rename_i z' rows hob
    simp [lenP] at hn
    simp [zOk, hob] at hzk
    simp at hq
    subst hq; subst hzk; subst hn
    have hok := sm.ok id _ hob
    simp only [ObjOk] at hok
    simp only [RepH, Rep] at hx
    obtain ⟨hid, aa, cap, rfl, h2, h2', h3⟩ := hx
    refine ⟨_, hrun aa cap h2, ?_⟩
    simp only [RepH, Rep]
    have hl : (bl.getD (len : Int) - al.getD 0).toNat = (bl.getD (len : Int)).toNat - (al.getD 0).toNat := by omega
    rw [hl]
    refine ⟨hid, _, _, rfl, by omega, by omega, ?_⟩
    rcases h3 with h3 | ⟨b, h4, rfl, h6⟩
    · left; omega
    · by_cases hem : cap - (al.getD 0).toNat = 0
      · exact .inl hem
      · right
        refine ⟨b, h4, ?_, ?_⟩
        · rw [if_neg (by omega)]
          simp [Addr.add_lit, hok.1, Nat.add_mul, Nat.add_assoc]
        · rw [show off + (al.getD 0).toNat + (cap - (al.getD 0).toNat) = off + cap by omega]; exact h6
  · simp [lenP] at hn
    subst hn
    simp at hq; subst hq
    simp only [RepH, Rep] at hx
    obtain ⟨aa, rfl⟩ := hx
    refine ⟨_, hrun aa 0 (Nat.le_refl _), ?_⟩
    simp only [RepH, Rep]
    have e1 : (al.getD 0).toNat = 0 := by omega
    have e2 : (bl.getD ((0 : Nat) : Int)).toNat = 0 := by omega
    rw [e1, e2]
    exact ⟨_, rfl⟩
  · simp [lenP] at hn
    subst hn
    simp at hq; subst hq
    simp only [RepH, Rep] at hx
    subst hx
    refine ⟨_, hrun none 0 (Nat.le_refl _), ?_⟩
    simp only [RepH, Rep]
    have e1 : (al.getD 0).toNat = 0 := by omega
    have e2 : (bl.getD ((0 : Nat) : Int)).toNat = 0 := by omega
    rw [e1, e2]
    rfl
  · simp at hq

theorem sliceS_sound {t : Nat} {p q : PV} {x : Value} {lo hi : Option Operand} {al bl : Option Int} (hk : kT P t = 3)
    (hlo : (lo = none ∧ al = none) ∨ ∃ y k kk, lo = some y ∧ al = some k ∧ a.eval y = .int kk k) (hhi : (hi = none ∧ bl = none) ∨ ∃ y k kk, hi = some y ∧ bl = some k ∧ a.eval y = .int kk k)
    (hq : subS p al bl = some q) (hx : RepH β h w p x) :
    ∃ v, (Instr.sliceAt t x (lo.map a.eval) (hi.map a.eval) none).run P w = .ok v w ∧ RepH β h w q v := by
  unfold subS at hq
  split at hq
  case h_2 => simp at hq
  rename_i st
  split at hq
  case isFalse => simp at hq
  rename_i hc
  simp at hq
  subst hq
  simp only [RepH, Rep] at hx
  subst hx
  have hu : P.underlying t = some .string := by
    unfold kT at hk
    split at hk <;> first | assumption | (simp at hk)
  have hb := run_bounds (P := P) (a := a) w false st.size st.size lo hi al bl hlo hhi (Nat.le_refl _) hc.1 hc.2.1 hc.2.2
  refine ⟨_, ?_, by simp only [RepH, Rep]; rfl⟩
  simp [Instr.sliceAt, Instr.slice, run_underlying hu, hb]

theorem sliceZ_sound {t : Nat} {zb : Nat × Nat} {p : PV} {x : Value} {hi mx : Value} {k1 k2 : IntKind} (hz : elT P t = some zb) (h1 : hi = .int k1 0) (h2 : mx = .int k2 0) (hp : isSl p = true) (hx : RepH β h w p x) :
    ∃ v, (Instr.sliceAt t x none (some hi) (some mx)).run P w = .ok v w ∧ RepH β h w .emp v := by
  obtain ⟨e, i, zv, hu, hin, hsz, hby, hiz, hzl⟩ := elT_info hz
  subst h1; subst h2
  have hx' : ∃ aa len cap, x = .slice aa len cap := by
    unfold isSl at hp
    split at hp <;> simp only [RepH, Rep] at hx
    · obtain ⟨aa, cap, rfl, _⟩ := hx; exact ⟨_, _, _, rfl⟩
    · obtain ⟨_, aa, cap, rfl, _⟩ := hx; exact ⟨_, _, _, rfl⟩
    · obtain ⟨aa, rfl⟩ := hx; exact ⟨_, _, _, rfl⟩
    · exact ⟨_, _, _, hx⟩
    · simp at hp
  obtain ⟨aa, len, cap, rfl⟩ := hx'
  refine ⟨.slice aa 0 0, ?_, by simp only [RepH, Rep]; exact ⟨_, rfl⟩⟩
  simp [Instr.sliceAt, Instr.slice, run_underlying hu, Instr.sliceBounds, Instr.sliceBound, asIntOf, sizeOf, typeInfo, hin]
end
end Go.AM
