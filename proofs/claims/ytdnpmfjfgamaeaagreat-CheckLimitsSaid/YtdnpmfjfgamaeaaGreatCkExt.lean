/- What the runs take from contracts: names, notations, places of bytes. -/
import Derived.Test.YtdnpmfjfgamaeaaGreatAmRun2
import Derived.Test.YtdnpmfjfgamaeaaGreatAmFrame
import Derived.Test.YtdnpmfjfgamaeaaGreatFmSxVal
import Derived.Lib.IndexEntry
set_option linter.unusedVariables false
set_option linter.unusedSimpArgs false
set_option linter.unusedSectionVars false
namespace Go.Proofs.YtdnpmfjfgamaeaaGreat
open Go.AM
set_option maxHeartbeats 2000000
set_option maxRecDepth 20000
/-! A notation as the run has it: lists without elements may be nil. -/
mutual
def decR (h : Heap) : Nat → List PV → Option Sx
  | 0, _ => none
  | k + 1, [.sc (.int .i64 a), .sc (.int .i64 b), .sc (.int .i64 c), .sc (.int .i64 d), .sc (.string t), ks] => match ks with
    | .imm z rows => if z = 6 ∧ -9223372036854775808 ≤ a ∧ a ≤ 9223372036854775807 ∧ -9223372036854775808 ≤ b ∧ b ≤ 9223372036854775807 ∧ t.size ≤ bigN ∧ rows.length ≤ bigN then (decRs h k rows).map fun l => .mk a b c d t l else none
    | .own id off len => match h.obj id with
      | some (.arr z rows) => if z = 6 ∧ off + len ≤ rows.length ∧ -9223372036854775808 ≤ a ∧ a ≤ 9223372036854775807 ∧ -9223372036854775808 ≤ b ∧ b ≤ 9223372036854775807 ∧ t.size ≤ bigN ∧ len ≤ bigN then (decRs h k ((rows.drop off).take len)).map fun l => .mk a b c d t l else none
      | _ => none
    | .emp => if -9223372036854775808 ≤ a ∧ a ≤ 9223372036854775807 ∧ -9223372036854775808 ≤ b ∧ b ≤ 9223372036854775807 ∧ t.size ≤ bigN then some (.mk a b c d t []) else none
    | .sc (.slice none 0 0) => if -9223372036854775808 ≤ a ∧ a ≤ 9223372036854775807 ∧ -9223372036854775808 ≤ b ∧ b ≤ 9223372036854775807 ∧ t.size ≤ bigN then some (.mk a b c d t []) else none
    | _ => none
  | _, _ => none
def decRs (h : Heap) : Nat → List (List PV) → Option (List Sx)
  | 0, _ => none
  | _ + 1, [] => some []
  | k + 1, r :: rs => match decR h k r with
    | some x => (decRs h k rs).map (x :: ·)
    | none => none
end
def decOk (β : Env) (h : Heap) (w : World) (k : Nat) : Prop := ∀ (r : List PV) (x : Sx), decR h k r = some x → x.ok ∧ r.length = 6 ∧ (∀ b o, RepS β h.next (Fz β (arrless h) w) w r b o → RepS β h.next (Fz β (arrless h) w) w x.cells b o) ∧ ∀ vs, RepL β h.next (Fz β (arrless h) w) w r vs → RepL β h.next (Fz β (arrless h) w) w x.cells vs
def decsOk (β : Env) (h : Heap) (w : World) (k : Nat) : Prop := ∀ (rs : List (List PV)) (l : List Sx), decRs h k rs = some l → Sx.oks l ∧ l.length = rs.length ∧ ∀ b o, RepR β h.next (Fz β (arrless h) w) w 6 rs b o → RepR β h.next (Fz β (arrless h) w) w 6 (Sx.rows l) b o
theorem decs_of {β : Env} {hp : Heap} {w : World} (k : Nat) (h1 : decOk β hp w k) (h2 : decsOk β hp w k) : decsOk β hp w (k + 1) := by
  intro rs l h
  cases rs with
  | nil =>
    simp only [decRs, Option.some.injEq] at h
    subst h
    exact ⟨by simp only [Sx.oks], rfl, fun b o hr => by simpa only [Sx.rows] using hr⟩
  | cons r rs =>
    simp only [decRs] at h
    split at h
    · rename_i x hx
      simp only [Option.map_eq_some_iff] at h
      obtain ⟨l', hl, rfl⟩ := h
      obtain ⟨a1, a2, a3, _⟩ := h1 r x hx
      obtain ⟨b1, b2, b3⟩ := h2 rs l' hl
      refine ⟨by simp only [Sx.oks]; exact ⟨a1, b1⟩, by simp [b2], fun b o hr => ?_⟩
      simp only [Sx.rows, RepR] at hr ⊢
      exact ⟨⟨Sx.cells_len x, a3 b o hr.1.2⟩, b3 b _ hr.2⟩
    · simp at h
theorem dec_of {β : Env} {hp : Heap} {w : World} (sm : Sim β hp w) (k : Nat) (h2 : decsOk β hp w k) : decOk β hp w (k + 1) := by
  intro r x h
  unfold decR at h
  split at h
  case h_1 => simp at h
  case h_3 => simp at h
  rename_i kk a b c d t ks hkk
  have : kk = k := by omega
  subst this
  have key : ∀ (l : List Sx), (∀ v, Rep β hp.next (Fz β (arrless hp) w) w ks v → Rep β hp.next (Fz β (arrless hp) w) w (.imm 6 (Sx.rows l)) v) → (∀ bb o, RepS β hp.next (Fz β (arrless hp) w) w [.sc (.int .i64 a), .sc (.int .i64 b), .sc (.int .i64 c), .sc (.int .i64 d), .sc (.string t), ks] bb o → RepS β hp.next (Fz β (arrless hp) w) w (Sx.mk a b c d t l).cells bb o) ∧ ∀ vs, RepL β hp.next (Fz β (arrless hp) w) w [.sc (.int .i64 a), .sc (.int .i64 b), .sc (.int .i64 c), .sc (.int .i64 d), .sc (.string t), ks] vs → RepL β hp.next (Fz β (arrless hp) w) w (Sx.mk a b c d t l).cells vs := by
    intro l hk
    constructor
    · intro bb o hr
      simp only [Sx.cells, RepS, sPV] at hr ⊢
      obtain ⟨r1, r2, r3, r4, r5, ⟨v, g1, g2, g3⟩, r7⟩ := hr
      exact ⟨r1, r2, r3, r4, r5, ⟨v, g1, g2, hk v g3⟩, r7⟩
    · intro vs hr
      match vs, hr.len, hr with
      | [v1, v2, v3, v4, v5, v6], _, hr =>
        simp only [Sx.cells, RepL, sPV] at hr ⊢
        obtain ⟨r1, r2, r3, r4, r5, r6, r7⟩ := hr
        exact ⟨r1, r2, r3, r4, r5, hk v6 r6, r7⟩
  split at h
  · rename_i z rows
    split at h
    · rename_i hc
      obtain ⟨rfl, c1, c2, c3, c4, c5, c6⟩ := hc
      simp only [Option.map_eq_some_iff] at h
      obtain ⟨l, hl, rfl⟩ := h
      obtain ⟨b1, b2, b3⟩ := h2 rows l hl
      obtain ⟨k1, k2⟩ := key l (fun v hv => by
        simp only [Rep] at hv ⊢
        obtain ⟨aa, cap, e1, e2, e3, e4⟩ := hv
        refine ⟨aa, cap, by rw [Sx.rows_len, b2]; exact e1, by rw [Sx.rows_len, b2]; exact e2, e3, ?_⟩
        rcases e4 with e4 | ⟨bb, o, f1, f2, f3⟩
        · left
          have hz : l.length = 0 := by rw [b2, e4]; rfl
          have : l = [] := List.length_eq_zero_iff.1 hz
          rw [this]; simp only [Sx.rows]
        · exact .inr ⟨bb, o, f1, f2, b3 bb o f3⟩)
      exact ⟨by simp only [Sx.ok]; exact ⟨⟨c1, c2⟩, ⟨c3, c4⟩, c5, by rw [b2]; exact c6, b1⟩, rfl, k1, k2⟩
    · simp at h
  · rename_i id off len
    split at h
    case h_2 => simp at h
    rename_i z rows hob
    split at h
    · rename_i hc
      obtain ⟨rfl, c0, c1, c2, c3, c4, c5, c6⟩ := hc
      simp only [Option.map_eq_some_iff] at h
      obtain ⟨l, hl, rfl⟩ := h
      obtain ⟨b1, b2, b3⟩ := h2 _ l hl
      have hlen : ((rows.drop off).take len).length = len := by simp; omega
      rw [hlen] at b2
      have mvS : Mv β hp.next (Fz β hp w) w β hp.next (Fz β (arrless hp) w) w := ⟨Nat.le_refl _, fun _ _ _ => rfl, fun b hb => ⟨⟨hb.1, fun id hs => hb.2.1 id (by
        obtain ⟨o, ho⟩ := Option.isSome_iff_exists.1 hs
        rw [arrless_some ho]; rfl), hb.2.2⟩, rfl⟩⟩
      have hk0 := sm.ok id _ hob
      have hk := ObjOk.mv mvS (fun _ _ => rfl) hk0
      obtain ⟨k1, k2⟩ := key l (fun v hv => by
        simp only [Rep] at hv ⊢
        obtain ⟨hid, aa, cap, e1, e2, e3, e4⟩ := hv
        refine ⟨aa, cap, by rw [Sx.rows_len, b2]; exact e1, by rw [Sx.rows_len, b2]; exact e2, e3, ?_⟩
        rcases e4 with e4 | ⟨bb, f1, f2, f3⟩
        · left
          have hz : l.length = 0 := by omega
          have : l = [] := List.length_eq_zero_iff.1 hz
          rw [this]; simp only [Sx.rows]
        · simp only [ObjOk] at hk
          obtain ⟨hz, hk⟩ := hk
          rcases hk with ⟨hk, _⟩ | ⟨b', c', e', fr, g1, g2, g3, g4, g5, g6⟩
          · rw [hk] at f1; simp at f1
          · rw [f1] at g1; simp at g1; subst g1
            rw [hz] at f2
            refine .inr ⟨bb, _, ?_, f2, b3 bb _ ((g6.drop off).take len)⟩
            refine ⟨hk0.blk_lt f1, fun j hj hbb => ?_, sm.nx id (by rw [hob]; rfl) bb f1⟩
            have hjl : (hp.obj j).isSome = true := by
              obtain ⟨o, ho⟩ := Option.isSome_iff_exists.1 hj
              rw [arrless_some ho]; rfl
            have := sm.inj id j (by rw [hob]; rfl) hjl bb f1 hbb
            subst this
            rw [arrless_blk hob hk0 f1] at hj; simp at hj)
      exact ⟨by simp only [Sx.ok]; exact ⟨⟨c1, c2⟩, ⟨c3, c4⟩, c5, by rw [b2]; exact c6, b1⟩, rfl, k1, k2⟩
    · simp at h
  · split at h
    · rename_i hc
      obtain ⟨c1, c2, c3, c4, c5⟩ := hc
      simp only [Option.some.injEq] at h
      subst h
      obtain ⟨k1, k2⟩ := key [] (fun v hv => by
        simp only [Rep, Sx.rows] at hv ⊢
        obtain ⟨aa, rfl⟩ := hv
        exact ⟨aa, 0, rfl, by simp, by simp [maxLen], .inl trivial⟩)
      exact ⟨by simp only [Sx.ok, Sx.oks, and_true]; exact ⟨⟨c1, c2⟩, ⟨c3, c4⟩, c5, by simp⟩, rfl, k1, k2⟩
    · simp at h
  · split at h
    · rename_i hc
      obtain ⟨c1, c2, c3, c4, c5⟩ := hc
      simp only [Option.some.injEq] at h
      subst h
      obtain ⟨k1, k2⟩ := key [] (fun v hv => by
        simp only [Rep, Sx.rows] at hv ⊢
        subst hv
        exact ⟨none, 0, rfl, by simp, by simp [maxLen], .inl trivial⟩)
      exact ⟨by simp only [Sx.ok, Sx.oks, and_true]; exact ⟨⟨c1, c2⟩, ⟨c3, c4⟩, c5, by simp⟩, rfl, k1, k2⟩
    · simp at h
  · simp at h
theorem dec_ok {β : Env} {hp : Heap} {w : World} (sm : Sim β hp w) : ∀ k, decOk β hp w k ∧ decsOk β hp w k
  | 0 => ⟨fun r x h => by simp [decR] at h, fun rs l h => by simp [decRs] at h⟩
  | k + 1 => ⟨dec_of sm k (dec_ok sm k).2, decs_of k (dec_ok sm k).1 (dec_ok sm k).2⟩
theorem valid_of {cs : List PV} {x : Sx} {k : Nat} {h : Heap} (hd : decR h k cs = some x) (hok : x.ok) : PCall Tryz.prog 64 [.agg cs] h fun r h' => r = .sc (.bool (svalid x 0 0).1) ∧ h' = h := by
  refine PCall.lend (svalid_c hok (arrless h)) fun β w vals sm hr => ?_
  obtain ⟨_, _, _, g⟩ := (dec_ok sm k).1 cs x hd
  have mvS : Mv β h.next (Fz β h w) w β h.next (Fz β (arrless h) w) w := ⟨Nat.le_refl _, fun _ _ _ => rfl, fun b hb => ⟨⟨hb.1, fun id hs => hb.2.1 id (by
    obtain ⟨o, ho⟩ := Option.isSome_iff_exists.1 hs
    rw [arrless_some ho]; rfl), hb.2.2⟩, rfl⟩⟩
  have hr := RepL.mv mvS _ _ hr
  match vals, hr.len, hr with
  | [v], _, hr =>
    simp only [RepL, Rep, and_true] at hr ⊢
    obtain ⟨xs, e1, e2, e3⟩ := hr
    exact ⟨xs, e1, e2, g xs e3⟩
theorem PCall.ofSim {P : Program} {f : FuncId} {args : List PV} {h : Heap} {K : PV → Heap → Prop} (hc : (∃ β w, Sim β h w) → PCall P f args h K) : PCall P f args h K := fun β w vals sm hr => hc ⟨β, w, sm⟩ β w vals sm hr
theorem pcall_indexString {P : Program} {f : FuncId} {fn : Func} (hf : P.funcs[f]? = some fn) (hname : (fn.name == "runtime.NumGoroutine") = false) (hb : fn.body.isNone = true) (hn : Extern.findNext fn = none) (he : Extern.find fn = some Extern.BytealgIndex.index) {g id : Nat} {lo hi : Int} (hg : P.globals.findIdx? (·.name == "internal/bytealg.MaxLen") = some g) (s t : ByteArray) (h : Heap) (hob : h.obj id = some (.glb g lo hi)) (h2 : 2 ≤ t.size) (hlo : (t.size : Int) ≤ lo) (hs : s.size < 4294967281) :
    PCall P f [.sc (.string s), .sc (.string t)] h (fun r h' => r = .sc (.int .i64 (Go.Lib.index s.data.toList t.data.toList)) ∧ h' = h) := by
  intro β w vals sm hr
  have hk := sm.ok id _ hob
  simp only [ObjOk] at hk
  obtain ⟨_, _, m, hm1, _, hm⟩ := hk
  match vals, hr.len, hr with
  | [x, y], _, hr =>
    simp only [RepL, Rep] at hr
    obtain ⟨rfl, rfl, _⟩ := hr
    refine .inr ⟨.int .i64 (Go.Lib.index s.data.toList t.data.toList), w, ?_, _, h, β, _, rfl, ⟨rfl, rfl⟩, sm, by simp only [RepH, Rep], Ext.refl⟩
    rw [run_callFunc_extern hf hname hb hn he, Go.Lib.run_indexString s t w g m hg hm h2 (by omega) hs]
    rfl
theorem ixs_ok : (Tryz.f190.name == "runtime.NumGoroutine") = false ∧ Tryz.f190.body.isNone = true ∧ Extern.findNext Tryz.f190 = none ∧ Extern.find Tryz.f190 = some Extern.BytealgIndex.index :=
  ⟨by kernel_rfl, by kernel_rfl, by kernel_rfl, by kernel_rfl⟩
theorem ixs_g : Tryz.prog.globals.findIdx? (·.name == "internal/bytealg.MaxLen") = some 0 := by kernel_rfl
/-- the contracts that the runs use -/
def ckExt (f : FuncId) (args : List PV) (h : Heap) : Option PV :=
  if f = 107 then (match args with | [.sc (.string s)] => if s.size ≤ 9223372036854775807 then some (.sc (.bool (nameB s))) else none | _ => none)
  else if f = 108 then (match args with | [.sc (.string s)] => if s.size ≤ 9223372036854775807 then some (.sc (.bool (varB s))) else none | _ => none)
  else if f = 64 then (match args with | [.agg cs] => (decR h 5000 cs).map fun x => .sc (.bool (svalid x 0 0).1) | _ => none)
  else if f = 200 then (match args with | [.sc (.string s), .sc (.int .u8 c)] => some (.sc (.int .i64 (firstIdx s c.toNat.toUInt8))) | _ => none)
  else if f = 190 then (match args with
    | [.sc (.string s), .sc (.string t)] => (match h.obj 0 with
      | some (.glb 0 lo _) => if 2 ≤ t.size ∧ (t.size : Int) ≤ lo ∧ s.size < 4294967281 then some (.sc (.int .i64 (Go.Lib.index s.data.toList t.data.toList))) else none
      | _ => none)
    | _ => none)
  else none
theorem ckExt_ok : ExtOk2 Tryz.prog ckExt := by
  intro f args r h hx
  unfold ckExt at hx
  split at hx
  · rename_i hf
    split at hx
    · split at hx
      · rename_i hs
        simp only [Option.some.injEq] at hx
        subst hx; subst hf
        exact fname_c hs
      · simp at hx
    · simp at hx
  split at hx
  · rename_i hf
    split at hx
    · split at hx
      · rename_i hs
        simp only [Option.some.injEq] at hx
        subst hx; subst hf
        exact fvariable_c hs
      · simp at hx
    · simp at hx
  split at hx
  · rename_i hf
    split at hx
    · simp only [Option.map_eq_some_iff] at hx
      obtain ⟨x, hd, rfl⟩ := hx
      subst hf
      exact PCall.ofSim fun ⟨β, w, sm⟩ => valid_of hd ((dec_ok sm 5000).1 _ x hd).1
    · simp at hx
  split at hx
  · rename_i hf
    split at hx
    · simp only [Option.some.injEq] at hx
      subst hx; subst hf
      exact pcall_indexByte Tryz.func200 ixb_ok.1 ixb_ok.2.1 ixb_ok.2.2.1 ixb_ok.2.2.2 _ _ _
    · simp at hx
  split at hx
  · rename_i hf
    split at hx
    · split at hx
      · rename_i hob
        split at hx
        · rename_i hc
          simp only [Option.some.injEq] at hx
          subst hx; subst hf
          exact pcall_indexString Tryz.func190 ixs_ok.1 ixs_ok.2.1 ixs_ok.2.2.1 ixs_ok.2.2.2 ixs_g _ _ _ hob hc.1 hc.2.1 hc.2.2
        · simp at hx
      · simp at hx
    · simp at hx
  · simp at hx
end Go.Proofs.YtdnpmfjfgamaeaaGreat
