/- Every operation together. -/
import Derived.Test.YtdnpmfjfgamaeaaGreatAmEff5
set_option linter.unusedVariables false
set_option linter.unusedSimpArgs false
set_option linter.unusedSectionVars false
namespace Go.AM
section
variable {P : Program} {β : Env} {h h' : Heap} {w : World} {s : Slots} {a : Act}

theorem kT_slice {t : Nat} (hk : kT P t = 5) : ∃ e, P.underlying t = some (.slice e) := by unfold kT at hk; split at hk <;> first | exact ⟨_, ‹_›⟩ | (simp at hk)
theorem kT_str {t : Nat} (hk : kT P t = 3) : P.underlying t = some .string := by unfold kT at hk; split at hk <;> first | assumption | (simp at hk)
theorem len_sound (sm : Sim β h w) {t n : Nat} {p : PV} {x : Value} (ty : TypeId) (hk : lenK (kT P t) p = true) (hl : lenP h p = some n) (hx : RepH β h w p x) : (Builtin.len_ #[t] ty #[x]).run P w = .ok (.int .i64 (n : Int)) w := by
  unfold lenP at hl
  split at hl
  · simp [lenK] at hk
    obtain ⟨e, hu⟩ := kT_slice hk
    simp at hl; subst hl
    simp only [RepH, Rep] at hx
    obtain ⟨aa, cap, rfl, _⟩ := hx
    simp [Builtin.len_, run_underlying hu, goInt]
  · simp [lenK] at hk
    obtain ⟨e, hu⟩ := kT_slice hk
    simp at hl; subst hl
    simp only [RepH, Rep] at hx
    obtain ⟨aa, rfl⟩ := hx
    simp [Builtin.len_, run_underlying hu, goInt]
  · simp [lenK] at hk
    obtain ⟨e, hu⟩ := kT_slice hk
    simp at hl; subst hl
    simp only [RepH, Rep] at hx
    subst hx
    simp [Builtin.len_, run_underlying hu, goInt]
  · simp [lenK] at hk
    obtain ⟨e, hu⟩ := kT_slice hk
    simp at hl; subst hl
    simp only [RepH, Rep] at hx
    obtain ⟨_, aa, cap, rfl, _⟩ := hx
    simp [Builtin.len_, run_underlying hu, goInt]
  · simp [lenK] at hk
    have hu := kT_str hk
    simp at hl; subst hl
    simp only [RepH, Rep] at hx
    subst hx
    simp [Builtin.len_, run_underlying hu, goInt]
  · simp [lenK] at hk
    obtain ⟨k, e, hu⟩ := kT_map hk
    simp at hl; subst hl
    simp only [RepH, Rep] at hx
    subst hx
    simp [Builtin.len_, run_underlying hu, goInt]
  · simp [lenK] at hk
    obtain ⟨k, e, hu⟩ := kT_map hk
    rename_i id
    split at hl
    · rename_i es hob
      simp at hl; subst hl
      have hok := sm.ok id _ hob
      simp only [ObjOk] at hok
      obtain ⟨b, fs, cl, h1, h2, h3⟩ := hok
      simp only [RepH, Rep] at hx
      obtain ⟨_, b', hb', rfl⟩ := hx
      rw [h1] at hb'; simp at hb'; subst hb'
      have hlen : ∀ (es : List (Value × PV)) (fs : List MapEntry), RepM β h.next (Fz β h w) w es fs → es.length = fs.length := by
        intro es
        induction es with
        | nil => intro fs; cases fs <;> simp [RepM]
        | cons e es ih => intro fs; cases fs with
          | nil => simp [RepM]
          | cons f fs => simp only [RepM, List.length_cons]; intro hh; rw [ih fs hh.2]
      have hh := hlen es fs.toList h3
      simp [Builtin.len_, run_underlying hu, run_getMap h2, goInt, hh]
    · simp at hl
  · simp at hl

/-- what it is for an operation to run as the abstract machine says -/
def Ran (P : Program) (a : Act) (o : Oper) (β : Env) (h : Heap) (w : World) (r : PV) (h' : Heap) : Prop :=
  ∃ n v w' β', (execOp a.eval o).run P w = .ok n w' ∧ (n = .value v ∨ (n = .skip ∧ v = undef)) ∧ Sim β' h' w' ∧ Ext β h w β' h' w' ∧ RepH β' h' w' r v

theorem Ran.pure (sm : Sim β h w) {o : Oper} {r : PV} {v : Value} (he : (execOp a.eval o).run P w = .ok (.value v) w) (hr : RepH β h w r v) : Ran P a o β h w r h :=
  ⟨_, v, w, β, he, .inl rfl, sm, Ext.refl, hr⟩

theorem eff_sound (sm : Sim β h w) (hs : ∀ t, RepH β h w (s t) (a.tmps.getD t undef)) {ow : Bool} {r : PV} (o : Oper) (he : eff P ow o.op (pev s) h = some (r, h')) : Ran P a o β h w r h' := by
  obtain ⟨dst, op, type, pos, after, guard⟩ := o
  have rep := pev_rep hs
  simp only at he
  cases op
  case move x =>
    simp only [eff, Option.some.injEq, Prod.mk.injEq] at he
    obtain ⟨rfl, rfl⟩ := he
    exact Ran.pure sm rfl (rep x)
  case assign x =>
    simp only [eff, Option.some.injEq, Prod.mk.injEq] at he
    obtain ⟨rfl, rfl⟩ := he
    exact Ran.pure sm rfl (rep x)
  case pick c x y =>
    simp only [eff] at he
    split at he
    · rename_i t hc
      simp only [Option.some.injEq, Prod.mk.injEq] at he
      obtain ⟨rfl, rfl⟩ := he
      have h1 := rep c
      rw [hc] at h1
      simp only [RepH, Rep] at h1
      refine Ran.pure (v := if t then a.eval x else a.eval y) sm (by cases t <;> simp [execOp, h1, asBool]) ?_
      cases t
      · exact rep y
      · exact rep x
    · simp at he
  case alloc t =>
    simp only [eff] at he
    cases hz : zeroT P t with
    | none => simp [hz] at he
    | some z =>
      simp only [hz, Option.bind_some] at he
      split at he
      · rename_i hpos
        simp only [Option.some.injEq, Prod.mk.injEq] at he
        obtain ⟨rfl, rfl⟩ := he
        obtain ⟨i, v, h1, h2, h3, h4⟩ := zeroT_info hz
        obtain ⟨β', g1, g2, g3⟩ := newVar_sound sm t v (z.map .sc) (by rw [h3]; exact RepL.sc z) (by rw [h3]; exact h4)
        rw [List.length_map] at g1 g2 g3
        exact ⟨_, _, _, β', by simp [execOp, Instr.alloc, zeroValue, typeInfo, h1, h2, run_newVar], .inl rfl, g1, g2, g3⟩
      · simp at he
  case box t x =>
    simp only [eff] at he
    split at he
    · simp at he
    · rename_i hall
      simp only [Bool.not_eq_false] at hall
      obtain ⟨hl, h1⟩ := Rep.cells hall (rep x)
      split at he
      · split at he
        · simp only [Option.some.injEq, Prod.mk.injEq] at he
          obtain ⟨rfl, rfl⟩ := he
          obtain ⟨β', g1, g2, g3⟩ := newVar_sound sm t (a.eval x) _ hl h1
          exact ⟨_, _, _, β', by simp [execOp, Instr.box, run_newVar], .inl rfl, g1, g2, g3⟩
        · simp at he
      · simp only [Option.some.injEq, Prod.mk.injEq] at he
        obtain ⟨rfl, rfl⟩ := he
        obtain ⟨g1, g2, g3⟩ := newConst_sound sm t (a.eval x) _ hl h1
        exact ⟨_, _, _, β, by simp [execOp, Instr.box, run_newVar], .inl rfl, g1, g2, g3⟩
  case build t parts =>
    simp only [eff] at he
    split at he
    · cases hz : zeroT P t with
      | none => simp [hz] at he
      | some z =>
        cases hp : fieldsT P t with
        | none => simp [hz, hp] at he
        | some places =>
          simp only [hz, hp, Option.bind_some] at he
          cases hl : lay (fun i => places[i]?) (z.map .sc) (parts.toList.map fun p => (p.1, pev s p.2)) with
          | none => simp [hl] at he
          | some cs =>
            simp only [hl, Option.map_some, Option.some.injEq, Prod.mk.injEq] at he
            obtain ⟨rfl, rfl⟩ := he
            obtain ⟨v, g1, g2⟩ := build_struct_sound hs hz hp hl
            exact Ran.pure sm (by simp only [execOp, Sem.run_bind, g1, Result.andThen_ok]; rfl) g2
    · split at he
      · cases hz : zeroT P t with
        | none => simp [hz] at he
        | some z =>
          cases hp : arT P t with
          | none => simp [hz, hp] at he
          | some na =>
            simp only [hz, hp, Option.bind_some] at he
            cases hl : lay (fun i => some (i * na.2, na.2)) (z.map .sc) (parts.toList.map fun p => (p.1, pev s p.2)) with
            | none => simp [hl] at he
            | some cs =>
              simp only [hl, Option.map_some, Option.some.injEq, Prod.mk.injEq] at he
              obtain ⟨rfl, rfl⟩ := he
              obtain ⟨v, g1, g2⟩ := build_array_sound hs hz hp hl
              exact Ran.pure sm (by simp only [execOp, Sem.run_bind, g1, Result.andThen_ok]; rfl) g2
      · simp at he
  case buildSlice t len parts =>
    simp only [eff] at he
    cases hz : elT P t with
    | none => simp [hz] at he
    | some zb =>
      cases hzz : elZ P t with
      | none => simp [hz, hzz] at he
      | some z =>
        simp only [hz, hzz, Option.bind_some] at he
        split at he
        case isFalse => simp at he
        rename_i hc
        cases hl : rowsOf zb.1 (List.replicate len (z.map .sc)) (parts.toList.map fun p => (p.1, pev s p.2)) with
        | none => simp [hl] at he
        | some rows =>
          simp only [hl, Option.bind_some] at he
          obtain ⟨v, w', β', g1, g2, g3, g4⟩ := buildSlice_sound sm hs hz hzz hc hl he
          exact ⟨_, v, w', β', by simp only [execOp, Sem.run_bind, g1, Result.andThen_ok]; rfl, .inl rfl, g2, g3, g4⟩
  case load t x =>
    simp only [eff] at he
    cases hz : szT P t with
    | none => simp [hz] at he
    | some n =>
      cases hr : rd h (pev s x) with
      | none => simp [hz, hr] at he
      | some cs =>
        simp only [hz, hr, Option.bind_some] at he
        cases hv : mkV (aggB P t) n cs with
        | none => simp [hv] at he
        | some v =>
          simp only [hv, Option.map_some, Option.some.injEq, Prod.mk.injEq] at he
          obtain ⟨rfl, rfl⟩ := he
          obtain ⟨b, o, g1, g2⟩ := rd_sound sm hr (rep x)
          obtain ⟨xv, g3, g4⟩ := loadVar_sound (P := P) hz hv g2
          exact Ran.pure sm (by simp [execOp, Instr.loadAt, g1, Instr.sureAddr, g3]) g4
  case store t x y =>
    simp only [eff] at he
    cases hz : szT P t with
    | none => simp [hz] at he
    | some n =>
      simp only [hz, Option.bind_some] at he
      split at he
      case isFalse => simp at he
      rename_i hc
      cases hw : wr h (pev s y).cells (pev s x) with
      | none => simp [hw] at he
      | some h2 =>
        simp only [hw, Option.map_some, Option.some.injEq, Prod.mk.injEq] at he
        obtain ⟨rfl, rfl⟩ := he
        obtain ⟨w', g1, g2, g3⟩ := store_sound sm hz hc.1 hc.2 hw (rep x) (rep y)
        exact ⟨.skip, undef, w', β, by simp [execOp, g1], .inr ⟨rfl, rfl⟩, g2, g3, by simp only [RepH, Rep]⟩
  case nilCheck x =>
    simp only [eff] at he
    have h1 := rep x
    split at he
    · rename_i id i f hx
      simp only [Option.some.injEq, Prod.mk.injEq] at he
      obtain ⟨rfl, rfl⟩ := he
      rw [hx] at h1
      have h2 := h1
      simp only [RepH, Rep] at h2
      obtain ⟨_, b, _, hv⟩ := h2
      exact Ran.pure (v := a.eval x) sm (by simp [execOp, hv]) h1
    · rename_i cs hx
      simp only [Option.some.injEq, Prod.mk.injEq] at he
      obtain ⟨rfl, rfl⟩ := he
      rw [hx] at h1
      have h2 := h1
      simp only [RepH, Rep] at h2
      obtain ⟨b, o, _, hv, _⟩ := h2
      exact Ran.pure (v := a.eval x) sm (by simp [execOp, hv]) h1
    · simp at he
  case binOp op t x y t2 =>
    simp only [eff] at he
    cases hv : (if kT P t = 8 then sbin op (strsT P t) (pev s x) (pev s y) else pbin op (kT P t) (isConstB x || isConstB y) (pev s x) (pev s y)) with
    | none => simp [hv] at he
    | some v =>
      simp only [hv, Option.map_some, Option.some.injEq, Prod.mk.injEq] at he
      obtain ⟨rfl, rfl⟩ := he
      obtain ⟨u, g1, g2⟩ : ∃ u, (do eqGuard op t x y (a.eval x) (a.eval y); binOp op t (a.eval x) (a.eval y) : Sem Value).run P w = .ok u w ∧ RepH β h w v u := by
        split at hv
        · exact sbin_sound (P := P) (w := w) x y hv (rep x) (rep y)
        · exact pbin_sound (P := P) (w := w) x y hv (rep x) (rep y)
      refine Ran.pure (v := u) sm ?_ g2
      simp only [Sem.run_bind] at g1
      simp only [execOp, Sem.run_bind, g1, Result.andThen_ok]
      rfl
  case unOp op t x =>
    simp only [eff] at he
    cases hv : pun op (pev s x) with
    | none => simp [hv] at he
    | some v =>
      simp only [hv, Option.map_some, Option.some.injEq, Prod.mk.injEq] at he
      obtain ⟨rfl, rfl⟩ := he
      have h1 := rep x
      unfold pun at hv
      split at hv
      · rename_i b hx
        simp only [Option.some.injEq] at hv; subst hv
        rw [hx] at h1; simp only [RepH, Rep] at h1
        exact Ran.pure (v := .bool (!b)) sm (by simp [execOp, h1, Op.unary]) (by simp only [RepH, Rep])
      · rename_i k n hx
        simp only [Option.some.injEq] at hv; subst hv
        rw [hx] at h1; simp only [RepH, Rep] at h1
        exact Ran.pure (v := .int k (k.wrap (0 - n))) sm (by simp only [execOp, h1, Op.unary, Op.intArith]; rfl) (by simp only [RepH, Rep])
      · rename_i k n hx
        simp only [Option.some.injEq] at hv; subst hv
        rw [hx] at h1; simp only [RepH, Rep] at h1
        exact Ran.pure (v := .int k _) sm (by simp only [execOp, h1, Op.unary, Op.intBits]; rfl) (by simp only [RepH, Rep])
      · simp at hv
  case convert src dst' x =>
    simp only [eff] at he
    have h1 := rep x
    split at he
    · rename_i s hx
      rw [hx] at h1
      simp only [RepH, Rep] at h1
      split at he
      · rename_i hk
        split at he
        · rename_i hk2
          simp only [Option.some.injEq, Prod.mk.injEq] at he
          obtain ⟨rfl, rfl⟩ := he
          exact Ran.pure (v := .string s) sm (by simp [execOp, convert, run_underlying (kT_str hk), run_underlying (kT_str hk2), h1]) (by simp only [RepH, Rep])
        · simp at he
      · split at he
        · rename_i hc
          obtain ⟨v, w', β', g1, g2, g3, g4⟩ := strBytes_sound (P := P) sm (kT_str hc.1) hc.2.1 hc.2.2 he
          exact ⟨_, v, w', β', by simp only [execOp, h1, Sem.run_bind, g1, Result.andThen_ok]; rfl, .inl rfl, g2, g3, g4⟩
        · simp at he
    · split at he
      · rename_i hk
        split at he
        · rename_i hc
          cases hv : view h (pev s x) with
          | none => simp [hv] at he
          | some rows =>
            cases hb : byteRow rows with
            | none => simp [hv, hb] at he
            | some l =>
              simp only [hv, hb, Option.bind_some, Option.map_some, Option.some.injEq, Prod.mk.injEq] at he
              obtain ⟨rfl, rfl⟩ := he
              have g1 := bytesStr_sound (P := P) sm hc.1 (kT_str hk) hc.2 hv hb h1
              exact Ran.pure sm (by simp only [execOp, Sem.run_bind, g1, Result.andThen_ok]; rfl) (by simp only [RepH, Rep])
        · simp at he
      · cases hv : pconv (intT P src) (intT P dst') (pev s x) with
        | none => simp [hv] at he
        | some v =>
          simp only [hv, Option.map_some, Option.some.injEq, Prod.mk.injEq] at he
          obtain ⟨rfl, rfl⟩ := he
          unfold pconv at hv
          split at hv
          · rename_i k1 k2 k3 n e1 e2 hx
            simp at hv; subst hv
            rw [hx] at h1
            simp only [RepH, Rep] at h1
            have hu1 : P.underlying src = some (.int k1) := by unfold intT at e1; split at e1 <;> simp_all
            have hu2 : P.underlying dst' = some (.int k2) := by unfold intT at e2; split at e2 <;> simp_all
            exact Ran.pure (v := .int k2 (k2.wrap n)) sm (by simp [execOp, convert, run_underlying hu1, run_underlying hu2, h1, Conv.intToInt]) (by simp only [RepH, Rep])
          · rename_i k1 k2 k3 lo hi m r e1 e2 hx
            split at hv
            case isFalse => simp at hv
            rename_i hk
            obtain ⟨rfl, g1, g2⟩ := hk
            simp at hv; subst hv
            rw [hx] at h1
            simp only [RepH, Rep] at h1
            obtain ⟨i, i1, i2, i3, hi⟩ := h1
            have hu1 : P.underlying src = some (.int k1) := by unfold intT at e1; split at e1 <;> simp_all
            have hu2 : P.underlying dst' = some (.int .i64) := by unfold intT at e2; split at e2 <;> simp_all
            have hw : IntKind.i64.wrap i = i := IntWalk.i64_in _ ⟨by omega, by omega⟩
            exact Ran.pure (v := .int .i64 i) sm (by simp [execOp, convert, run_underlying hu1, run_underlying hu2, hi, Conv.intToInt, hw]) (by simp only [RepH, Rep]; exact ⟨i, i1, i2, i3, rfl⟩)
          · simp at hv
  case makeInterface t x =>
    simp only [eff] at he
    split at he
    · simp at he
    · rename_i hk
      split at he
      · rename_i v hx
        simp only [Option.some.injEq, Prod.mk.injEq] at he
        obtain ⟨rfl, rfl⟩ := he
        have h1 := rep x
        rw [hx] at h1
        simp only [RepH, Rep] at h1
        obtain ⟨d, hd⟩ := kT_some (P := P) (t := t) (fun e => hk (.inr e))
        have hni : ∀ ms, d ≠ .interface ms := fun ms e => hk (.inl (by simp [kT, hd, e]))
        refine Ran.pure (v := .iface t v) sm ?_ (by simp only [RepH, Rep])
        simp only [execOp, Instr.makeInterface, Sem.run_bind, run_underlying hd, Result.andThen_ok, h1]
        cases d <;> first | rfl | exact absurd rfl (hni _)
      · simp at he
  case makeMap t rv =>
    cases rv with
    | some x => simp [eff] at he
    | none =>
      simp only [eff, Option.some.injEq, Prod.mk.injEq] at he
      obtain ⟨rfl, rfl⟩ := he
      obtain ⟨v, w', β', g1, g2, g3, g4⟩ := makeMap_sound (P := P) sm t
      exact ⟨_, v, w', β', by simp only [execOp, Option.map_none, Sem.run_bind, g1, Result.andThen_ok]; rfl, .inl rfl, g2, g3, g4⟩
  case makeSlice t l c =>
    simp only [eff] at he
    cases hz : elT P t with
    | none => simp [hz] at he
    | some zb =>
      cases hzz : elZ P t with
      | none => simp [hz, hzz] at he
      | some z =>
        cases hl : intP (pev s l) with
        | none => simp [hz, hzz, hl] at he
        | some n =>
          cases hcc : intP (pev s c) with
          | none => simp [hz, hzz, hl, hcc] at he
          | some m =>
            simp only [hz, hzz, hl, hcc, Option.bind_some] at he
            split at he
            case isFalse => simp at he
            rename_i hc
            simp only [Option.some.injEq, Prod.mk.injEq] at he
            obtain ⟨rfl, rfl⟩ := he
            obtain ⟨k1, e1⟩ := intP_rep hl (rep l)
            obtain ⟨k2, e2⟩ := intP_rep hcc (rep c)
            obtain ⟨v, w', β', g1, g2, g3, g4⟩ := makeSlice_sound (P := P) sm (k1 := k1) (k2 := k2) hz hzz hc
            exact ⟨_, v, w', β', by simp only [execOp, e1, e2, Sem.run_bind, g1, Result.andThen_ok]; rfl, .inl rfl, g2, g3, g4⟩
  case slice t x lo hi mx =>
    cases mx with
    | none =>
      simp only [eff] at he
      cases ha : oInt (pev s) lo with
      | none => simp [ha] at he
      | some al =>
        cases hb : oInt (pev s) hi with
        | none => simp [ha, hb] at he
        | some bl =>
          simp only [ha, hb, Option.bind_some] at he
          have q1 := oInt_rep hs ha
          have q2 := oInt_rep hs hb
          split at he
          · cases hz : elT P t with
            | none => simp [hz] at he
            | some zb =>
              simp only [hz, Option.bind_some] at he
              cases hq : subL zb.1 (pev s x) h al bl with
              | none => simp [hq] at he
              | some q =>
                simp only [hq, Option.map_some, Option.some.injEq, Prod.mk.injEq] at he
                obtain ⟨rfl, rfl⟩ := he
                obtain ⟨v, g1, g2⟩ := slice_sound (P := P) sm hz q1 q2 hq (rep x)
                exact Ran.pure sm (by simp only [execOp, Option.map_none, Sem.run_bind, g1, Result.andThen_ok]; rfl) g2
          · split at he
            · rename_i hk
              cases hq : subS (pev s x) al bl with
              | none => simp [hq] at he
              | some q =>
                simp only [hq, Option.map_some, Option.some.injEq, Prod.mk.injEq] at he
                obtain ⟨rfl, rfl⟩ := he
                obtain ⟨v, g1, g2⟩ := sliceS_sound (P := P) hk q1 q2 hq (rep x)
                exact Ran.pure sm (by simp only [execOp, Option.map_none, Sem.run_bind, g1, Result.andThen_ok]; rfl) g2
            · simp at he
    | some mx =>
      cases lo with
      | some lo => simp [eff] at he
      | none =>
        cases hi with
        | none => simp [eff] at he
        | some hi =>
          simp only [eff] at he
          cases hz : elT P t with
          | none => simp [hz] at he
          | some zb =>
            simp only [hz, Option.bind_some] at he
            split at he
            case isFalse => simp at he
            rename_i hc
            simp only [Option.some.injEq, Prod.mk.injEq] at he
            obtain ⟨rfl, rfl⟩ := he
            have zero : ∀ y, isZeroInt (pev s) (some y) = true → ∃ k, a.eval y = .int k 0 := by
              intro y hy
              simp only [isZeroInt] at hy
              split at hy
              · rename_i k hk
                have h1 := rep y
                rw [hk] at h1
                simp only [RepH, Rep] at h1
                exact ⟨k, h1⟩
              · simp at hy
            obtain ⟨k1, e1⟩ := zero hi hc.1
            obtain ⟨k2, e2⟩ := zero mx hc.2.1
            obtain ⟨v, g1, g2⟩ := sliceZ_sound (P := P) (w := w) hz e1 e2 hc.2.2 (rep x)
            exact Ran.pure sm (by simp only [execOp, Option.map_none, Option.map_some, Sem.run_bind, g1, Result.andThen_ok]; rfl) g2
  case fieldAddr t x f =>
    simp only [eff] at he
    cases ho : fldT P t f with
    | none => simp [ho] at he
    | some o =>
      simp only [ho, Option.bind_some] at he
      cases hf : fldP o.1 o.2.1 (pev s x) with
      | none => simp [hf] at he
      | some q =>
        simp only [hf, Option.map_some, Option.some.injEq, Prod.mk.injEq] at he
        obtain ⟨rfl, rfl⟩ := he
        obtain ⟨v, g1, g2⟩ := fld_sound (P := P) ho hf (rep x)
        exact Ran.pure sm (by simp only [execOp, Sem.run_bind, g1, Result.andThen_ok]; rfl) g2
  case field t x f =>
    simp only [eff] at he
    split at he
    · rename_i cs hx
      cases ho : fldT P t f with
      | none => simp [ho] at he
      | some o =>
        simp only [ho, Option.bind_some] at he
        split at he
        case isFalse => simp at he
        cases hf : mkV o.2.2 o.2.1 (cs.drop o.1) with
        | none => simp [hf] at he
        | some q =>
          simp only [hf, Option.map_some, Option.some.injEq, Prod.mk.injEq] at he
          obtain ⟨rfl, rfl⟩ := he
          have h1 := rep x
          rw [hx] at h1
          obtain ⟨v, g1, g2⟩ := field_sound (P := P) ho hf h1
          exact Ran.pure sm (by simp only [execOp, Sem.run_bind, g1, Result.andThen_ok]; rfl) g2
    · simp at he
  case indexAddr t x i =>
    simp only [eff] at he
    cases hn : intP (pev s i) with
    | none => simp [hn] at he
    | some n =>
      simp only [hn, Option.bind_some] at he
      obtain ⟨k, hk⟩ := intP_rep hn (rep i)
      split at he
      · cases hz : elT P t with
        | none => simp [hz] at he
        | some zb =>
          simp only [hz, Option.bind_some] at he
          cases hi : idx h zb.1 (pev s x) n with
          | none => simp [hi] at he
          | some q =>
            simp only [hi, Option.map_some, Option.some.injEq, Prod.mk.injEq] at he
            obtain ⟨rfl, rfl⟩ := he
            obtain ⟨v, g1, g2⟩ := idx_sound (P := P) (k := k) sm hz hi (rep x)
            exact Ran.pure sm (by simp only [execOp, hk, Sem.run_bind, g1, Result.andThen_ok]; rfl) g2
      · cases hz : arT P t with
        | none => simp [hz] at he
        | some na =>
          simp only [hz, Option.bind_some] at he
          cases hi : idxA na.1 na.2 (pev s x) n with
          | none => simp [hi] at he
          | some q =>
            simp only [hi, Option.map_some, Option.some.injEq, Prod.mk.injEq] at he
            obtain ⟨rfl, rfl⟩ := he
            obtain ⟨v, g1, g2⟩ := idxA_sound (P := P) (w := w) (k := k) hz hi (rep x)
            exact Ran.pure sm (by simp only [execOp, hk, Sem.run_bind, g1, Result.andThen_ok]; rfl) g2
  case index t x i =>
    simp only [eff] at he
    cases hn : intP (pev s i) with
    | none => simp [hn] at he
    | some n =>
      simp only [hn, Option.bind_some] at he
      obtain ⟨k, hk⟩ := intP_rep hn (rep i)
      split at he
      · rename_i st hx
        split at he
        case isFalse => simp at he
        rename_i hc
        cases hb : st[n.toNat]? with
        | none => simp [hb] at he
        | some b =>
          simp only [hb, Option.map_some, Option.some.injEq, Prod.mk.injEq] at he
          obtain ⟨rfl, rfl⟩ := he
          have h1 := rep x
          rw [hx] at h1
          simp only [RepH, Rep] at h1
          have hu : P.underlying t = some .string := by
            have hk3 := hc.1
            unfold kT at hk3
            split at hk3 <;> first | assumption | (simp at hk3)
          exact Ran.pure (v := .int .u8 b.toNat) sm (by simp [execOp, hk, h1, Instr.index, asIntOf, run_underlying hu, hc.2, hb]) (by simp only [RepH, Rep])
      · rename_i cs hx
        cases ho : arE P t with
        | none => simp [ho] at he
        | some na =>
          simp only [ho, Option.bind_some] at he
          split at he
          case isFalse => simp at he
          rename_i h0
          cases hf : mkV na.2.2 na.2.1 (cs.drop (n.toNat * na.2.1)) with
          | none => simp [hf] at he
          | some q =>
            simp only [hf, Option.map_some, Option.some.injEq, Prod.mk.injEq] at he
            obtain ⟨rfl, rfl⟩ := he
            have h1 := rep x
            rw [hx] at h1
            obtain ⟨v, g1, g2⟩ := indexV_sound (P := P) (k := k) ho h0 hf h1
            exact Ran.pure sm (by simp only [execOp, hk, Sem.run_bind, g1, Result.andThen_ok]; rfl) g2
      · simp at he
  case lookup t x k ok =>
    simp only [eff] at he
    cases hm : mapT P t with
    | none => simp [hm] at he
    | some m =>
      simp only [hm, Option.bind_some] at he
      split at he
      · rename_i kv es hkv hes
        split at he
        case isFalse => simp at he
        rename_i hk
        cases hf : mfind kv es with
        | none => simp [hf] at he
        | some rr =>
          simp only [hf, Option.map_some, Option.some.injEq, Prod.mk.injEq] at he
          obtain ⟨rfl, rfl⟩ := he
          have h1 := rep k
          rw [hkv] at h1
          simp only [RepH, Rep] at h1
          obtain ⟨v, g1, g2⟩ := lookup_sound (P := P) (ok := ok) sm hm hes hk hf (rep x)
          exact Ran.pure (v := v) sm (by simp only [execOp, h1, Sem.run_bind, g1, Result.andThen_ok]; rfl) g2
      · simp at he
  case mapUpdate t x k y =>
    simp only [eff] at he
    cases hm : mapT P t with
    | none => simp [hm] at he
    | some m =>
      simp only [hm, Option.bind_some] at he
      split at he
      · rename_i kv id hkv hid
        split at he
        · rename_i es hob
          split at he
          case isFalse => simp at he
          rename_i hk
          cases hp : mput kv (pev s y) es with
          | none => simp [hp] at he
          | some es' =>
            simp only [hp, Option.map_some, Option.some.injEq, Prod.mk.injEq] at he
            obtain ⟨rfl, rfl⟩ := he
            have h1 := rep k
            rw [hkv] at h1
            simp only [RepH, Rep] at h1
            have h2 := rep x
            rw [hid] at h2
            obtain ⟨w', g1, g2, g3⟩ := mapUpdate_sound (P := P) sm hm hob hk hp h2 (rep y)
            exact ⟨.skip, undef, w', β, by simp [execOp, h1, g1], .inr ⟨rfl, rfl⟩, g2, g3, by simp only [RepH, Rep]⟩
        · simp at he
      · simp at he
  case typeAssert x t1 t ok =>
    cases ok with
    | false => simp [eff] at he
    | true =>
      simp only [eff] at he
      split at he
      · simp at he
      · rename_i hk
        obtain ⟨d, hd⟩ := kT_some (P := P) (t := t) (fun e => hk (.inr e))
        have hni : ∀ ms, d ≠ .interface ms := fun ms e => hk (.inl (by simp [kT, hd, e]))
        have h1 := rep x
        split at he
        · rename_i u v hx
          rw [hx] at h1
          simp only [RepH, Rep] at h1
          split at he
          · rename_i hut
            simp only [Option.some.injEq, Prod.mk.injEq] at he
            obtain ⟨rfl, rfl⟩ := he
            refine Ran.pure (v := .tuple #[v, .bool true]) sm ?_ (by simp only [RepH, Rep]; exact ⟨[v, .bool true], rfl, by simp [RepL, Rep]⟩)
            simp only [execOp, h1, Instr.typeAssert, Sem.run_bind, run_underlying hd, Result.andThen_ok, hut]
            cases d <;> first | exact absurd rfl (hni _) | simp
          · rename_i hut
            unfold zvT at he
            cases hi : P.info? t with
            | none => simp [hi] at he
            | some i =>
              cases hz : i.zero with
              | none => simp [hi, hz] at he
              | some z =>
                simp [hi, hz] at he
                obtain ⟨rfl, rfl⟩ := he
                refine Ran.pure (v := .tuple #[z, .bool false]) sm ?_ (by simp only [RepH, Rep]; exact ⟨[z, .bool false], rfl, by simp only [RepL, Rep]; exact ⟨constPV_rep _, trivial, trivial⟩⟩)
                simp only [execOp, h1, Instr.typeAssert, Sem.run_bind, run_underlying hd, Result.andThen_ok]
                cases d <;> first | exact absurd rfl (hni _) | simp [hut, zeroValue, typeInfo, hi, hz]
        · rename_i hx
          rw [hx] at h1
          simp only [RepH, Rep] at h1
          unfold zvT at he
          cases hi : P.info? t with
          | none => simp [hi] at he
          | some i =>
            cases hz : i.zero with
            | none => simp [hi, hz] at he
            | some z =>
              simp [hi, hz] at he
              obtain ⟨rfl, rfl⟩ := he
              refine Ran.pure (v := .tuple #[z, .bool false]) sm ?_ (by simp only [RepH, Rep]; exact ⟨[z, .bool false], rfl, by simp only [RepL, Rep]; exact ⟨constPV_rep _, trivial, trivial⟩⟩)
              simp only [execOp, h1, Instr.typeAssert, Sem.run_bind, run_underlying hd, Result.andThen_ok]
              cases d <;> first | exact absurd rfl (hni _) | simp [zeroValue, typeInfo, hi, hz]
        · simp at he
  case extract x i =>
    simp only [eff] at he
    split at he
    · rename_i vs hx
      cases hv : vs[i]? with
      | none => simp [hv] at he
      | some v =>
        simp only [hv, Option.map_some, Option.some.injEq, Prod.mk.injEq] at he
        obtain ⟨rfl, rfl⟩ := he
        have h1 := rep x
        rw [hx] at h1
        simp only [RepH, Rep] at h1
        obtain ⟨xs, e1, e2⟩ := h1
        obtain ⟨u, g1, g2⟩ := e2.get hv
        exact Ran.pure (v := u) sm (by simp [execOp, e1, Instr.extract, g1]) g2
    · simp at he
  case call c =>
    obtain ⟨callee, args, ts⟩ := c
    cases callee with
    | value f => simp [eff] at he
    | invoke x m => simp [eff] at he
    | builtin b =>
      cases b
      case len =>
        obtain ⟨args⟩ := args
        obtain ⟨ts⟩ := ts
        simp only [eff] at he
        split at he
        case h_2 => simp at he
        rename_i x t
        split at he
        case isFalse => simp at he
        rename_i hk
        cases hl : lenP h (pev s x) with
        | none => simp [hl] at he
        | some n =>
          simp only [hl, Option.map_some, Option.some.injEq, Prod.mk.injEq] at he
          obtain ⟨rfl, rfl⟩ := he
          have h1 := rep x
          refine Ran.pure (v := .int .i64 (n : Int)) sm ?_ (by simp only [RepH, Rep])
          have hlen := len_sound (P := P) sm type hk hl h1
          simp only [execOp, resolve, invoke, builtin, Sem.run_bind, Sem.run_pure, Result.andThen_ok, List.map_toArray, List.map_cons, List.map_nil]
          rw [hlen]; rfl
      case append =>
        obtain ⟨args⟩ := args
        obtain ⟨ts⟩ := ts
        simp only [eff] at he
        split at he
        case h_2 => simp at he
        rename_i x y t u
        split at he
        case isFalse => simp at he
        rename_i htu
        subst htu
        cases hz : elT P t with
        | none => simp [hz] at he
        | some zb =>
          simp only [hz, Option.bind_some] at he
          obtain ⟨v, w', β', g1, g2, g3, g4⟩ := append_sound (P := P) sm type hz he (rep x) (rep y)
          exact ⟨.value v, v, w', β', by simp only [execOp, resolve, invoke, builtin, Sem.run_bind, Sem.run_pure, Result.andThen_ok, List.map_toArray, List.map_cons, List.map_nil, g1], .inl rfl, g2, g3, g4⟩
      case min =>
        obtain ⟨args⟩ := args
        simp only [eff] at he
        split at he
        case h_2 => simp at he
        rename_i x y
        cases hp : pmin (pev s x) (pev s y) with
        | none => simp [hp] at he
        | some v =>
          simp only [hp, Option.map_some, Option.some.injEq, Prod.mk.injEq] at he
          obtain ⟨rfl, rfl⟩ := he
          have h1 := rep x
          have h2 := rep y
          unfold pmin at hp
          split at hp
          · rename_i k c k' d hx hy
            rw [hx] at h1; rw [hy] at h2
            simp only [RepH, Rep] at h1 h2
            split at hp
            case isFalse => simp at hp
            rename_i hk
            subst hk
            simp at hp; subst hp
            refine Ran.pure (v := .int k (if d < c then d else c)) sm ?_ (by simp only [RepH, Rep])
            simp only [execOp, resolve, invoke, builtin, Sem.run_bind, Sem.run_pure, Result.andThen_ok, List.map_toArray, List.map_cons, List.map_nil, h1, h2]
            simp [Builtin.min_, Builtin.min2]
          · rename_i k lo hi m r k' c hx hy
            rw [hx] at h1; rw [hy] at h2
            simp only [RepH, Rep] at h1 h2
            obtain ⟨i, i1, i2, i3, i4⟩ := h1
            split at hp
            case isFalse => simp at hp
            rename_i hk
            subst hk
            split at hp
            · simp at hp; subst hp
              refine Ran.pure (v := .int k i) sm ?_ (by simp only [RepH, Rep]; exact ⟨i, i1, i2, i3, rfl⟩)
              have hb : (if c < i then c else i) = i := by split <;> omega
              simp only [execOp, resolve, invoke, builtin, Sem.run_bind, Sem.run_pure, Result.andThen_ok, List.map_toArray, List.map_cons, List.map_nil, i4, h2]
              simp [Builtin.min_, Builtin.min2]
              try omega
            · split at hp
              · simp at hp; subst hp
                refine Ran.pure (v := .int k c) sm ?_ (by simp only [RepH, Rep])
                have hb : (if c < i then c else i) = c := by split <;> omega
                simp only [execOp, resolve, invoke, builtin, Sem.run_bind, Sem.run_pure, Result.andThen_ok, List.map_toArray, List.map_cons, List.map_nil, i4, h2]
                simp [Builtin.min_, Builtin.min2]
                try omega
              · simp at hp
          · simp at hp
      case max =>
        obtain ⟨args⟩ := args
        simp only [eff] at he
        split at he
        case h_2 => simp at he
        rename_i x y
        cases hp : pmax (pev s x) (pev s y) with
        | none => simp [hp] at he
        | some v =>
          simp only [hp, Option.map_some, Option.some.injEq, Prod.mk.injEq] at he
          obtain ⟨rfl, rfl⟩ := he
          have h1 := rep x
          have h2 := rep y
          unfold pmax at hp
          split at hp
          · rename_i k c k' d hx hy
            rw [hx] at h1; rw [hy] at h2
            simp only [RepH, Rep] at h1 h2
            split at hp
            case isFalse => simp at hp
            rename_i hk
            subst hk
            simp at hp; subst hp
            refine Ran.pure (v := .int k (if d > c then d else c)) sm ?_ (by simp only [RepH, Rep])
            simp only [execOp, resolve, invoke, builtin, Sem.run_bind, Sem.run_pure, Result.andThen_ok, List.map_toArray, List.map_cons, List.map_nil, h1, h2]
            simp [Builtin.max_, Builtin.max2]
          · rename_i k' c k lo hi m r hx hy
            rw [hx] at h1; rw [hy] at h2
            simp only [RepH, Rep] at h1 h2
            obtain ⟨i, i1, i2, i3, i4⟩ := h2
            split at hp
            case isFalse => simp at hp
            rename_i hk
            subst hk
            split at hp
            · simp at hp; subst hp
              refine Ran.pure (v := .int k i) sm ?_ (by simp only [RepH, Rep]; exact ⟨i, i1, i2, i3, rfl⟩)
              have hb : (if i > c then i else c) = i := by split <;> omega
              simp only [execOp, resolve, invoke, builtin, Sem.run_bind, Sem.run_pure, Result.andThen_ok, List.map_toArray, List.map_cons, List.map_nil, i4, h1]
              simp [Builtin.max_, Builtin.max2]
              try omega
            · split at hp
              · simp at hp; subst hp
                refine Ran.pure (v := .int k c) sm ?_ (by simp only [RepH, Rep])
                have hb : (if i > c then i else c) = c := by split <;> omega
                simp only [execOp, resolve, invoke, builtin, Sem.run_bind, Sem.run_pure, Result.andThen_ok, List.map_toArray, List.map_cons, List.map_nil, i4, h1]
                simp [Builtin.max_, Builtin.max2]
                try omega
              · simp at hp
          · simp at hp
      all_goals simp [eff] at he
  case makeFunc fn first caps =>
    cases fn <;> (try (simp [eff] at he; done))
    simp only [eff, Option.some.injEq, Prod.mk.injEq] at he
    obtain ⟨rfl, rfl⟩ := he
    have hl : ∀ l : List Operand, RepL β h.next (Fz β h w) w (l.map (pev s)) (l.map a.eval) := fun l => by
      rw [RepL_iff]
      refine ⟨by simp, fun j p v hp hv => ?_⟩
      rw [List.getElem?_map] at hp hv
      cases hj : l[j]? with
      | none => simp [hj] at hp
      | some x =>
        simp [hj] at hp hv
        subst hp; subst hv
        exact rep x
    rename_i f
    obtain ⟨first⟩ := first
    obtain ⟨caps⟩ := caps
    refine Ran.pure (v := .func (.func f) (first.map a.eval).toArray (caps.map a.eval).toArray) sm ?_ (by simp only [RepH, Rep]; exact ⟨_, _, rfl, hl _, hl _⟩)
    simp only [execOp, Instr.makeFunc, Sem.run_bind, Sem.run_pure, Result.andThen_ok, List.map_toArray]
  all_goals simp [eff] at he
end
end Go.AM
