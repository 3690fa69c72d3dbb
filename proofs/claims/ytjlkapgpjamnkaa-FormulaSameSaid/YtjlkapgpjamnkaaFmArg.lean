/- Formulas and expressions that came in are plain data. -/
import Derived.Test.YtjlkapgpjamnkaaFmSm2
import Derived.Test.YtjlkapgpjamnkaaArgs4
import Derived.Test.YtjlkapgpjamnkaaArgs3
set_option linter.unusedVariables false
set_option linter.unusedSimpArgs false
set_option linter.unusedSectionVars false
namespace Go.Proofs.Ytjlkapgpjamnkaa
open Go.AM
set_option maxHeartbeats 1000000
set_option maxRecDepth 20000

def recTs : List TypeId := [29, 57, 99, 9, 3, 24, 25, 26, 27]
theorem parts57 : partsT Try.prog 57 = [(0, 9), (1, 9), (2, 3), (3, 24), (4, 26)] := by kernel_rfl
theorem parts29 : partsT Try.prog 29 = [(0, 9), (1, 9), (2, 24), (3, 25), (4, 26), (5, 27)] := by kernel_rfl
theorem parts99 : partsT Try.prog 99 = [(0, 9), (1, 9)] := by kernel_rfl
theorem co9 : Try.prog.cellsOf 9 = 1 := by kernel_rfl
theorem co3 : Try.prog.cellsOf 3 = 1 := by kernel_rfl
theorem co24 : Try.prog.cellsOf 24 = 1 := by kernel_rfl
theorem co25 : Try.prog.cellsOf 25 = 1 := by kernel_rfl
theorem co26 : Try.prog.cellsOf 26 = 1 := by kernel_rfl
theorem co27 : Try.prog.cellsOf 27 = 1 := by kernel_rfl
theorem co57 : Try.prog.cellsOf 57 = 5 := by kernel_rfl
theorem co29 : Try.prog.cellsOf 29 = 6 := by kernel_rfl
theorem co99 : Try.prog.cellsOf 99 = 2 := by kernel_rfl
theorem by9 : 0 < Try.prog.bytesOf 9 := by rw [show Try.prog.bytesOf 9 = 16 by kernel_rfl]; omega
theorem by99 : 0 < Try.prog.bytesOf 99 := by rw [show Try.prog.bytesOf 99 = 32 by kernel_rfl]; omega
theorem by57 : 0 < Try.prog.bytesOf 57 := by rw [show Try.prog.bytesOf 57 = 88 by kernel_rfl]; omega
theorem by29 : 0 < Try.prog.bytesOf 29 := by rw [show Try.prog.bytesOf 29 = 128 by kernel_rfl]; omega
theorem len_le {n b : Nat} (h : n * b ≤ reachBytes) (hb : 0 < b) : n ≤ bigN := by
  have := Nat.le_mul_of_pos_right n hb
  unfold reachBytes at h
  unfold bigN
  omega
theorem arg_str {c : Nat} {ps : List PV} (h : Arg Try.prog c 9 ps) : ∃ s : ByteArray, s.size ≤ bigN ∧ ps = [sPV s] := by
  cases c with
  | zero => simp [Arg] at h
  | succ c =>
    unfold Arg at h
    rw [Try.underlying9] at h
    obtain ⟨s, h1, h2⟩ := h
    exact ⟨s, by unfold reachBytes at h1; unfold bigN; omega, h2⟩
theorem arg_i64 {c : Nat} {ps : List PV} (h : Arg Try.prog c 3 ps) : ∃ n : Int, (-9223372036854775808 ≤ n ∧ n ≤ 9223372036854775807) ∧ ps = [.sc (.int .i64 n)] := by
  cases c with
  | zero => simp [Arg] at h
  | succ c =>
    obtain ⟨n, h1, h2⟩ := Arg_int Try.underlying3 h
    exact ⟨n, i64_in h1, h2⟩
theorem arg_strs {c : Nat} {ps : List PV} (h : Arg Try.prog c 24 ps) : ∃ l : List ByteArray, (l.length ≤ bigN ∧ ∀ a ∈ l, a.size ≤ bigN) ∧ ps = [.imm 1 (strRows l)] := by
  cases c with
  | zero => simp [Arg] at h
  | succ c =>
    obtain ⟨rows, rfl, h1, _, h2⟩ := Arg_slice Try.underlying24 h
    obtain ⟨xs, rfl, h3⟩ := rows_map (Q := fun s : ByteArray => s.size ≤ bigN) (f := fun s => [sPV s]) rows (fun r hr => arg_str (h2 r hr).2)
    refine ⟨xs, ⟨len_le (by simpa using h1) by9, h3⟩, ?_⟩
    rw [co9]; rfl
theorem arg_pm {c : Nat} {ps : List PV} (h : Arg Try.prog c 99 ps) : ∃ p : Pm, p.ok ∧ ps = pmRow p := by
  cases c with
  | zero => simp [Arg] at h
  | succ c =>
    obtain ⟨h1, h2⟩ := Arg_struct Try.underlying99 h
    rw [co99] at h1
    rw [parts99] at h2
    match ps, h1, h2 with
    | [p0, p1], _, h2 =>
      have a0 := h2 (0, 9) (by simp)
      have a1 := h2 (1, 9) (by simp)
      simp only [co9, List.drop_zero, List.drop_succ_cons, List.take_succ_cons, List.take_zero] at a0 a1
      obtain ⟨s, hs, e1⟩ := arg_str a0
      obtain ⟨t, ht, e2⟩ := arg_str a1
      simp at e1 e2
      exact ⟨⟨s, t⟩, ⟨hs, ht⟩, by simp [pmRow, e1, e2]⟩
theorem arg_pms {c : Nat} {ps : List PV} (h : Arg Try.prog c 25 ps) : ∃ l : List Pm, (l.length ≤ bigN ∧ ∀ a ∈ l, a.ok) ∧ ps = [.imm 2 (pmRows l)] := by
  cases c with
  | zero => simp [Arg] at h
  | succ c =>
    obtain ⟨rows, rfl, h1, _, h2⟩ := Arg_slice Try.underlying25 h
    obtain ⟨xs, rfl, h3⟩ := rows_map (Q := Pm.ok) (f := pmRow) rows (fun r hr => arg_pm (h2 r hr).2)
    refine ⟨xs, ⟨len_le (by simpa using h1) by99, h3⟩, ?_⟩
    rw [co99]; rfl
theorem arg_ex : ∀ (c : Nat) {ps : List PV}, Arg Try.prog c 57 ps → ∃ e : Ex, e.ok ∧ ps = e.cells := by
  intro c
  induction c using Nat.strongRecOn with
  | _ c ih =>
    intro ps h
    cases c with
    | zero => simp [Arg] at h
    | succ c =>
      obtain ⟨h1, h2⟩ := Arg_struct Try.underlying57 h
      rw [co57] at h1
      rw [parts57] at h2
      match ps, h1, h2 with
      | [p0, p1, p2, p3, p4], _, h2 =>
        have a0 := h2 (0, 9) (by simp)
        have a1 := h2 (1, 9) (by simp)
        have a2 := h2 (2, 3) (by simp)
        have a3 := h2 (3, 24) (by simp)
        have a4 := h2 (4, 26) (by simp)
        simp only [co9, co3, co24, co26, List.drop_zero, List.drop_succ_cons, List.take_succ_cons, List.take_zero] at a0 a1 a2 a3 a4
        obtain ⟨op, hop, e0⟩ := arg_str a0
        obtain ⟨name, hname, e1⟩ := arg_str a1
        obtain ⟨n, hn, e2⟩ := arg_i64 a2
        obtain ⟨args, hargs, e3⟩ := arg_strs a3
        cases c with
        | zero => simp [Arg] at a4
        | succ c =>
          obtain ⟨rows, e4, h3, _, h4⟩ := Arg_slice Try.underlying26 a4
          obtain ⟨xs, rfl, h5⟩ := rows_map (Q := Ex.ok) (f := Ex.cells) rows (fun r hr => ih c (by omega) (h4 r hr).2)
          rw [co57] at e4
          simp at e0 e1 e2 e3 e4
          refine ⟨.mk op name n args xs, ?_, ?_⟩
          · simp only [Ex.ok]
            exact ⟨hop, hname, hn, hargs, len_le (by simpa using h3) by57, Ex.oks_iff.2 h5⟩
          · simp only [Ex.cells, e0, e1, e2, e3, e4, Ex.rows_map]
theorem arg_exs {c : Nat} {ps : List PV} (h : Arg Try.prog c 26 ps) : ∃ l : List Ex, (l.length ≤ bigN ∧ Ex.oks l) ∧ ps = [.imm 5 (Ex.rows l)] := by
  cases c with
  | zero => simp [Arg] at h
  | succ c =>
    obtain ⟨rows, rfl, h1, _, h2⟩ := Arg_slice Try.underlying26 h
    obtain ⟨xs, rfl, h3⟩ := rows_map (Q := Ex.ok) (f := Ex.cells) rows (fun r hr => arg_ex c (h2 r hr).2)
    refine ⟨xs, ⟨len_le (by simpa using h1) by57, Ex.oks_iff.2 h3⟩, ?_⟩
    rw [co57, Ex.rows_map]
theorem arg_fm : ∀ (c : Nat) {ps : List PV}, Arg Try.prog c 29 ps → ∃ f : Fm, f.ok ∧ ps = f.cells := by
  intro c
  induction c using Nat.strongRecOn with
  | _ c ih =>
    intro ps h
    cases c with
    | zero => simp [Arg] at h
    | succ c =>
      obtain ⟨h1, h2⟩ := Arg_struct Try.underlying29 h
      rw [co29] at h1
      rw [parts29] at h2
      match ps, h1, h2 with
      | [p0, p1, p2, p3, p4, p5], _, h2 =>
        have a0 := h2 (0, 9) (by simp)
        have a1 := h2 (1, 9) (by simp)
        have a2 := h2 (2, 24) (by simp)
        have a3 := h2 (3, 25) (by simp)
        have a4 := h2 (4, 26) (by simp)
        have a5 := h2 (5, 27) (by simp)
        simp only [co9, co24, co25, co26, co27, List.drop_zero, List.drop_succ_cons, List.take_succ_cons, List.take_zero] at a0 a1 a2 a3 a4 a5
        obtain ⟨op, hop, e0⟩ := arg_str a0
        obtain ⟨name, hname, e1⟩ := arg_str a1
        obtain ⟨args, hargs, e2⟩ := arg_strs a2
        obtain ⟨params, hparams, e3⟩ := arg_pms a3
        obtain ⟨exprs, hexprs, e4⟩ := arg_exs a4
        cases c with
        | zero => simp [Arg] at a5
        | succ c =>
          obtain ⟨rows, e5, h3, _, h4⟩ := Arg_slice Try.underlying27 a5
          obtain ⟨xs, rfl, h5⟩ := rows_map (Q := Fm.ok) (f := Fm.cells) rows (fun r hr => ih c (by omega) (h4 r hr).2)
          rw [co29] at e5
          simp at e0 e1 e2 e3 e4 e5
          refine ⟨.mk op name args params exprs xs, ?_, ?_⟩
          · simp only [Fm.ok]
            exact ⟨hop, hname, hargs, hparams, hexprs, len_le (by simpa using h3) by29, Fm.oks_iff.2 h5⟩
          · simp only [Fm.cells, e0, e1, e2, e3, e4, e5, Fm.rows_map]
theorem covRec : covC Try.prog recTs = true := by kernel_rfl
end Go.Proofs.Ytjlkapgpjamnkaa
