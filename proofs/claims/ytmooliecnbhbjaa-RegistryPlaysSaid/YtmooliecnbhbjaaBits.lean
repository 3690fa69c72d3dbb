/- Bits of words. -/
import Derived.Test.YtmooliecnbhbjaaAmTac
set_option linter.unusedVariables false
set_option linter.unusedSimpArgs false
set_option linter.unusedSectionVars false
namespace Go.AM
/-- the low n bits of X, moved up, put into w -/
def orBits (w : BitVec 64) (X bit n : Nat) : BitVec 64 := w ||| (BitVec.ofNat 64 (X % 2 ^ n) <<< bit)
theorem orBits_zero (w : BitVec 64) (X bit : Nat) : orBits w X bit 0 = w := by
  unfold orBits
  simp [Nat.mod_one]
theorem orBits_one {w : BitVec 64} {X bit n : Nat} (h : bit + n < 64) (ht : X.testBit n = true) : orBits w X bit (n + 1) = orBits w X bit n ||| (1#64 <<< (bit + n)) := by
  unfold orBits
  apply BitVec.eq_of_getLsbD_eq
  intro i hi
  simp only [BitVec.getLsbD_or, BitVec.getLsbD_shiftLeft, BitVec.getLsbD_ofNat, Nat.testBit_mod_two_pow]
  by_cases h1 : i < bit
  · simp [h1]; omega
  · by_cases h2 : i - bit < n
    · have : i < bit + n := by omega
      have h3 : i - bit < n + 1 := by omega
      simp [h1, h2, h3, this]
    · by_cases h3 : i - bit = n
      · have h4 : i - (bit + n) = 0 := by omega
        have h5 : ¬ (i < bit + n) := by omega
        simp [h1, h3, ht, h4, h5, hi]
        omega
      · have h4 : ¬ (i - bit < n + 1) := by omega
        simp [h2, h4]
        intro _ _ _ h6
        have := Nat.testBit_one_eq_true_iff_self_eq_zero.1 h6
        omega
theorem orBits_no {w : BitVec 64} {X bit n : Nat} (ht : X.testBit n = false) : orBits w X bit (n + 1) = orBits w X bit n := by
  unfold orBits
  apply BitVec.eq_of_getLsbD_eq
  intro i hi
  simp only [BitVec.getLsbD_or, BitVec.getLsbD_shiftLeft, BitVec.getLsbD_ofNat, Nat.testBit_mod_two_pow]
  by_cases h2 : i - bit < n
  · have h3 : i - bit < n + 1 := by omega
    simp [h2, h3]
  · by_cases h3 : i - bit = n
    · simp [h3, ht]
    · have h4 : ¬ (i - bit < n + 1) := by omega
      simp [h2, h4]
theorem orBits_all {w : BitVec 64} {X bit n : Nat} (h : X < 2 ^ n) : orBits w X bit n = w ||| (BitVec.ofNat 64 X <<< bit) := by
  unfold orBits
  rw [Nat.mod_eq_of_lt h]
/-- x >> b & 1 of a number that is not negative -/
theorem shr_and_one (X b : Nat) (hX : X < 2 ^ 63) : (BitVec.ofInt 64 ((X : Int).fdiv (2 ^ (min b 64))) &&& BitVec.ofInt 64 1).toNat = if X.testBit b then 1 else 0 := by
  have e : ((2 : Int) ^ (min b 64)) = ((2 ^ (min b 64) : Nat) : Int) := by push_cast; rfl
  rw [e, Int.fdiv_eq_ediv_of_nonneg _ (Int.natCast_nonneg _), ← Int.natCast_ediv, BitVec.ofInt_natCast]
  have e1 : BitVec.ofInt 64 1 = 1#64 := rfl
  rw [e1, BitVec.toNat_and]
  have hlt : X / 2 ^ (min b 64) < 2 ^ 64 := Nat.lt_of_le_of_lt (Nat.div_le_self _ _) (by omega)
  rw [BitVec.toNat_ofNat, Nat.mod_eq_of_lt hlt]
  have e2 : (1#64).toNat = 1 := rfl
  rw [e2, Nat.and_one_is_mod, Nat.testBit_eq_decide_div_mod_eq]
  have hh : X / 2 ^ (min b 64) = X / 2 ^ b := by
    rcases Nat.le_total b 64 with hb | hb
    · rw [Nat.min_eq_left hb]
    · rw [Nat.min_eq_right hb, Nat.div_eq_of_lt (by omega), Nat.div_eq_of_lt (Nat.lt_of_lt_of_le (show X < 2 ^ 64 by omega) (Nat.pow_le_pow_right (by omega) hb))]
  rw [hh]
  split <;> simp_all <;> omega
end Go.AM
