/- Fields of words, bit by bit. -/
import Derived.Test.YtmooliecnbhbjaaBits
set_option linter.unusedVariables false
set_option linter.unusedSimpArgs false
set_option linter.unusedSectionVars false
namespace Go.AM
/-- the mask of a field -/
def maskB (bit width : Nat) : BitVec 64 := ((1#64 <<< width) - 1#64) <<< bit
theorem low_ones {n : Nat} (h : n < 64) : (1#64 <<< n) - 1#64 = BitVec.ofNat 64 (2 ^ n - 1) := by
  apply BitVec.eq_of_toNat_eq
  have h1 : (1#64 <<< n).toNat = 2 ^ n := by
    rw [BitVec.toNat_shiftLeft]
    have : 2 ^ n < 2 ^ 64 := Nat.pow_lt_pow_right (by omega) h
    simp [Nat.shiftLeft_eq]
    omega
  have h2 : 2 ^ n < 2 ^ 64 := Nat.pow_lt_pow_right (by omega) h
  have h3 : 1 ≤ 2 ^ n := Nat.one_le_two_pow
  rw [BitVec.toNat_sub, h1]
  simp
  omega
theorem mask_bit {bit width i : Nat} (h : width < 64) (hi : i < 64) : (maskB bit width).getLsbD i = (decide (bit ≤ i) && decide (i < bit + width)) := by
  unfold maskB
  rw [low_ones h, BitVec.getLsbD_shiftLeft, BitVec.getLsbD_ofNat, Nat.testBit_two_pow_sub_one]
  by_cases h1 : bit ≤ i
  · have h2 : ¬ (i < bit) := by omega
    have h3 : (i - bit < width) = (i < bit + width) := by simp; omega
    have h4 : i - bit < 64 := by omega
    simp [h1, h2, h3, hi, h4]
  · have h2 : i < bit := by omega
    simp [h1, h2]
def getN (w : BitVec 64) (bit width : Nat) : Nat := (w.toNat >>> bit) % 2 ^ width
theorem get_bits {w : BitVec 64} {bit width : Nat} (h : bit + width ≤ 64) (hw : width < 64) : ((w &&& maskB bit width) >>> bit).toNat = getN w bit width := by
  apply Nat.eq_of_testBit_eq
  intro i
  unfold getN
  rw [Nat.testBit_mod_two_pow, Nat.testBit_shiftRight, BitVec.testBit_toNat, BitVec.testBit_toNat, BitVec.getLsbD_ushiftRight, BitVec.getLsbD_and]
  by_cases hi : bit + i < 64
  · rw [mask_bit hw hi]
    by_cases h1 : i < width
    · simp [h1]
    · simp [h1]
  · have h2 : w.getLsbD (bit + i) = false := BitVec.getLsbD_of_ge _ _ (by omega)
    simp [h2]
theorem getN_lt (w : BitVec 64) (bit width : Nat) : getN w bit width < 2 ^ width := Nat.mod_lt _ (Nat.two_pow_pos _)
theorem getN_bit (w : BitVec 64) (bit width i : Nat) : (getN w bit width).testBit i = (decide (i < width) && w.getLsbD (bit + i)) := by
  unfold getN
  rw [Nat.testBit_mod_two_pow, Nat.testBit_shiftRight, BitVec.testBit_toNat]
/-- the bits of a field, put back where they were -/
theorem get_put {w : BitVec 64} {bit width : Nat} (h : bit + width ≤ 64) (hw : width < 64) : BitVec.ofNat 64 (getN w bit width) <<< bit = w &&& maskB bit width := by
  apply BitVec.eq_of_getLsbD_eq
  intro i hi
  rw [BitVec.getLsbD_shiftLeft, BitVec.getLsbD_ofNat, getN_bit, BitVec.getLsbD_and, mask_bit hw hi]
  by_cases h1 : bit ≤ i
  · have h2 : ¬ (i < bit) := by omega
    have h3 : bit + (i - bit) = i := by omega
    have h4 : i - bit < 64 := by omega
    have h5 : (i - bit < width) = (i < bit + width) := by simp; omega
    simp [h1, h2, h3, hi, h4, h5, Bool.and_comm]
  · have h2 : i < bit := by omega
    simp [h1, h2]
/-- the low n bits of X in the place of those that were there -/
def setBits (w : BitVec 64) (X bit n : Nat) : BitVec 64 := (w &&& ~~~ maskB bit n) ||| (BitVec.ofNat 64 (X % 2 ^ n) <<< bit)
theorem setBits_get {w : BitVec 64} {X bit n i : Nat} (hn : n < 64) (hi : i < 64) : (setBits w X bit n).getLsbD i = if bit ≤ i ∧ i < bit + n then X.testBit (i - bit) else w.getLsbD i := by
  unfold setBits
  rw [BitVec.getLsbD_or, BitVec.getLsbD_and, BitVec.getLsbD_not, mask_bit hn hi, BitVec.getLsbD_shiftLeft, BitVec.getLsbD_ofNat, Nat.testBit_mod_two_pow]
  by_cases h1 : bit ≤ i
  · have h2 : ¬ (i < bit) := by omega
    have h4 : i - bit < 64 := by omega
    by_cases h3 : i < bit + n
    · have h5 : i - bit < n := by omega
      simp [h1, h2, h3, hi, h4, h5]
    · have h5 : ¬ (i - bit < n) := by omega
      simp [h1, h2, h3, hi, h4, h5]
  · have h2 : i < bit := by omega
    simp [h1, h2, hi]
theorem bit_one {k i : Nat} (hi : i < 64) : (1#64 <<< k).getLsbD i = decide (i = k) := by
  rw [BitVec.getLsbD_shiftLeft, BitVec.getLsbD_one]
  by_cases h : i = k
  · subst h; simp [hi]
  · simp [h, hi]; omega
theorem setBits_zero (w : BitVec 64) (X bit : Nat) : setBits w X bit 0 = w := by
  apply BitVec.eq_of_getLsbD_eq
  intro i hi
  rw [setBits_get (by omega) hi, if_neg (by omega)]
theorem setBits_one {w : BitVec 64} {X bit n : Nat} (h : n + 1 < 64) (ht : X.testBit n = true) : setBits w X bit (n + 1) = (setBits w X bit n &&& ~~~ (1#64 <<< (bit + n))) ||| (1#64 <<< (bit + n)) := by
  apply BitVec.eq_of_getLsbD_eq
  intro i hi
  rw [setBits_get h hi, BitVec.getLsbD_or, BitVec.getLsbD_and, BitVec.getLsbD_not, bit_one hi, setBits_get (by omega) hi]
  by_cases he : i = bit + n
  · subst he
    rw [if_pos (by omega)]
    have : bit + n - bit = n := by omega
    simp [this, ht]
  · by_cases h1 : bit ≤ i ∧ i < bit + n
    · rw [if_pos (by omega), if_pos h1]; simp [he, hi]
    · rw [if_neg (by omega), if_neg h1]; simp [he, hi]
theorem setBits_no {w : BitVec 64} {X bit n : Nat} (h : n + 1 < 64) (ht : X.testBit n = false) : setBits w X bit (n + 1) = (setBits w X bit n &&& ~~~ (1#64 <<< (bit + n))) := by
  apply BitVec.eq_of_getLsbD_eq
  intro i hi
  rw [setBits_get h hi, BitVec.getLsbD_and, BitVec.getLsbD_not, bit_one hi, setBits_get (by omega) hi]
  by_cases he : i = bit + n
  · subst he
    rw [if_pos (by omega)]
    have : bit + n - bit = n := by omega
    simp [this, ht]
  · by_cases h1 : bit ≤ i ∧ i < bit + n
    · rw [if_pos (by omega), if_pos h1]; simp [he, hi]
    · rw [if_neg (by omega), if_neg h1]; simp [he, hi]
theorem setBits_all {w : BitVec 64} {X bit n : Nat} (h : X < 2 ^ n) : setBits w X bit n = (w &&& ~~~ maskB bit n) ||| (BitVec.ofNat 64 X <<< bit) := by
  unfold setBits
  rw [Nat.mod_eq_of_lt h]
end Go.AM
