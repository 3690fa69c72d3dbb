/- Setting a field: the plain law. -/
import Derived.Test.YtmooliecnbhbjaaPkLaw
set_option linter.unusedVariables false
set_option linter.unusedSimpArgs false
set_option linter.unusedSectionVars false
namespace Go.Proofs.Ytmooliecnbhbjaa
open Go.AM

def setF (W : List (BitVec 64)) (f : Fld) (x : Int) : List (BitVec 64) := W.set f.word ((W.getD f.word 0 &&& ~~~ maskB f.bit f.width) ||| (BitVec.ofInt 64 x <<< f.bit))
theorem setF_len (W : List (BitVec 64)) (f : Fld) (x : Int) : (setF W f x).length = W.length := by simp [setF]
theorem andnot_bit {w : BitVec 64} {b n i : Nat} (hn : n < 64) (hi : i < 64) : (w &&& ~~~ maskB b n).getLsbD i = (w.getLsbD i && !(decide (b ≤ i) && decide (i < b + n))) := by
  rw [BitVec.getLsbD_and, BitVec.getLsbD_not, mask_bit hn hi]
  simp [hi]
theorem setF_other {W : List (BitVec 64)} {f g : Fld} {x : Int} (hp : Good1 W.length (f, x)) (hd : Disj f g) : valF (setF W f x) g = valF W g := by
  obtain ⟨X, hX, hlt⟩ := nat_of hp.2
  have hX' : x = X := hX
  have hlt' : X < 2 ^ f.width := hlt
  unfold valF setF
  rw [getD_set _ _ _ _ _ hp.1.1]
  split
  · rename_i hw
    rw [hX', BitVec.ofInt_natCast]
    have hw' : f.word = g.word := hw
    rw [hw']
    unfold Disj at hd
    rw [getN_or_ne hlt' (by omega)]
    refine getN_ext fun i hi h64 => ?_
    rw [andnot_bit hp.1.2.2 h64]
    have : (decide (f.bit ≤ g.bit + i) && decide (g.bit + i < f.bit + f.width)) = false := by
      simp; omega
    rw [this]; simp
  · rfl
theorem setF_same {W : List (BitVec 64)} {f : Fld} {x : Int} (hp : Good1 W.length (f, x)) : (valF (setF W f x) f : Int) = x := by
  obtain ⟨X, hX, hlt⟩ := nat_of hp.2
  have hX' : x = X := hX
  have hlt' : X < 2 ^ f.width := hlt
  have hfit : f.bit + f.width ≤ 64 := hp.1.2.1
  unfold valF setF
  rw [getD_set _ _ _ _ _ hp.1.1, if_pos rfl, hX', BitVec.ofInt_natCast, getN_put hlt' hfit]
  intro i hi
  rw [andnot_bit hp.1.2.2 (by omega)]
  have : (decide (f.bit ≤ f.bit + i) && decide (f.bit + i < f.bit + f.width)) = true := by simp; omega
  rw [this]; simp
def covers (j i : Nat) (f : Fld) : Bool := decide (f.word = j) && (decide (f.bit ≤ i) && decide (i < f.bit + f.width))
theorem restL_bit {j i : Nat} (hi : i < 64) : ∀ (fs : List Fld) (R : List (BitVec 64)), (∀ f ∈ fs, Fits R.length f) → ((restL fs R).getD j 0).getLsbD i = ((R.getD j 0).getLsbD i && !(fs.any (covers j i)))
  | [], R, _ => by simp [restL]
  | f :: fs, R, h => by
    have hf := h f (by simp)
    simp only [restL, List.foldl_cons, List.any_cons]
    have := restL_bit (j := j) hi fs (restF R f) (fun g hg => by have := h g (by simp [hg]); simpa [restF] using this)
    simp only [restL] at this
    rw [this]
    unfold restF
    rw [getD_set _ _ _ _ _ hf.1]
    split
    · rename_i hw
      rw [andnot_bit hf.2.2 hi, hw]
      have : covers j i f = (decide (f.bit ≤ i) && decide (i < f.bit + f.width)) := by simp [covers, hw]
      rw [this, Bool.not_or, Bool.and_assoc]
    · rename_i hw
      have : covers j i f = false := by simp [covers, hw]
      rw [this]; simp
theorem set_pack {xs ss : List Int} (hok : xs.all okSize = true) (hp : properM xs ss = true) {k : Nat} {f : Fld} (hf : (fieldsM xs)[k]? = some f) {x : Int} (hx : 0 ≤ x ∧ x < f.size) (hk : k < xs.length) :
    setF (packW xs ss) f x = packW xs (ss.set k x) ∧ properM xs (ss.set k x) = true := by
  obtain ⟨hl, hg⟩ := properM_get hp
  obtain ⟨f', hf', h1, h2, h3, h4⟩ := fieldsM_get hk
  rw [hf] at hf'
  simp only [Option.some.injEq] at hf'
  subst hf'
  have hpr : properM xs (ss.set k x) = true := by
    unfold properM
    simp only [List.length_set, hl, decide_true, Bool.true_and]
    rw [List.all_eq_true]
    intro p hpm
    obtain ⟨i, hi, rfl⟩ := List.getElem_of_mem hpm
    rw [List.length_zip, List.length_set] at hi
    rw [List.getElem_zip, List.getElem_set]
    split
    · rename_i hki; subst hki; simp; omega
    · have := hg i (by omega) (by omega)
      simp; omega
  have hgood : Good1 (packW xs ss).length (f, x) := by
    have h5 : (f, x) ∈ (fieldsM xs).zip (ss.set k x) := by
      rw [List.mem_iff_getElem?]
      refine ⟨k, ?_⟩
      rw [List.getElem?_zip_eq_some]
      exact ⟨hf, by simp [hl, hk]⟩
    have := proper_fit hok hpr h5
    rw [packW_len]; exact this
  refine ⟨?_, hpr⟩
  have hlen : (setF (packW xs ss) f x).length = wordsM xs := by rw [setF_len, packW_len]
  have hv : valsM xs (setF (packW xs ss) f x) = ss.set k x := by
    apply List.ext_getElem
    · simp [valsM, fieldsM_len, hl]
    · intro i i1 i2
      have hi : i < (fieldsM xs).length := by simpa [valsM] using i1
      simp only [valsM, List.getElem_map]
      rw [List.getElem_set]
      split
      · rename_i hki; subst hki
        have : (fieldsM xs)[k] = f := by rw [List.getElem?_eq_getElem hi] at hf; simpa using hf
        rw [this, setF_same hgood]
      · rename_i hki
        rw [setF_other hgood (fieldsM_disj hki hf (List.getElem?_eq_getElem hi))]
        have hvp := vals_pack hok hp
        have : (valsM xs (packW xs ss))[i]? = ss[i]? := by rw [hvp]
        rw [valsM, List.getElem?_map, List.getElem?_eq_getElem hi, List.getElem?_eq_getElem (by rw [fieldsM_len] at hi; omega)] at this
        simpa using this
  rw [← hv]
  refine ((pack_vals hlen).2 ?_).symm
  rw [zeros_iff]
  intro j
  have fits : ∀ {R : List (BitVec 64)}, R.length = wordsM xs → ∀ g ∈ fieldsM xs, Fits R.length g := fun hR g hg => by rw [hR]; exact fieldsM_fits hg
  apply BitVec.eq_of_getLsbD_eq
  intro i hi
  rw [restL_bit hi _ _ (fits hlen)]
  have h0 := (zeros_iff _).1 (rest_pack hok hp) j
  have h0' := congrArg (·.getLsbD i) h0
  rw [restL_bit hi _ _ (fits (packW_len xs ss))] at h0'
  by_cases hc : (fieldsM xs).any (covers j i) = true
  · rw [hc]; simp
  · simp only [Bool.not_eq_true] at hc
    rw [hc] at h0' ⊢
    rw [← h0']
    congr 1
    unfold setF
    rw [getD_set _ _ _ _ _ hgood.1.1]
    split
    · rename_i hw
      have hnc : covers j i f = false := by
        rw [List.any_eq_false] at hc
        have := hc f (List.mem_of_getElem? hf)
        simpa using this
      have hnc' : (decide (f.bit ≤ i) && decide (i < f.bit + f.width)) = false := by
        unfold covers at hnc; rw [decide_eq_true hw, Bool.true_and] at hnc; exact hnc
      obtain ⟨X, hX, hlt⟩ := nat_of hgood.2
      have hX' : x = X := hX
      have hlt' : X < 2 ^ f.width := hlt
      rw [BitVec.getLsbD_or, andnot_bit hgood.1.2.2 hi, hnc', hX', BitVec.ofInt_natCast, shl_bit _ _ _ hi]
      have h6 : (decide (f.bit ≤ i) && X.testBit (i - f.bit)) = false := by
        by_cases hb : f.bit ≤ i
        · have hni : ¬ i < f.bit + f.width := by simpa [hb] using hnc'
          rw [Nat.testBit_lt_two_pow (Nat.lt_of_lt_of_le hlt' (Nat.pow_le_pow_right (by omega) (by omega)))]; simp
        · simp [hb]
      rw [h6, hw]; simp
    · rfl
end Go.Proofs.Ytmooliecnbhbjaa
