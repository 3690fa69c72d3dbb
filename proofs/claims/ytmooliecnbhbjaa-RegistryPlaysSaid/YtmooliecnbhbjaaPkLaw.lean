/- Packing and unpacking: the plain laws. -/
import Derived.Test.YtmooliecnbhbjaaPkLow
import Derived.Test.YtmooliecnbhbjaaBits2
set_option linter.unusedVariables false
set_option linter.unusedSimpArgs false
set_option linter.unusedSectionVars false
namespace Go.Proofs.Ytmooliecnbhbjaa
open Go.AM

/-- the fields do not overlap: those of later variables lie behind -/
def Before (f g : Fld) : Prop := f.word < g.word ∨ (f.word = g.word ∧ f.bit + f.width ≤ g.bit)
theorem fieldsFrom_after (wb : Nat × Nat) (xs : List Int) {k : Nat} {f : Fld} (hf : (fieldsFrom wb xs)[k]? = some f) : wb.1 < f.word ∨ (wb.1 = f.word ∧ wb.2 ≤ f.bit) := by
  induction xs generalizing wb k with
  | nil => simp [fieldsFrom] at hf
  | cons x xs ih =>
    cases k with
    | zero =>
      simp only [fieldsFrom, List.getElem?_cons_zero, Option.some.injEq] at hf
      subst hf
      simp only [nextF]; split
      · left; simp
      · right; simp
    | succ k =>
      simp only [fieldsFrom, List.getElem?_cons_succ] at hf
      have := ih _ hf
      revert this
      simp only [nextF]; split
      · simp; omega
      · simp; omega
theorem fieldsFrom_before (wb : Nat × Nat) (xs : List Int) {i j : Nat} (hij : i < j) {f g : Fld} (hf : (fieldsFrom wb xs)[i]? = some f) (hg : (fieldsFrom wb xs)[j]? = some g) : Before f g := by
  induction xs generalizing wb i j with
  | nil => simp [fieldsFrom] at hf
  | cons x xs ih =>
    cases j with
    | zero => omega
    | succ j =>
      simp only [fieldsFrom, List.getElem?_cons_succ] at hg
      cases i with
      | zero =>
        simp only [fieldsFrom, List.getElem?_cons_zero, Option.some.injEq] at hf
        subst hf
        exact fieldsFrom_after _ _ hg
      | succ i =>
        simp only [fieldsFrom, List.getElem?_cons_succ] at hf
        exact ih _ (by omega) hf hg

def Disj (f g : Fld) : Prop := f.word ≠ g.word ∨ f.bit + f.width ≤ g.bit ∨ g.bit + g.width ≤ f.bit
theorem Disj.symm {f g : Fld} (h : Disj f g) : Disj g f := by
  unfold Disj at *; omega
theorem Before.disj {f g : Fld} (h : Before f g) : Disj f g := by
  unfold Before at h; unfold Disj; omega
theorem fieldsM_disj {xs : List Int} {i j : Nat} (hij : i ≠ j) {f g : Fld} (hf : (fieldsM xs)[i]? = some f) (hg : (fieldsM xs)[j]? = some g) : Disj f g := by
  rcases Nat.lt_or_gt_of_ne hij with h | h
  · exact (fieldsFrom_before _ _ h hf hg).disj
  · exact (fieldsFrom_before _ _ h hg hf).disj.symm

theorem getD_set {α : Type} (l : List α) (i j : Nat) (x d : α) (hi : i < l.length) : (l.set i x).getD j d = if i = j then x else l.getD j d := by
  simp only [List.getD_eq_getElem?_getD, List.getElem?_set]
  split
  · rename_i h; subst h; simp [hi]
  · rfl

def valF (W : List (BitVec 64)) (f : Fld) : Nat := getN (W.getD f.word 0) f.bit f.width
def valsM (xs : List Int) (W : List (BitVec 64)) : List Int := (fieldsM xs).map fun f => (valF W f : Int)
def restF (W : List (BitVec 64)) (f : Fld) : List (BitVec 64) := W.set f.word (W.getD f.word 0 &&& ~~~ maskB f.bit f.width)
def restL (fs : List Fld) (W : List (BitVec 64)) : List (BitVec 64) := fs.foldl restF W
/-- a field fits in n words -/
def Fits (n : Nat) (f : Fld) : Prop := f.word < n ∧ f.bit + f.width ≤ 64 ∧ f.width < 64
theorem fieldsM_fits {xs : List Int} {f : Fld} (hf : f ∈ fieldsM xs) : Fits (wordsM xs) f := by
  obtain ⟨k, hk, rfl⟩ := List.getElem_of_mem hf
  have hk' := hk
  rw [fieldsM_len] at hk'
  obtain ⟨g, hg, _, h2, h3, h4⟩ := fieldsM_get hk'
  rw [List.getElem?_eq_getElem hk] at hg
  simp only [Option.some.injEq] at hg
  rw [hg]
  have := widthM_le xs[k]
  exact ⟨h4, h3, by omega⟩

theorem bits_step {p r w : BitVec 64} (m : BitVec 64) (h1 : p ||| r = w) (h2 : p &&& r = 0) : ((p ||| (w &&& m)) ||| (r &&& ~~~m) = w) ∧ ((p ||| (w &&& m)) &&& (r &&& ~~~m) = 0) := by
  subst h1
  constructor
  all_goals
    apply BitVec.eq_of_getLsbD_eq
    intro i hi
    have h := congrArg (·.getLsbD i) h2
    simp only [BitVec.getLsbD_and, BitVec.getLsbD_or, BitVec.getLsbD_not, hi, decide_true, Bool.true_and, BitVec.ofNat_eq_ofNat, BitVec.getLsbD_zero] at h ⊢
    revert h
    cases p.getLsbD i <;> cases r.getLsbD i <;> cases m.getLsbD i <;> decide
theorem pack_rest (W : List (BitVec 64)) : ∀ (fs : List Fld) (Q R : List (BitVec 64)), (∀ f ∈ fs, Fits W.length f) → Q.length = W.length → R.length = W.length →
    (∀ j, Q.getD j 0 ||| R.getD j 0 = W.getD j 0 ∧ Q.getD j 0 &&& R.getD j 0 = 0) →
    ∀ j, (packL (fs.zip (fs.map fun f => (valF W f : Int))) Q).getD j 0 ||| (restL fs R).getD j 0 = W.getD j 0 ∧ (packL (fs.zip (fs.map fun f => (valF W f : Int))) Q).getD j 0 &&& (restL fs R).getD j 0 = 0
  | [], _, _, _, _, _, h => h
  | f :: fs, Q, R, hf, hq, hr, h => by
    have hff := hf f (by simp)
    simp only [List.map_cons, List.zip_cons_cons, packL, List.foldl_cons, restL]
    refine pack_rest W fs (putF Q f (valF W f)) (restF R f) (fun g hg => hf g (by simp [hg])) (by simp [putF, hq]) (by simp [restF, hr]) (fun j => ?_)
    unfold putF restF
    rw [getD_set _ _ _ _ _ (by rw [hq]; exact hff.1), getD_set _ _ _ _ _ (by rw [hr]; exact hff.1)]
    split
    · rename_i hj; subst hj
      have e : BitVec.ofInt 64 ((valF W f : Nat) : Int) <<< f.bit = W.getD f.word 0 &&& maskB f.bit f.width := by
        rw [BitVec.ofInt_natCast]; exact get_put hff.2.1 hff.2.2
      rw [e]
      exact bits_step _ (h _).1 (h _).2
    · exact h j
theorem restL_len (fs : List Fld) (R : List (BitVec 64)) : (restL fs R).length = R.length := by
  induction fs generalizing R with
  | nil => rfl
  | cons f fs ih => simp only [restL, List.foldl_cons]; have := ih (restF R f); simp only [restL] at this; rw [this]; simp [restF]
def zeros (W : List (BitVec 64)) : Bool := W.all fun x => decide (x = 0)
theorem zeros_iff (W : List (BitVec 64)) : zeros W = true ↔ ∀ j, W.getD j 0 = 0 := by
  unfold zeros
  rw [List.all_eq_true]
  constructor
  · intro h j
    rw [List.getD_eq_getElem?_getD]
    cases hj : W[j]? with
    | none => rfl
    | some x => have := h x (List.mem_of_getElem? hj); simpa using this
  · intro h x hx
    obtain ⟨j, hj, rfl⟩ := List.getElem_of_mem hx
    have := h j
    rw [List.getD_eq_getElem?_getD, List.getElem?_eq_getElem hj] at this
    simpa using this
theorem ext_getD {A B : List (BitVec 64)} (hl : A.length = B.length) (h : ∀ j, A.getD j 0 = B.getD j 0) : A = B := by
  apply List.ext_getElem hl
  intro j h1 h2
  have := h j
  simpa [List.getD_eq_getElem?_getD, h1, h2] using this
theorem packW_len (xs ss : List Int) : (packW xs ss).length = wordsM xs := by
  unfold packW; rw [packL_len]; simp
theorem pack_vals {xs : List Int} {W : List (BitVec 64)} (hl : W.length = wordsM xs) : packW xs (valsM xs W) = W ↔ zeros (restL (fieldsM xs) W) = true := by
  have hz : ∀ j, (List.replicate (wordsM xs) (0 : BitVec 64)).getD j 0 = 0 := by
    intro j
    rw [List.getD_eq_getElem?_getD, List.getElem?_replicate]
    split <;> rfl
  have h := pack_rest W (fieldsM xs) (List.replicate (wordsM xs) 0) W (fun f hf => by rw [hl]; exact fieldsM_fits hf) (by simp [hl]) rfl (fun j => by rw [hz j]; simp)
  have e : packL ((fieldsM xs).zip ((fieldsM xs).map fun f => (valF W f : Int))) (List.replicate (wordsM xs) 0) = packW xs (valsM xs W) := rfl
  rw [e] at h
  rw [zeros_iff]
  constructor
  · intro hw j
    obtain ⟨h1, h2⟩ := h j
    rw [hw] at h1 h2
    apply BitVec.eq_of_getLsbD_eq
    intro i hi
    have g1 := congrArg (·.getLsbD i) h1
    have g2 := congrArg (·.getLsbD i) h2
    simp only [BitVec.getLsbD_and, BitVec.getLsbD_or, BitVec.ofNat_eq_ofNat, BitVec.getLsbD_zero] at g1 g2 ⊢
    revert g1 g2
    cases (W.getD j 0#64).getLsbD i <;> cases ((restL (fieldsM xs) W).getD j 0#64).getLsbD i <;> decide
  · intro hr
    refine ext_getD (by rw [packW_len, hl]) (fun j => ?_)
    have h1 := (h j).1
    rw [hr j] at h1
    simpa using h1

theorem shl_bit (X b i : Nat) (hi : i < 64) : (BitVec.ofNat 64 X <<< b).getLsbD i = (decide (b ≤ i) && X.testBit (i - b)) := by
  rw [BitVec.getLsbD_shiftLeft, BitVec.getLsbD_ofNat]
  by_cases h : b ≤ i
  · have h2 : ¬ i < b := by omega
    have h3 : i - b < 64 := by omega
    simp [hi, h, h2, h3]
  · have h2 : i < b := by omega
    simp [h, h2]
theorem getN_ext {w v : BitVec 64} {b n : Nat} (h : ∀ i, i < n → b + i < 64 → w.getLsbD (b + i) = v.getLsbD (b + i)) : getN w b n = getN v b n := by
  apply Nat.eq_of_testBit_eq
  intro i
  rw [getN_bit, getN_bit]
  by_cases hi : i < n
  · by_cases h64 : b + i < 64
    · rw [h i hi h64]
    · rw [BitVec.getLsbD_of_ge _ _ (by omega), BitVec.getLsbD_of_ge _ _ (by omega)]
  · simp [hi]
theorem getN_or_ne {w : BitVec 64} {X b n b' n' : Nat} (hX : X < 2 ^ n') (hd : b' + n' ≤ b ∨ b + n ≤ b') : getN (w ||| (BitVec.ofNat 64 X <<< b')) b n = getN w b n := by
  refine getN_ext fun i hi h64 => ?_
  rw [BitVec.getLsbD_or, shl_bit _ _ _ h64]
  have : (decide (b' ≤ b + i) && X.testBit (b + i - b')) = false := by
    by_cases h : b' ≤ b + i
    · rw [Nat.testBit_lt_two_pow (Nat.lt_of_lt_of_le hX (Nat.pow_le_pow_right (by omega) (by omega)))]; simp
    · simp [h]
  rw [this]; simp
theorem getN_put {w : BitVec 64} {X b n : Nat} (hX : X < 2 ^ n) (hb : b + n ≤ 64) (hw : ∀ i, i < n → w.getLsbD (b + i) = false) : getN (w ||| (BitVec.ofNat 64 X <<< b)) b n = X := by
  apply Nat.eq_of_testBit_eq
  intro i
  rw [getN_bit]
  by_cases hi : i < n
  · rw [BitVec.getLsbD_or, shl_bit _ _ _ (by omega), hw i hi]
    simp [hi]
  · rw [Nat.testBit_lt_two_pow (Nat.lt_of_lt_of_le hX (Nat.pow_le_pow_right (by omega) (by omega)))]
    simp [hi]
theorem getN_zero {w : BitVec 64} {b n : Nat} (h : getN w b n = 0) : ∀ i, i < n → w.getLsbD (b + i) = false := by
  intro i hi
  have := getN_bit w b n i
  rw [h] at this
  simpa [hi] using this.symm

def Good1 (n : Nat) (p : Fld × Int) : Prop := Fits n p.1 ∧ 0 ≤ p.2 ∧ p.2 < 2 ^ p.1.width
theorem nat_of {x : Int} {n : Nat} (h : 0 ≤ x ∧ x < 2 ^ n) : ∃ X : Nat, x = X ∧ X < 2 ^ n := by
  obtain ⟨X, rfl⟩ := Int.eq_ofNat_of_zero_le h.1
  refine ⟨X, rfl, ?_⟩
  have := h.2
  have e : ((2 ^ n : Nat) : Int) = 2 ^ n := by push_cast; rfl
  rw [← e] at this
  exact Int.ofNat_lt.1 this
theorem putF_len (ws : List (BitVec 64)) (f : Fld) (x : Int) : (putF ws f x).length = ws.length := by simp [putF]
theorem putF_other {Q : List (BitVec 64)} {p : Fld × Int} {g : Fld} (hp : Good1 Q.length p) (hd : Disj p.1 g) : valF (putF Q p.1 p.2) g = valF Q g := by
  obtain ⟨X, hX, hlt⟩ := nat_of hp.2
  unfold valF putF
  rw [getD_set _ _ _ _ _ hp.1.1]
  split
  · rename_i hw
    rw [hX, BitVec.ofInt_natCast]
    rw [hw]
    unfold Disj at hd
    exact getN_or_ne hlt (by omega)
  · rfl
theorem packL_other {g : Fld} : ∀ (l : List (Fld × Int)) (Q : List (BitVec 64)), (∀ p ∈ l, Good1 Q.length p ∧ Disj p.1 g) → valF (packL l Q) g = valF Q g
  | [], _, _ => rfl
  | p :: l, Q, h => by
    simp only [packL, List.foldl_cons]
    have := packL_other l (putF Q p.1 p.2) (fun q hq => by rw [putF_len]; exact h q (by simp [hq]))
    simp only [packL] at this
    rw [this]
    exact putF_other (h p (by simp)).1 (h p (by simp)).2
theorem packL_get : ∀ (l : List (Fld × Int)) (Q : List (BitVec 64)), l.Pairwise (fun a b => Disj a.1 b.1) → (∀ p ∈ l, Good1 Q.length p ∧ valF Q p.1 = 0) → ∀ p ∈ l, (valF (packL l Q) p.1 : Int) = p.2
  | [], _, _, _, p, hp => by simp at hp
  | a :: l, Q, hpw, h, p, hp => by
    rw [List.pairwise_cons] at hpw
    have ha := h a (by simp)
    simp only [packL, List.foldl_cons]
    rcases List.mem_cons.1 hp with rfl | hp
    · have := packL_other (g := p.1) l (putF Q p.1 p.2) (fun q hq => ⟨by rw [putF_len]; exact (h q (by simp [hq])).1, (hpw.1 q hq).symm⟩)
      simp only [packL] at this
      rw [this]
      obtain ⟨X, hX, hlt⟩ := nat_of ha.1.2
      unfold valF putF
      rw [getD_set _ _ _ _ _ ha.1.1.1, if_pos rfl, hX, BitVec.ofInt_natCast, getN_put hlt ha.1.1.2.1 (getN_zero ha.2)]
    · have := packL_get l (putF Q a.1 a.2) hpw.2 (fun q hq => ⟨by rw [putF_len]; exact (h q (by simp [hq])).1, by
        rw [putF_other ha.1 (hpw.1 q hq)]; exact (h q (by simp [hq])).2⟩) p hp
      simp only [packL] at this
      exact this
theorem proper_fit {xs ss : List Int} (hok : xs.all okSize = true) (hp : properM xs ss = true) {p : Fld × Int} (h : p ∈ (fieldsM xs).zip ss) : Good1 (wordsM xs) p := by
  obtain ⟨hl, hg⟩ := properM_get hp
  obtain ⟨k, hk, rfl⟩ := List.getElem_of_mem h
  rw [List.getElem_zip]
  rw [List.length_zip, fieldsM_len] at hk
  have hkx : k < xs.length := by omega
  obtain ⟨f, hf, _, h2, _, _⟩ := fieldsM_get hkx
  have hkf : k < (fieldsM xs).length := by rw [fieldsM_len]; exact hkx
  rw [List.getElem?_eq_getElem hkf] at hf
  simp only [Option.some.injEq] at hf
  have hs := hg k hkx (by omega)
  have hsz : xs[k] ≤ 64 := by
    have := List.all_eq_true.1 hok _ (List.getElem_mem hkx)
    simp [okSize] at this; omega
  refine ⟨fieldsM_fits (List.getElem_mem hkf), hs.1, ?_⟩
  have h1 := widthM_ge hsz
  show ss[k] < 2 ^ ((fieldsM xs)[k]).width
  rw [hf, h2]
  omega
theorem vals_pack {xs ss : List Int} (hok : xs.all okSize = true) (hp : properM xs ss = true) : valsM xs (packW xs ss) = ss := by
  obtain ⟨hl, _⟩ := properM_get hp
  have hpw : ((fieldsM xs).zip ss).Pairwise (fun a b => Disj a.1 b.1) := by
    rw [List.pairwise_iff_getElem]
    intro i j hi hj hij
    rw [List.getElem_zip, List.getElem_zip]
    rw [List.length_zip] at hi hj
    exact fieldsM_disj (Nat.ne_of_lt hij) (List.getElem?_eq_getElem (by omega)) (List.getElem?_eq_getElem (by omega))
  have key := packL_get ((fieldsM xs).zip ss) (List.replicate (wordsM xs) 0) hpw (fun p h => ⟨by rw [List.length_replicate]; exact proper_fit hok hp h, by
    unfold valF
    rw [List.getD_eq_getElem?_getD, List.getElem?_replicate]
    have : ∀ b n, getN 0#64 b n = 0 := by intro b n; simp [getN]
    split <;> exact this _ _⟩)
  apply List.ext_getElem
  · simp [valsM, fieldsM_len, hl]
  · intro k h1 h2
    have hkz : k < ((fieldsM xs).zip ss).length := by rw [List.length_zip, fieldsM_len]; omega
    have := key _ (List.getElem_mem hkz)
    rw [List.getElem_zip] at this
    simp only [valsM, List.getElem_map]
    exact this
theorem rest_pack {xs ss : List Int} (hok : xs.all okSize = true) (hp : properM xs ss = true) : zeros (restL (fieldsM xs) (packW xs ss)) = true := by
  rw [← pack_vals (packW_len xs ss), vals_pack hok hp]
end Go.Proofs.Ytmooliecnbhbjaa
