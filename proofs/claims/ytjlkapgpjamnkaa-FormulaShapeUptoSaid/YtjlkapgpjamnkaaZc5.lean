/- What the claim rests on, part 5: the abstract machine, contracts of the functions, plain data. -/
import Derived.OpenShut
import Derived.ChangeShapes
import Derived.SizedLaws
import Derived.Test.YtjlkapgpjamnkaaZc4
set_option linter.unusedVariables false
set_option linter.unusedSimpArgs false
set_option linter.unusedSectionVars false
namespace Go.AM
mutual
def Sx.nodes : Sx → Nat
 | .mk _ _ _ _ _ kids => Sx.nodess kids + 1
def Sx.nodess : List Sx → Nat
 | [] => 0
 | k :: ks => k.nodes + Sx.nodess ks
end
end Go.AM
namespace Go.Proofs.Ytjlkapgpjamnkaa
open Go.AM
theorem lowB_self (c : UInt8) : lowB c = some c ↔ wB c = true := by
 unfold lowB
 cases hu : upB c with
 | true =>
  have h1 : 65 ≤ c.toNat ∧ c.toNat ≤ 90 := by simpa [upB] using hu
  have hw : wB c = false := by
   have h2 : letB c = false := by simp [letB]; omega
   have h3 : digB c = false := by simp [digB]; omega
   have h4 : signs.contains c = false := by
    rw [signs_c]
    have : ∀ v : Int, v = 45 ∨ v = 95 ∨ v = 63 ∨ v = 58 ∨ v = 60 ∨ v = 62 ∨ v = 61 ∨ v = 43 ∨ v = 42 → ((c.toNat : Int) == v) = false := by
     intro v hv
     rw [beq_eq_false_iff_ne]
     omega
    simp [this]
   simp only [wB, h2, h3, h4, Bool.or_false]
  rw [hw]
  simp only [if_true, Option.some.injEq, Bool.false_eq_true, iff_false]
  intro e
  have := congrArg UInt8.toNat e
  rw [UInt8.toNat_add] at this
  simp at this
  omega
 | false =>
  simp only [Bool.false_eq_true, if_false]
  cases wB c <;> simp
theorem lowL_self : ∀ l : List UInt8, lowL l = some l ↔ l.all wB = true
 | [] => by simp [lowL]
 | c :: l => by
  have h1 := lowB_self c
  have h2 := lowL_self l
  simp only [lowL, List.all_cons, Bool.and_eq_true]
  cases hc : lowB c with
  | none => rw [hc] at h1; simp at h1 ⊢; intro hw; rw [h1] at hw; simp at hw
  | some d =>
   rw [hc] at h1
   cases hl : lowL l with
   | none => rw [hl] at h2; simp at h2 ⊢; intro _; simpa using h2
   | some p =>
    rw [hl] at h2
    simp only [Option.map_some, Option.some.injEq, List.cons.injEq]
    rw [← h1, ← h2]
    simp
theorem word_same (s : ByteArray) : wordB s = wordR s := by
 have hsl : s.data.toList.length = s.size := by rw [Array.length_toList]; try rfl
 have hself := lowL_self s.data.toList
 unfold wordB wordR lowS
 by_cases hc : 0 < s.size ∧ s.size ≤ 32
 ·rw [if_pos hc]
  have d1 : decide (1 ≤ s.size) = true := by simp; omega
  have d2 : decide (s.size ≤ 32) = true := by simp; omega
  rw [d1, d2]
  cases hl : lowL s.data.toList with
  | none =>
   rw [hl] at hself
   have : s.data.toList.all wB = false := by
    cases h : s.data.toList.all wB with
    | false => rfl
    | true => rw [h] at hself; simp at hself
   simp only [this, Bool.false_and]
  | some p =>
   rw [hl] at hself
   cases h : s.data.toList.all wB with
   | true =>
    rw [h] at hself
    have hp : p = s.data.toList := by simpa using hself
    subst hp
    have : (⟨s.data.toList.toArray⟩ : ByteArray) = s := ba_ext rfl
    simp only [this, bEq, beq_self_eq_true, Bool.true_and]
   | false =>
    rw [h] at hself
    have hp : ¬ p = s.data.toList := by simpa using hself
    have : bEq (⟨p.toArray⟩ : ByteArray) s = false := by simp only [bEq, beq_eq_false_iff_ne]; exact hp
    simp only [this, Bool.and_false, Bool.false_and]
 ·rw [if_neg hc]
  have : (decide (1 ≤ s.size) && decide (s.size ≤ 32)) = false := by
   cases h : (decide (1 ≤ s.size) && decide (s.size ≤ 32)) with
   | false => rfl
   | true =>
    simp only [Bool.and_eq_true, decide_eq_true_eq] at h
    exact absurd ⟨by omega, h.2⟩ hc
  simp only [Bool.false_and]
  rw [Bool.and_assoc (s.data.toList.all wB), this]; simp
mutual
theorem svalid_iff : ∀ (x : Sx) (d n : Nat), d ≤ 32 → n ≤ 4096 → ((svalid x d n).1 = true ↔ shapedS x = true ∧ d + x.depth ≤ 32 ∧ n + x.nodes ≤ 4096) ∧ ((svalid x d n).1 = true → (svalid x d n).2 = n + x.nodes)
 | .mk kind value line col text kids, d, n, hd, hn => by
  have e1 : (kids.isEmpty = true) ↔ kids = [] := List.isEmpty_iff
  unfold svalid shapedS
  simp only [Sx.depth, Sx.nodes]
  by_cases h0 : n + 1 > 4096
  ·rw [if_pos h0]
   refine ⟨⟨by simp, fun ⟨_, _, h⟩ => by omega⟩, by simp⟩
  ·rw [if_neg h0]
   by_cases k1 : kind = 1
   ·rw [if_pos k1, if_pos k1, word_same]
    have k3 : ¬ kind = 3 := by omega
    rw [if_neg k3]
    simp only [Bool.and_eq_true, e1, decide_eq_true_eq, beq_iff_eq]
    constructor
    ·constructor
     ·rintro ⟨⟨h1, h2⟩, rfl⟩
      exact ⟨⟨⟨h2, rfl⟩, h1⟩, by simp only [Sx.depths]; omega, by simp only [Sx.nodess]; omega⟩
     ·rintro ⟨⟨⟨h1, h2⟩, h3⟩, _⟩
      exact ⟨⟨h3, h1⟩, h2⟩
    ·rintro ⟨_, rfl⟩; simp [Sx.nodess]
   ·rw [if_neg k1, if_neg k1]
    by_cases k2 : kind = 2
    ·rw [if_pos k2, if_pos k2]
     have k3 : ¬ kind = 3 := by omega
     rw [if_neg k3]
     simp only [Bool.and_eq_true, e1, decide_eq_true_eq, bEq, ge_iff_le]
     constructor
     ·constructor
      ·rintro ⟨⟨⟨h1, rfl⟩, h3⟩, h4⟩
       exact ⟨⟨⟨⟨h1, rfl⟩, h3⟩, h4⟩, by simp only [Sx.depths]; omega, by simp only [Sx.nodess]; omega⟩
      ·rintro ⟨⟨⟨⟨h1, h2⟩, h3⟩, h4⟩, _⟩
       exact ⟨⟨⟨h1, h2⟩, h3⟩, h4⟩
     ·rintro ⟨⟨⟨_, rfl⟩, _⟩, _⟩; simp [Sx.nodess]
    ·rw [if_neg k2, if_neg k2]
     by_cases k3 : kind = 3
     ·rw [if_pos k3, if_pos k3, if_pos k3]
      simp only [Bool.and_eq_true, beq_iff_eq]
      by_cases hc : bEq text ⟨#[]⟩ = true ∧ value = 0 ∧ d ≠ 32
      ·rw [if_pos hc]
       obtain ⟨g1, g2⟩ := svalids_iff kids (d + 1) (n + 1) (by omega) (by omega)
       rw [g1]
       refine ⟨⟨fun ⟨h1, h2, h3⟩ => ⟨⟨h1, by simpa [bEq] using hc.1, hc.2.1⟩, by omega, by omega⟩, fun ⟨⟨h1, _, _⟩, h2, h3⟩ => ⟨h1, by omega, by omega⟩⟩, fun h => ?_⟩
       rw [g2 (g1.2 h)]; omega
      ·rw [if_neg hc]
       refine ⟨⟨by simp, fun ⟨⟨h1, h4, h5⟩, h2, h3⟩ => ?_⟩, by simp⟩
       exact absurd ⟨by simp only [bEq, beq_iff_eq]; exact h4, h5, by omega⟩ hc
     ·rw [if_neg k3, if_neg k3]
      simp
theorem svalids_iff : ∀ (l : List Sx) (d n : Nat), d ≤ 32 → n ≤ 4096 → ((svalids l d n).1 = true ↔ shapedSs l = true ∧ d + Sx.depths 0 l ≤ 32 ∧ n + Sx.nodess l ≤ 4096) ∧ ((svalids l d n).1 = true → (svalids l d n).2 = n + Sx.nodess l)
 | [], d, n, hd, hn => by simp [svalids, shapedSs, Sx.depths, Sx.nodess, hd, hn]
 | k :: ks, d, n, hd, hn => by
  obtain ⟨g1, g2⟩ := svalid_iff k d n hd hn
  have hdm : ∀ (m : Nat) (l : List Sx), Sx.depths m l = max m (Sx.depths 0 l) := by
   intro m l
   induction l generalizing m with
   | nil => simp [Sx.depths]
   | cons k l ih => simp only [Sx.depths]; rw [ih (max m k.depth), ih (max 0 k.depth)]; omega
  simp only [svalids, shapedSs, Sx.depths, Sx.nodess, Bool.and_eq_true]
  rw [hdm]
  cases hb : svalid k d n with
  | mk b n' =>
   rw [hb] at g1 g2
   cases b with
   | false =>
    simp only at g1 ⊢
    refine ⟨⟨by simp, fun ⟨⟨h1, _⟩, h2, h3⟩ => ?_⟩, by simp⟩
    exact absurd (g1.2 ⟨h1, by omega, by omega⟩) (by simp)
   | true =>
    simp only at g1 g2 ⊢
    obtain ⟨a1, a2, a3⟩ := g1.1 trivial
    have e := g2 trivial
    obtain ⟨f1, f2⟩ := svalids_iff ks d n' hd (by omega)
    rw [f1]
    refine ⟨⟨fun ⟨h1, h2, h3⟩ => ⟨⟨a1, h1⟩, by omega, by omega⟩, fun ⟨⟨_, h1⟩, h2, h3⟩ => ⟨h1, by omega, by omega⟩⟩, fun h => ?_⟩
    rw [f2 (f1.2 h)]; omega
end
end Go.Proofs.Ytjlkapgpjamnkaa
namespace Go.Proofs.Ytjlkapgpjamnkaa
open Go.AM
def opAtom : ByteArray := ⟨#[97, 116, 111, 109]⟩
def opSame : ByteArray := ⟨#[115, 97, 109, 101]⟩
def opAnd : ByteArray := ⟨#[97, 110, 100]⟩
def opOr : ByteArray := ⟨#[111, 114]⟩
def opNot : ByteArray := ⟨#[110, 111, 116]⟩
def opImp : ByteArray := ⟨#[105, 109, 112, 108, 121]⟩
def opAll : ByteArray := ⟨#[102, 111, 114, 97, 108, 108]⟩
def opSome : ByteArray := ⟨#[101, 120, 105, 115, 116, 115]⟩
def opEq : ByteArray := ⟨#[61]⟩
def opLt : ByteArray := ⟨#[60]⟩
def opLe : ByteArray := ⟨#[60, 61]⟩
def isCmp (op : ByteArray) : Bool := bEq op opLt || bEq op opLe || bEq op opEq
def isQ (op : ByteArray) : Bool := bEq op opAll || bEq op opSome
def zeroFm : Fm := .mk ⟨#[]⟩ ⟨#[]⟩ [] [] [] []
def shapeOf (op : ByteArray) (nk : Nat) : Option (Nat × Nat × Bool) :=
 if bEq op opAtom then some (0, 0, false)
 else if bEq op opSame then some (0, 0, false)
 else if bEq op opLt then some (2, 0, false)
 else if bEq op opLe then some (2, 0, false)
 else if bEq op opEq then some (2, 0, false)
 else if bEq op opAnd then some (0, nk, false)
 else if bEq op opOr then some (0, nk, false)
 else if bEq op opNot then some (0, 1, false)
 else if bEq op opImp then some (0, 2, false)
 else if bEq op opAll then some (0, 1, true)
 else if bEq op opSome then some (0, 1, true)
 else none
def termsOk (op name : ByteArray) (args : List ByteArray) : Bool :=
 if bEq op opAtom then nameB name && args.all termB
 else if bEq op opSame then emptyB name && decide (args.length = 2) && args.all termB
 else emptyB name && args.isEmpty
def pmOk (p : Pm) : Bool := varB p.name && typedB p.type
def partsOk (op name : ByteArray) (args : List ByteArray) (params : List Pm) (ne nk : Nat) : Bool :=
 match shapeOf op nk with
 | none => false
 | some (e, m, q) => termsOk op name args && decide (ne = e) && decide (nk = m) && (params.isEmpty || q) && params.all pmOk
def formedMs : List Ex → Nat → Nat → Bool × Nat
 | [], _, c => (true, c)
 | e :: l, d, c => match formedM e d c with
  | (true, c') => formedMs l d c'
  | (false, c') => (false, c')
mutual
def shapedM : Fm → Nat → Nat → Bool × Nat
 | .mk op name args params exprs kids, d, c =>
  if c + 1 ≤ 4096 ∧ d ≤ 32 then
   (if partsOk op name args params exprs.length kids.length = true then (match formedMs exprs (d + 1) (c + 1) with
    | (true, c') => shapedMs kids (d + 1) c'
    | (false, c') => (false, c')) else (false, c + 1))
  else (false, c + 1)
def shapedMs : List Fm → Nat → Nat → Bool × Nat
 | [], _, c => (true, c)
 | k :: l, d, c => match shapedM k d c with
  | (true, c') => shapedMs l d c'
  | (false, c') => (false, c')
end
mutual
def shapedF : Fm → Bool
 | .mk op name args params exprs kids => partsOk op name args params exprs.length kids.length && exprs.all shapedE && shapedFs kids
def shapedFs : List Fm → Bool
 | [] => true
 | k :: l => shapedF k && shapedFs l
end
theorem shapedFs_iff : ∀ {l : List Fm}, (shapedFs l = true ↔ ∀ k ∈ l, shapedF k = true)
 | [] => by simp [shapedFs]
 | k :: l => by simp [shapedFs, shapedFs_iff (l := l)]
mutual
def fmW : Fm → Sx
 | .mk op name args params exprs kids =>
  if bEq op opAtom then wordsM name args
  else if bEq op opSame then wordsM opEq args
  else if isCmp op = true then listM (wordM op :: exprs.map exW)
  else listM ((if (bEq op opAnd && kids.isEmpty) = true then [] else [wordM op]) ++ (if isQ op = true then [listM (paramsW params)] else []) ++ fmWs kids)
def fmWs : List Fm → List Sx
 | [] => []
 | k :: l => fmW k :: fmWs l
end
theorem fmWs_map : ∀ l : List Fm, fmWs l = l.map fmW
 | [] => rfl
 | k :: l => by simp [fmWs, fmWs_map l]
def validF (f : Fm) : Bool := (shapedM f 0 0).1 && (svalid (fmW f) 0 0).1
end Go.Proofs.Ytjlkapgpjamnkaa
namespace Go.Proofs.Ytjlkapgpjamnkaa
open Go.AM
def fin (r : Fm × Int) : Fm × Int := bif r.2 == 0 then r else (zeroFm, r.2)
end Go.Proofs.Ytjlkapgpjamnkaa
namespace Go.Proofs.Ytjlkapgpjamnkaa
open Go.AM
theorem partsOk_cases {op name : ByteArray} {args : List ByteArray} {params : List Pm} {ne nk : Nat} (h : partsOk op name args params ne nk = true) :
  (op = opAtom ∧ nameB name = true ∧ args.all termB = true ∧ params = [] ∧ ne = 0 ∧ nk = 0) ∨
  (op = opSame ∧ name = ⟨#[]⟩ ∧ args.length = 2 ∧ args.all termB = true ∧ params = [] ∧ ne = 0 ∧ nk = 0) ∨
  ((op = opLt ∨ op = opLe ∨ op = opEq) ∧ name = ⟨#[]⟩ ∧ args = [] ∧ params = [] ∧ ne = 2 ∧ nk = 0) ∨
  ((op = opAnd ∨ op = opOr ∨ (op = opNot ∧ nk = 1) ∨ (op = opImp ∧ nk = 2)) ∧ name = ⟨#[]⟩ ∧ args = [] ∧ params = [] ∧ ne = 0) ∨
  ((op = opAll ∨ op = opSome) ∧ name = ⟨#[]⟩ ∧ args = [] ∧ ne = 0 ∧ nk = 1 ∧ params.all pmOk = true) := by
 unfold partsOk shapeOf at h
 have t1 : ∀ o : ByteArray, bEq o opAtom = false → bEq o opSame = false → termsOk o name args = true → name = ⟨#[]⟩ ∧ args = [] := by
  intro o h1 h2 h3
  unfold termsOk at h3
  rw [h1, h2] at h3
  simp only [Bool.false_eq_true, if_false, Bool.and_eq_true, List.isEmpty_iff] at h3
  exact ⟨bEq_eq h3.1, h3.2⟩
 cases c1 : bEq op opAtom with
 | true =>
  have := bEq_eq c1
  subst this
  left
  simp [c1, termsOk, and_assoc] at h
  exact ⟨rfl, h.1, by simpa using h.2.1, h.2.2.2.2.1, h.2.2.1, h.2.2.2.1⟩
 | false =>
 cases c2 : bEq op opSame with
 | true =>
  have := bEq_eq c2
  subst this
  right; left
  simp [c1, c2, termsOk, and_assoc] at h
  obtain ⟨h1, h2, h3, h4, h5, h6, _⟩ := h
  exact ⟨rfl, bEq_eq h1, h2, by simpa using h3, h6, h4, h5⟩
 | false =>
  have t2 := t1 op c1 c2
  rw [c1, c2] at h
  simp only [Bool.false_eq_true, if_false] at h
  right; right
  by_cases c3 : bEq op opLt = true ∨ bEq op opLe = true ∨ bEq op opEq = true
  ·left
   have h' : termsOk op name args = true ∧ ne = 2 ∧ nk = 0 ∧ params = [] := by
    split at h
    ·simp at h
    ·rename_i e m q he
     have : (e, m, q) = (2, 0, false) := by
      rcases c3 with c | c | c
      ·simp [c] at he; simp [he]
      ·by_cases c0 : bEq op opLt = true
       ·simp [c0] at he; simp [he]
       ·simp [c0, c] at he; simp [he]
      ·by_cases c0 : bEq op opLt = true
       ·simp [c0] at he; simp [he]
       ·by_cases c00 : bEq op opLe = true
        ·simp [c0, c00] at he; simp [he]
        ·simp [c0, c00, c] at he; simp [he]
     simp at this
     obtain ⟨rfl, rfl, rfl⟩ := this
     simp [and_assoc] at h
     exact ⟨h.1, h.2.1, h.2.2.1, h.2.2.2.1⟩
   obtain ⟨g1, g2, g3, g4⟩ := h'
   obtain ⟨g5, g6⟩ := t2 g1
   exact ⟨c3.imp bEq_eq (fun c => c.imp bEq_eq bEq_eq), g5, g6, g4, g2, g3⟩
  ·simp only [not_or, Bool.not_eq_true] at c3
   rw [c3.1, c3.2.1, c3.2.2] at h
   simp only [Bool.false_eq_true, if_false] at h
   right
   cases c4 : bEq op opAnd with
   | true =>
    left
    simp [c4, and_assoc] at h
    exact ⟨.inl (bEq_eq c4), (t2 h.1).1, (t2 h.1).2, h.2.2.1, h.2.1⟩
   | false =>
   cases c5 : bEq op opOr with
   | true =>
    left
    simp [c4, c5, and_assoc] at h
    exact ⟨.inr (.inl (bEq_eq c5)), (t2 h.1).1, (t2 h.1).2, h.2.2.1, h.2.1⟩
   | false =>
   cases c6 : bEq op opNot with
   | true =>
    left
    simp [c4, c5, c6, and_assoc] at h
    exact ⟨.inr (.inr (.inl ⟨bEq_eq c6, h.2.2.1⟩)), (t2 h.1).1, (t2 h.1).2, h.2.2.2.1, h.2.1⟩
   | false =>
   cases c7 : bEq op opImp with
   | true =>
    left
    simp [c4, c5, c6, c7, and_assoc] at h
    exact ⟨.inr (.inr (.inr ⟨bEq_eq c7, h.2.2.1⟩)), (t2 h.1).1, (t2 h.1).2, h.2.2.2.1, h.2.1⟩
   | false =>
   cases c8 : bEq op opAll with
   | true =>
    right
    simp [c4, c5, c6, c7, c8, and_assoc] at h
    exact ⟨.inl (bEq_eq c8), (t2 h.1).1, (t2 h.1).2, h.2.1, h.2.2.1, by simpa using h.2.2.2⟩
   | false =>
   cases c9 : bEq op opSome with
   | true =>
    right
    simp [c4, c5, c6, c7, c8, c9, and_assoc] at h
    exact ⟨.inr (bEq_eq c9), (t2 h.1).1, (t2 h.1).2, h.2.1, h.2.2.1, by simpa using h.2.2.2⟩
   | false => simp [c4, c5, c6, c7, c8, c9] at h
theorem midB_low {c : UInt8} (h : midB c = true) : lowB c = some c := by
 have h45 : c.toNat = 45 → c = 45 := fun e => UInt8.toNat_inj.1 (by rw [e]; try rfl)
 have h95 : c.toNat = 95 → c = 95 := fun e => UInt8.toNat_inj.1 (by rw [e]; try rfl)
 have hu : upB c = false := by
  unfold midB letB at h
  unfold upB
  simp at h ⊢
  omega
 have hw : wB c = true := by
  unfold wB digB
  unfold midB at h
  simp only [Bool.or_eq_true] at h ⊢
  rcases h with ((h | h) | h) | h
  ·exact .inl (.inl h)
  ·exact .inl (.inr h)
  ·rw [h45 (by simpa using h)]; exact .inr (by decide)
  ·rw [h95 (by simpa using h)]; exact .inr (by decide)
 unfold lowB
 rw [hu, hw]; try rfl
theorem lowL_mid : ∀ {l : List UInt8}, l.all midB = true → lowL l = some l
 | [], _ => rfl
 | c :: l, h => by
  simp only [List.all_cons, Bool.and_eq_true] at h
  simp only [lowL, midB_low h.1, lowL_mid h.2, Option.map_some]
theorem bytesOk_mid {l : List UInt8} (h : bytesOkB l = true) : l.all midB = true := by
 cases l with
 | nil => rfl
 | cons c l =>
  simp only [bytesOkB, Bool.and_eq_true] at h
  simp only [List.all_cons, Bool.and_eq_true]
  exact ⟨letB_mid h.1, h.2⟩
theorem word_of {s : ByteArray} (h1 : 0 < s.size) (h2 : s.size ≤ 32) (h3 : lowL s.data.toList = some s.data.toList) (h4 : ∀ c l, s.data.toList = c :: l → digB c = false ∧ c ≠ 45) : wordB s = true := by
 have hl : lowS s = (s, true) := by
  unfold lowS
  rw [if_pos ⟨h1, h2⟩, h3]
 unfold wordB
 rw [hl]
 have hn : numB s = false := by
  have hsz : s.data.toList ≠ [] := by
   intro e
   have : s.data.toList.length = 0 := by rw [e]; try rfl
   rw [Array.length_toList] at this
   have : s.size = 0 := this
   omega
  unfold numB trimB
  cases he : s.data.toList with
  | nil => exact (hsz he).elim
  | cons c l =>
   obtain ⟨g1, g2⟩ := h4 c l he
   split
   ·rename_i e; simp at e; exact (g2 e.1).elim
   ·rw [he, List.all_cons, g1]; try rfl
 simp [hn, bEq]
theorem name_word {s : ByteArray} (h : nameB s = true) : wordB s = true := by
 unfold nameB at h
 simp only [Bool.and_eq_true, decide_eq_true_eq] at h
 obtain ⟨⟨⟨h1, h2⟩, h3⟩, _⟩ := h
 refine word_of h2 h3 (lowL_mid (bytesOk_mid h1)) ?_
 intro c l he
 rw [he] at h1
 simp only [bytesOkB, Bool.and_eq_true] at h1
 have h4 := h1.1
 unfold letB at h4
 simp at h4
 refine ⟨by unfold digB; simp; omega, fun e => ?_⟩
 subst e
 simp at h4
theorem var_word {s : ByteArray} (h : varB s = true) : wordB s = true ∧ bEq s opMin = false := by
 unfold varB at h
 simp only [Bool.and_eq_true, decide_eq_true_eq] at h
 obtain ⟨⟨⟨h1, h2⟩, h3⟩, h4⟩ := h
 cases he : s.data.toList with
 | nil => rw [he] at h3; simp at h3
 | cons c l =>
  rw [he] at h3
  simp at h3
  have hc : c = 63 := UInt8.toNat_inj.1 (by rw [h3]; try rfl)
  subst hc
  have hx : (s.extract 1 s.size).data.toList = l := by
   have : (s.extract 1 s.size).data.toList = (s.data.toList.take s.size).drop 1 := by
    simp [ByteArray.data_extract, List.drop_take]
   rw [this, List.take_of_length_le (by rw [Array.length_toList]; exact Nat.le_refl _), he]; rfl
  unfold nameB at h4
  simp only [Bool.and_eq_true] at h4
  have h5 := bytesOk_mid h4.1.1.1
  rw [hx] at h5
  refine ⟨word_of (by omega) h2 ?_ ?_, ?_⟩
  ·rw [he]
   simp only [lowL, lowL_mid h5]
   rfl
  ·intro d m hd
   rw [he] at hd
   simp at hd
   rw [← hd.1]
   exact ⟨by decide, by decide⟩
  ·unfold bEq
   rw [he]
   simp [opMin]
end Go.Proofs.Ytjlkapgpjamnkaa
namespace Go.Proofs.Ytjlkapgpjamnkaa
open Go.AM
def opOf : Fm → ByteArray
 | .mk op _ _ _ _ _ => op
def fkids : Fm → List Fm
 | .mk _ _ _ _ _ kids => kids
def flatM (op : ByteArray) (l : List Fm) : List Fm := l.flatMap fun n => if bEq (opOf n) op = true then fkids n else [n]
def combM (op : ByteArray) (l : List Fm) : Fm := .mk op ⟨#[]⟩ [] [] [] (flatM op l)
def cmpM (op : ByteArray) (a b : Ex) : Fm := .mk op ⟨#[]⟩ [] [] [a, b] []
def dualM (a b : ByteArray) (s : Bool) : ByteArray := if s = true then a else b
def cmpN (o1 o2 : ByteArray) (s : Bool) : List Ex → Fm
 | [a, b] => if s = true then cmpM o1 a b else cmpM o2 b a
 | _ => zeroFm
def eqN (s : Bool) : List Ex → Fm
 | [a, b] => if s = true then cmpM opEq a b else .mk opOr ⟨#[]⟩ [] [] [] [cmpM opLt a b, cmpM opLt b a]
 | _ => zeroFm
def normTop (op name : ByteArray) (args : List ByteArray) (params : List Pm) (exprs : List Ex) (kids p q : List Fm) (s : Bool) : Fm :=
 if bEq op opNot = true then q.headD zeroFm
 else if bEq op opImp = true then combM (dualM opOr opAnd s) [q.headD zeroFm, (p.drop 1).headD zeroFm]
 else if bEq op opAnd = true then combM (dualM opAnd opOr s) p
 else if bEq op opOr = true then combM (dualM opOr opAnd s) p
 else if bEq op opAll = true then .mk (dualM opAll opSome s) ⟨#[]⟩ [] params [] [p.headD zeroFm]
 else if bEq op opSome = true then .mk (dualM opSome opAll s) ⟨#[]⟩ [] params [] [p.headD zeroFm]
 else if bEq op opLt = true then cmpN opLt opLe s exprs
 else if bEq op opLe = true then cmpN opLe opLt s exprs
 else if bEq op opEq = true then eqN s exprs
 else if s = true then .mk op name args params exprs kids else .mk opNot ⟨#[]⟩ [] [] [] [.mk op name args params exprs kids]
mutual
def normalM : Fm → Bool → Fm
 | .mk op name args params exprs kids, s => normTop op name args params exprs kids (normalMs kids s) (normalMs kids (!s)) s
def normalMs : List Fm → Bool → List Fm
 | [], _ => []
 | k :: l, s => normalM k s :: normalMs l s
end
theorem normalMs_map (s : Bool) : ∀ l : List Fm, normalMs l s = l.map (normalM · s)
 | [] => rfl
 | k :: l => by simp [normalMs, normalMs_map s l]
mutual
def nnfB : Fm → Bool
 | .mk op _ _ _ _ kids => !bEq op opImp && (!bEq op opNot || (match kids with
   | [.mk o _ _ _ _ _] => bEq o opAtom || bEq o opSame
   | _ => false)) && nnfBs op kids
def nnfBs (op : ByteArray) : List Fm → Bool
 | [] => true
 | k :: l => nnfB k && !(bEq (opOf k) op && (bEq op opAnd || bEq op opOr)) && nnfBs op l
end
theorem nnfBs_iff (op : ByteArray) : ∀ {l : List Fm}, (nnfBs op l = true ↔ ∀ k ∈ l, nnfB k = true ∧ ¬ (bEq (opOf k) op = true ∧ (bEq op opAnd = true ∨ bEq op opOr = true)))
 | [] => by simp [nnfBs]
 | k :: l => by
  simp only [nnfBs, Bool.and_eq_true, List.forall_mem_cons, nnfBs_iff op (l := l)]
  cases bEq (opOf k) op <;> cases bEq op opAnd <;> cases bEq op opOr <;> simp
section
variable {name : ByteArray} {args : List ByteArray} {params : List Pm} {exprs : List Ex} {kids p q : List Fm} {s : Bool}
theorem nt_atom : normTop opAtom name args params exprs kids p q s = if s = true then .mk opAtom name args params exprs kids else .mk opNot ⟨#[]⟩ [] [] [] [.mk opAtom name args params exprs kids] := rfl
theorem nt_same : normTop opSame name args params exprs kids p q s = if s = true then .mk opSame name args params exprs kids else .mk opNot ⟨#[]⟩ [] [] [] [.mk opSame name args params exprs kids] := rfl
theorem nt_lt : normTop opLt name args params exprs kids p q s = cmpN opLt opLe s exprs := rfl
theorem nt_le : normTop opLe name args params exprs kids p q s = cmpN opLe opLt s exprs := rfl
theorem nt_eq : normTop opEq name args params exprs kids p q s = eqN s exprs := rfl
theorem nt_and : normTop opAnd name args params exprs kids p q s = combM (dualM opAnd opOr s) p := rfl
theorem nt_or : normTop opOr name args params exprs kids p q s = combM (dualM opOr opAnd s) p := rfl
theorem nt_not : normTop opNot name args params exprs kids p q s = q.headD zeroFm := rfl
theorem nt_imp : normTop opImp name args params exprs kids p q s = combM (dualM opOr opAnd s) [q.headD zeroFm, (p.drop 1).headD zeroFm] := rfl
theorem nt_all : normTop opAll name args params exprs kids p q s = .mk (dualM opAll opSome s) ⟨#[]⟩ [] params [] [p.headD zeroFm] := rfl
theorem nt_some : normTop opSome name args params exprs kids p q s = .mk (dualM opSome opAll s) ⟨#[]⟩ [] params [] [p.headD zeroFm] := rfl
end
theorem po_and (n : Nat) : partsOk opAnd ⟨#[]⟩ [] [] 0 n = true := by simp [partsOk, show shapeOf opAnd n = some (0, n, false) from rfl, show termsOk opAnd ⟨#[]⟩ [] = true from rfl]
theorem po_or (n : Nat) : partsOk opOr ⟨#[]⟩ [] [] 0 n = true := by simp [partsOk, show shapeOf opOr n = some (0, n, false) from rfl, show termsOk opOr ⟨#[]⟩ [] = true from rfl]
theorem po_not : partsOk opNot ⟨#[]⟩ [] [] 0 1 = true := rfl
theorem po_lt : partsOk opLt ⟨#[]⟩ [] [] 2 0 = true := rfl
theorem po_le : partsOk opLe ⟨#[]⟩ [] [] 2 0 = true := rfl
theorem po_eq : partsOk opEq ⟨#[]⟩ [] [] 2 0 = true := rfl
theorem po_all {params : List Pm} (h : params.all pmOk = true) : partsOk opAll ⟨#[]⟩ [] params 0 1 = true := by simp [partsOk, show shapeOf opAll 1 = some (0, 1, true) from rfl, show termsOk opAll ⟨#[]⟩ [] = true from rfl, h]
theorem po_some {params : List Pm} (h : params.all pmOk = true) : partsOk opSome ⟨#[]⟩ [] params 0 1 = true := by simp [partsOk, show shapeOf opSome 1 = some (0, 1, true) from rfl, show termsOk opSome ⟨#[]⟩ [] = true from rfl, h]
theorem sf_mk {op name : ByteArray} {args : List ByteArray} {params : List Pm} {exprs : List Ex} {kids : List Fm} (h1 : partsOk op name args params exprs.length kids.length = true) (h2 : ∀ e ∈ exprs, shapedE e = true) (h3 : ∀ k ∈ kids, shapedF k = true) : shapedF (.mk op name args params exprs kids) = true := by
 simp only [shapedF, Bool.and_eq_true, List.all_eq_true]
 exact ⟨⟨h1, h2⟩, shapedFs_iff.2 h3⟩
theorem sf_kids {f : Fm} (h : shapedF f = true) : ∀ k ∈ fkids f, shapedF k = true := by
 obtain ⟨op, name, args, params, exprs, kids⟩ := f
 simp only [shapedF, Bool.and_eq_true] at h
 exact shapedFs_iff.1 h.2
theorem flatM_mem {op : ByteArray} {l : List Fm} {k : Fm} (h : k ∈ flatM op l) : (∃ n ∈ l, bEq (opOf n) op = true ∧ k ∈ fkids n) ∨ (k ∈ l ∧ ¬ bEq (opOf k) op = true) := by
 simp only [flatM, List.mem_flatMap] at h
 obtain ⟨n, hn, hk⟩ := h
 split at hk
 ·rename_i he; exact .inl ⟨n, hn, he, hk⟩
 ·rename_i he; simp only [List.mem_singleton] at hk; subst hk; exact .inr ⟨hn, he⟩
theorem sf_comb {a b : ByteArray} {s : Bool} {l : List Fm} (hab : (a = opAnd ∧ b = opOr) ∨ (a = opOr ∧ b = opAnd)) (h : ∀ k ∈ l, shapedF k = true) : shapedF (combM (dualM a b s) l) = true := by
 have hk : ∀ o, ∀ k ∈ flatM o l, shapedF k = true := fun o k hk => by
  rcases flatM_mem hk with ⟨n, hn, _, hkn⟩ | ⟨hkl, _⟩
  ·exact sf_kids (h n hn) k hkn
  ·exact h k hkl
 have h1 : ∀ o, (o = opAnd ∨ o = opOr) → shapedF (combM o l) = true := fun o ho => by
  refine sf_mk ?_ (by simp) (hk o)
  rcases ho with rfl | rfl
  ·exact po_and _
  ·exact po_or _
 cases s <;> simp only [dualM, if_true, Bool.false_eq_true, if_false]
 ·exact h1 b (hab.elim (fun h => .inr h.2) fun h => .inl h.2)
 ·exact h1 a (hab.elim (fun h => .inl h.1) fun h => .inr h.1)
theorem sf_cases {C : Fm → Prop} (f : Fm) (hf : shapedF f = true)
  (h1 : ∀ name args, nameB name = true → args.all termB = true → C (.mk opAtom name args [] [] []))
  (h2 : ∀ args, args.length = 2 → args.all termB = true → C (.mk opSame ⟨#[]⟩ args [] [] []))
  (h3 : ∀ op a b, (op = opLt ∨ op = opLe ∨ op = opEq) → shapedE a = true → shapedE b = true → C (.mk op ⟨#[]⟩ [] [] [a, b] []))
  (h4 : ∀ op kids, (op = opAnd ∨ op = opOr) → (∀ k ∈ kids, shapedF k = true) → C (.mk op ⟨#[]⟩ [] [] [] kids))
  (h5 : ∀ k, shapedF k = true → C (.mk opNot ⟨#[]⟩ [] [] [] [k]))
  (h6 : ∀ a b, shapedF a = true → shapedF b = true → C (.mk opImp ⟨#[]⟩ [] [] [] [a, b]))
  (h7 : ∀ op params k, (op = opAll ∨ op = opSome) → params.all pmOk = true → shapedF k = true → C (.mk op ⟨#[]⟩ [] params [] [k])) : C f := by
 obtain ⟨op, name, args, params, exprs, kids⟩ := f
 simp only [shapedF, Bool.and_eq_true, List.all_eq_true] at hf
 obtain ⟨⟨hp, he⟩, hk⟩ := hf
 rw [shapedFs_iff] at hk
 rcases partsOk_cases hp with ⟨rfl, a1, a2, rfl, a3, a4⟩ | ⟨rfl, rfl, a1, a2, rfl, a3, a4⟩ | ⟨a1, rfl, rfl, rfl, a3, a4⟩ | ⟨a1, rfl, rfl, rfl, a3⟩ | ⟨a1, rfl, rfl, a3, a4, a5⟩
 ·obtain rfl := List.eq_nil_of_length_eq_zero a3
  obtain rfl := List.eq_nil_of_length_eq_zero a4
  exact h1 _ _ a1 a2
 ·obtain rfl := List.eq_nil_of_length_eq_zero a3
  obtain rfl := List.eq_nil_of_length_eq_zero a4
  exact h2 _ a1 a2
 ·obtain rfl := List.eq_nil_of_length_eq_zero a4
  match exprs, a3, he with
  | [a, b], _, he => exact h3 _ _ _ a1 (he a (by simp)) (he b (by simp))
 ·obtain rfl := List.eq_nil_of_length_eq_zero a3
  rcases a1 with rfl | rfl | ⟨rfl, a4⟩ | ⟨rfl, a4⟩
  ·exact h4 _ _ (.inl rfl) hk
  ·exact h4 _ _ (.inr rfl) hk
  ·match kids, a4, hk with
   | [k], _, hk => exact h5 _ (hk k (by simp))
  ·match kids, a4, hk with
   | [a, b], _, hk => exact h6 _ _ (hk a (by simp)) (hk b (by simp))
 ·obtain rfl := List.eq_nil_of_length_eq_zero a3
  match kids, a4, hk with
  | [k], _, hk => exact h7 _ _ _ a1 a5 (hk k (by simp))
theorem sf_ind {C : Fm → Prop}
  (h1 : ∀ name args, nameB name = true → args.all termB = true → C (.mk opAtom name args [] [] []))
  (h2 : ∀ args, args.length = 2 → args.all termB = true → C (.mk opSame ⟨#[]⟩ args [] [] []))
  (h3 : ∀ op a b, (op = opLt ∨ op = opLe ∨ op = opEq) → shapedE a = true → shapedE b = true → C (.mk op ⟨#[]⟩ [] [] [a, b] []))
  (h4 : ∀ op kids, (op = opAnd ∨ op = opOr) → (∀ k ∈ kids, shapedF k = true) → (∀ k ∈ kids, C k) → C (.mk op ⟨#[]⟩ [] [] [] kids))
  (h5 : ∀ k, shapedF k = true → C k → C (.mk opNot ⟨#[]⟩ [] [] [] [k]))
  (h6 : ∀ a b, shapedF a = true → shapedF b = true → C a → C b → C (.mk opImp ⟨#[]⟩ [] [] [] [a, b]))
  (h7 : ∀ op params k, (op = opAll ∨ op = opSome) → params.all pmOk = true → shapedF k = true → C k → C (.mk op ⟨#[]⟩ [] params [] [k])) : ∀ f, shapedF f = true → C f := by
 refine Fm.ind (C := fun f => shapedF f = true → C f) ?_
 intro op name args params exprs kids ih hf
 refine sf_cases (C := fun f => (∀ k ∈ fkids f, shapedF k = true → C k) → C f) _ hf (fun a b c d _ => h1 a b c d) (fun a b c _ => h2 a b c) (fun a b c d e f _ => h3 a b c d e f) (fun a b c d ih => h4 a b c d fun k hk => ih k hk (d k hk)) (fun k hk ih => h5 k hk (ih k (by simp [fkids]) hk)) (fun a b ha hb ih => h6 a b ha hb (ih a (by simp [fkids]) ha) (ih b (by simp [fkids]) hb)) (fun op ps k a b c ih => h7 op ps k a b c (ih k (by simp [fkids]) c)) ?_
 exact ih
theorem normalM_shaped : ∀ f, shapedF f = true → ∀ s, shapedF (normalM f s) = true := by
 refine sf_ind ?_ ?_ ?_ ?_ ?_ ?_ ?_
 ·intro name args h1 h2 s
  have hb : shapedF (.mk opAtom name args [] [] []) = true := sf_mk (by simp [partsOk, show shapeOf opAtom 0 = some (0, 0, false) from rfl, show termsOk opAtom name args = (nameB name && args.all termB) from rfl, h1, h2]) (by simp) (by simp)
  simp only [normalM, nt_atom]
  split
  ·exact hb
  ·exact sf_mk po_not (by simp) (by simpa using hb)
 ·intro args h1 h2 s
  have hb : shapedF (.mk opSame ⟨#[]⟩ args [] [] []) = true := sf_mk (by simp [partsOk, show shapeOf opSame 0 = some (0, 0, false) from rfl, show termsOk opSame ⟨#[]⟩ args = (emptyB ⟨#[]⟩ && decide (args.length = 2) && args.all termB) from rfl, h1, h2, show emptyB ⟨#[]⟩ = true from rfl]) (by simp) (by simp)
  simp only [normalM, nt_same]
  split
  ·exact hb
  ·exact sf_mk po_not (by simp) (by simpa using hb)
 ·intro op a b ho ha hb s
  have hc : ∀ o, partsOk o ⟨#[]⟩ [] [] 2 0 = true → ∀ x y, shapedE x = true → shapedE y = true → shapedF (cmpM o x y) = true := fun o h x y hx hy => sf_mk h (by simp [hx, hy]) (by simp)
  rcases ho with rfl | rfl | rfl
  ·simp only [normalM, nt_lt, cmpN]
   split
   ·exact hc _ po_lt _ _ ha hb
   ·exact hc _ po_le _ _ hb ha
  ·simp only [normalM, nt_le, cmpN]
   split
   ·exact hc _ po_le _ _ ha hb
   ·exact hc _ po_lt _ _ hb ha
  ·simp only [normalM, nt_eq, eqN]
   split
   ·exact hc _ po_eq _ _ ha hb
   ·exact sf_mk (po_or 2) (by simp) (by simp [hc _ po_lt _ _ ha hb, hc _ po_lt _ _ hb ha])
 ·intro op kids ho hk ih s
  have hl : ∀ k ∈ normalMs kids s, shapedF k = true := by rw [normalMs_map]; intro k h; obtain ⟨x, hx, rfl⟩ := List.mem_map.1 h; exact ih x hx s
  rcases ho with rfl | rfl
  ·simp only [normalM, nt_and]; exact sf_comb (.inl ⟨rfl, rfl⟩) hl
  ·simp only [normalM, nt_or]; exact sf_comb (.inr ⟨rfl, rfl⟩) hl
 ·intro k hk ih s
  simp only [normalM, nt_not, normalMs, List.headD_cons]
  exact ih _
 ·intro a b ha hb iha ihb s
  simp only [normalM, nt_imp, normalMs, List.headD_cons, List.drop_succ_cons, List.drop_zero]
  exact sf_comb (.inr ⟨rfl, rfl⟩) (by simp [iha, ihb])
 ·intro op params k ho hp hk ih s
  rcases ho with rfl | rfl
  ·simp only [normalM, nt_all, normalMs, List.headD_cons]
   cases s <;> simp only [dualM, if_true, Bool.false_eq_true, if_false]
   ·exact sf_mk (po_some hp) (by simp) (by simp [ih])
   ·exact sf_mk (po_all hp) (by simp) (by simp [ih])
  ·simp only [normalM, nt_some, normalMs, List.headD_cons]
   cases s <;> simp only [dualM, if_true, Bool.false_eq_true, if_false]
   ·exact sf_mk (po_all hp) (by simp) (by simp [ih])
   ·exact sf_mk (po_some hp) (by simp) (by simp [ih])
theorem nnf_kids {f : Fm} (h : nnfB f = true) : ∀ k ∈ fkids f, nnfB k = true ∧ ¬ (bEq (opOf k) (opOf f) = true ∧ (bEq (opOf f) opAnd = true ∨ bEq (opOf f) opOr = true)) := by
 obtain ⟨op, name, args, params, exprs, kids⟩ := f
 simp only [nnfB, Bool.and_eq_true] at h
 exact (nnfBs_iff op).1 h.2
theorem nnf_mk {op name : ByteArray} {args : List ByteArray} {params : List Pm} {exprs : List Ex} {kids : List Fm} (h1 : bEq op opImp = false) (h2 : bEq op opNot = false) (h3 : ∀ k ∈ kids, nnfB k = true ∧ ¬ (bEq (opOf k) op = true ∧ (bEq op opAnd = true ∨ bEq op opOr = true))) : nnfB (.mk op name args params exprs kids) = true := by
 simp only [nnfB, h1, h2, Bool.not_false, Bool.true_or, Bool.true_and]
 exact (nnfBs_iff op).2 h3
theorem nnf_comb {o : ByteArray} {l : List Fm} (ho : o = opAnd ∨ o = opOr) (h : ∀ k ∈ l, nnfB k = true) : nnfB (combM o l) = true := by
 have hk : ∀ k ∈ flatM o l, nnfB k = true ∧ ¬ (bEq (opOf k) o = true ∧ (bEq o opAnd = true ∨ bEq o opOr = true)) := by
  intro k hk
  rcases flatM_mem hk with ⟨n, hn, he, hkn⟩ | ⟨hkl, hne⟩
  ·have := nnf_kids (h n hn) k hkn
   rw [bEq_eq he] at this
   exact this
  ·exact ⟨h k hkl, fun hh => hne hh.1⟩
 rcases ho with rfl | rfl
 ·exact nnf_mk rfl rfl hk
 ·exact nnf_mk rfl rfl hk
theorem normalM_nnf : ∀ f, shapedF f = true → ∀ s, nnfB (normalM f s) = true := by
 have lits : ∀ g : Fm, (opOf g = opAtom ∨ opOf g = opSame) → nnfB g = true → nnfB (.mk opNot ⟨#[]⟩ [] [] [] [g]) = true := by
  intro g ho hg
  obtain ⟨op, name, args, params, exprs, kids⟩ := g
  simp only [opOf] at ho
  have : nnfBs opNot [.mk op name args params exprs kids] = true := (nnfBs_iff _).2 (by
   intro k hk; simp only [List.mem_singleton] at hk; subst hk
   exact ⟨hg, fun hh => hh.2.elim (fun e => by cases (show bEq opNot opAnd = false from rfl) ▸ e) (fun e => by cases (show bEq opNot opOr = false from rfl) ▸ e)⟩)
  unfold nnfB
  rw [this]
  rcases ho with rfl | rfl <;> rfl
 refine sf_ind ?_ ?_ ?_ ?_ ?_ ?_ ?_
 ·intro name args h1 h2 s
  have hb : nnfB (.mk opAtom name args [] [] []) = true := nnf_mk rfl rfl (by simp)
  simp only [normalM, nt_atom]
  split
  ·exact hb
  ·exact lits _ (.inl rfl) hb
 ·intro args h1 h2 s
  have hb : nnfB (.mk opSame ⟨#[]⟩ args [] [] []) = true := nnf_mk rfl rfl (by simp)
  simp only [normalM, nt_same]
  split
  ·exact hb
  ·exact lits _ (.inr rfl) hb
 ·intro op a b ho ha hb s
  rcases ho with rfl | rfl | rfl
  ·simp only [normalM, nt_lt, cmpN]
   split <;> exact nnf_mk rfl rfl (by simp)
  ·simp only [normalM, nt_le, cmpN]
   split <;> exact nnf_mk rfl rfl (by simp)
  ·simp only [normalM, nt_eq, eqN]
   split
   ·exact nnf_mk rfl rfl (by simp)
   ·refine nnf_mk rfl rfl ?_
    have hc : ∀ x y, nnfB (cmpM opLt x y) = true := fun x y => nnf_mk rfl rfl (by simp)
    have hn : ∀ x y, ¬ (bEq (opOf (cmpM opLt x y)) opOr = true ∧ (bEq opOr opAnd = true ∨ bEq opOr opOr = true)) := fun x y hh => by cases (show bEq opLt opOr = false from rfl) ▸ (show bEq opLt opOr = true from hh.1)
    intro k hk
    simp only [List.mem_cons, List.not_mem_nil, or_false] at hk
    rcases hk with rfl | rfl
    ·exact ⟨hc _ _, hn _ _⟩
    ·exact ⟨hc _ _, hn _ _⟩
 ·intro op kids ho hk ih s
  have hl : ∀ k ∈ normalMs kids s, nnfB k = true := by rw [normalMs_map]; intro k h; obtain ⟨x, hx, rfl⟩ := List.mem_map.1 h; exact ih x hx s
  rcases ho with rfl | rfl
  ·simp only [normalM, nt_and]; cases s
   ·exact nnf_comb (.inr rfl) hl
   ·exact nnf_comb (.inl rfl) hl
  ·simp only [normalM, nt_or]; cases s
   ·exact nnf_comb (.inl rfl) hl
   ·exact nnf_comb (.inr rfl) hl
 ·intro k hk ih s
  simp only [normalM, nt_not, normalMs, List.headD_cons]
  exact ih _
 ·intro a b ha hb iha ihb s
  simp only [normalM, nt_imp, normalMs, List.headD_cons, List.drop_succ_cons, List.drop_zero]
  cases s
  ·exact nnf_comb (.inl rfl) (by simp [iha, ihb])
  ·exact nnf_comb (.inr rfl) (by simp [iha, ihb])
 ·intro op params k ho hp hk ih s
  rcases ho with rfl | rfl
  ·simp only [normalM, nt_all, normalMs, List.headD_cons]
   cases s
   ·refine nnf_mk rfl rfl ?_
    intro x hx; simp only [List.mem_singleton] at hx; subst hx
    exact ⟨ih _, fun hh => hh.2.elim (fun e => by cases e) (fun e => by cases e)⟩
   ·refine nnf_mk rfl rfl ?_
    intro x hx; simp only [List.mem_singleton] at hx; subst hx
    exact ⟨ih _, fun hh => hh.2.elim (fun e => by cases e) (fun e => by cases e)⟩
  ·simp only [normalM, nt_some, normalMs, List.headD_cons]
   cases s
   ·refine nnf_mk rfl rfl ?_
    intro x hx; simp only [List.mem_singleton] at hx; subst hx
    exact ⟨ih _, fun hh => hh.2.elim (fun e => by cases e) (fun e => by cases e)⟩
   ·refine nnf_mk rfl rfl ?_
    intro x hx; simp only [List.mem_singleton] at hx; subst hx
    exact ⟨ih _, fun hh => hh.2.elim (fun e => by cases e) (fun e => by cases e)⟩
theorem flatM_id {o : ByteArray} : ∀ {l : List Fm}, (∀ k ∈ l, ¬ bEq (opOf k) o = true) → flatM o l = l
 | [], _ => rfl
 | k :: l, h => by
  have h1 := h k (by simp)
  have h2 := flatM_id (l := l) fun q hq => h q (by simp [hq])
  simp only [flatM, List.flatMap_cons] at h2 ⊢
  rw [if_neg h1, h2]; try rfl
theorem map_id_of {l : List Fm} {g : Fm → Fm} (h : ∀ k ∈ l, g k = k) : l.map g = l := by
 induction l with
 | nil => rfl
 | cons k l ih => simp only [List.map_cons, h k (by simp), ih fun q hq => h q (by simp [hq])]
theorem normalM_id : ∀ f, shapedF f = true → nnfB f = true → normalM f true = f := by
 refine sf_ind ?_ ?_ ?_ ?_ ?_ ?_ ?_
 ·intro name args _ _ _
  rfl
 ·intro args _ _ _
  rfl
 ·intro op a b ho _ _ _
  rcases ho with rfl | rfl | rfl <;> rfl
 ·intro op kids ho hk ih hn
  have hq := nnf_kids hn
  simp only [fkids, opOf] at hq
  have hm : normalMs kids true = kids := by rw [normalMs_map]; exact map_id_of fun k hk => ih k hk (hq k hk).1
  rcases ho with rfl | rfl
  ·simp only [normalM, nt_and, hm]
   show combM opAnd kids = _
   rw [combM, flatM_id fun k hk hh => (hq k hk).2 ⟨hh, .inl rfl⟩]
  ·simp only [normalM, nt_or, hm]
   show combM opOr kids = _
   rw [combM, flatM_id fun k hk hh => (hq k hk).2 ⟨hh, .inr rfl⟩]
 ·intro k hk _ hn
  obtain ⟨op, name, args, params, exprs, kids⟩ := k
  have hl : bEq op opAtom = true ∨ bEq op opSame = true := by
   unfold nnfB at hn
   simp only [Bool.and_eq_true, Bool.or_eq_true] at hn
   rcases hn.1.2 with h | h
   ·cases h
   ·exact h
  simp only [normalM, nt_not, normalMs, List.headD_cons]
  rcases hl with h | h
  ·rw [bEq_eq h]; try rfl
  ·rw [bEq_eq h]; try rfl
 ·intro a b _ _ _ _ hn
  unfold nnfB at hn
  simp only [Bool.and_eq_true] at hn
  cases hn.1.1
 ·intro op params k ho _ _ ih hn
  have hq := nnf_kids hn k (by simp [fkids])
  have := ih hq.1
  rcases ho with rfl | rfl
  ·simp only [normalM, nt_all, normalMs, List.headD_cons, this]; rfl
  ·simp only [normalM, nt_some, normalMs, List.headD_cons, this]; rfl
end Go.Proofs.Ytjlkapgpjamnkaa
namespace Go.AM
mutual
def Ex.occ (v : ByteArray → Bool) (s : ByteArray) : Ex → Prop
 | .mk _ _ _ args kids => (s ∈ args ∧ v s = true) ∨ Ex.occs v s kids
def Ex.occs (v : ByteArray → Bool) (s : ByteArray) : List Ex → Prop
 | [] => False
 | k :: l => k.occ v s ∨ Ex.occs v s l
end
theorem Ex.occs_iff {v : ByteArray → Bool} {s : ByteArray} : ∀ {l : List Ex}, (Ex.occs v s l ↔ ∃ e ∈ l, e.occ v s)
 | [] => by simp [Ex.occs]
 | k :: l => by simp [Ex.occs, Ex.occs_iff (l := l)]
mutual
def Fm.occ (v : ByteArray → Bool) (s : ByteArray) : Fm → Prop
 | .mk _ _ args params exprs kids => (s ∈ args ∧ v s = true) ∨ Ex.occs v s exprs ∨ (Fm.occs v s kids ∧ s ∉ params.map Pm.name)
def Fm.occs (v : ByteArray → Bool) (s : ByteArray) : List Fm → Prop
 | [] => False
 | k :: l => k.occ v s ∨ Fm.occs v s l
end
theorem Fm.occs_iff {v : ByteArray → Bool} {s : ByteArray} : ∀ {l : List Fm}, (Fm.occs v s l ↔ ∃ k ∈ l, k.occ v s)
 | [] => by simp [Fm.occs]
 | k :: l => by simp [Fm.occs, Fm.occs_iff (l := l)]
end Go.AM
namespace Go.Proofs.Ytjlkapgpjamnkaa
open Go.AM
section
variable {v : ByteArray → Bool} {x : ByteArray}
theorem occ_plain {op name : ByteArray} {l : List Fm} : (Fm.mk op name [] [] [] l).occ v x ↔ ∃ k ∈ l, k.occ v x := by simp [Fm.occ, Ex.occs, Fm.occs_iff]
theorem occ_flat {o : ByteArray} (ho : o = opAnd ∨ o = opOr) {l : List Fm} (h : ∀ k ∈ l, shapedF k = true) : (combM o l).occ v x ↔ ∃ k ∈ l, k.occ v x := by
 have sub : ∀ n, shapedF n = true → bEq (opOf n) o = true → (n.occ v x ↔ ∃ k ∈ fkids n, k.occ v x) := by
  intro n hn he
  have he := bEq_eq he
  refine sf_cases (C := fun n => opOf n = o → (n.occ v x ↔ ∃ k ∈ fkids n, k.occ v x)) n hn ?_ ?_ ?_ ?_ ?_ ?_ ?_ he
  ·intro _ _ _ _ e; rcases ho with rfl | rfl <;> cases e
  ·intro _ _ _ e; rcases ho with rfl | rfl <;> cases e
  ·intro op a b hop _ _ e; simp only [opOf] at e; subst e; rcases ho with rfl | rfl <;> rcases hop with h | h | h <;> cases h
  ·intro op kids _ _ _; simp only [fkids]; exact occ_plain
  ·intro _ _ e; rcases ho with rfl | rfl <;> cases e
  ·intro _ _ _ _ e; rcases ho with rfl | rfl <;> cases e
  ·intro op _ _ hop _ _ e; simp only [opOf] at e; subst e; rcases ho with rfl | rfl <;> rcases hop with h | h <;> cases h
 unfold combM
 rw [occ_plain]
 constructor
 ·rintro ⟨k, hk, hx⟩
  rcases flatM_mem hk with ⟨n, hn, he, hkn⟩ | ⟨hkl, _⟩
  ·exact ⟨n, hn, (sub n (h n hn) he).2 ⟨k, hkn, hx⟩⟩
  ·exact ⟨k, hkl, hx⟩
 ·rintro ⟨n, hn, hx⟩
  by_cases he : bEq (opOf n) o = true
  ·obtain ⟨k, hk, hkx⟩ := (sub n (h n hn) he).1 hx
   refine ⟨k, ?_, hkx⟩
   simp only [flatM, List.mem_flatMap]
   exact ⟨n, hn, by rw [if_pos he]; exact hk⟩
  ·refine ⟨n, ?_, hx⟩
   simp only [flatM, List.mem_flatMap]
   exact ⟨n, hn, by rw [if_neg he]; simp⟩
theorem normalM_occ : ∀ f, shapedF f = true → ∀ s, ((normalM f s).occ v x ↔ f.occ v x) := by
 refine sf_ind ?_ ?_ ?_ ?_ ?_ ?_ ?_
 ·intro name args _ _ s
  simp only [normalM, nt_atom]
  split
  ·exact Iff.rfl
  ·rw [occ_plain]; simp
 ·intro args _ _ s
  simp only [normalM, nt_same]
  split
  ·exact Iff.rfl
  ·rw [occ_plain]; simp
 ·intro op a b ho _ _ s
  have hc : ∀ o p q, (cmpM o p q).occ v x ↔ (p.occ v x ∨ q.occ v x) := fun o p q => by simp [cmpM, Fm.occ, Ex.occs, Fm.occs]
  have hf : (Fm.mk op ⟨#[]⟩ [] [] [a, b] []).occ v x ↔ (a.occ v x ∨ b.occ v x) := hc op a b
  rw [hf]
  rcases ho with rfl | rfl | rfl
  ·simp only [normalM, nt_lt, cmpN]
   split
   ·exact hc _ _ _
   ·rw [hc]; exact Or.comm
  ·simp only [normalM, nt_le, cmpN]
   split
   ·exact hc _ _ _
   ·rw [hc]; exact Or.comm
  ·simp only [normalM, nt_eq, eqN]
   split
   ·exact hc _ _ _
   ·rw [occ_plain]; simp [hc]; exact Or.symm
 ·intro op kids ho hk ih s
  have hl : ∀ k ∈ normalMs kids s, shapedF k = true := by rw [normalMs_map]; intro k h; obtain ⟨y, hy, rfl⟩ := List.mem_map.1 h; exact normalM_shaped y (hk y hy) s
  have hx : (∃ k ∈ normalMs kids s, k.occ v x) ↔ ∃ k ∈ kids, k.occ v x := by
   rw [normalMs_map]
   constructor
   ·rintro ⟨k, hk2, h⟩
    obtain ⟨y, hy, rfl⟩ := List.mem_map.1 hk2
    exact ⟨y, hy, (ih y hy s).1 h⟩
   ·rintro ⟨y, hy, h⟩
    exact ⟨_, List.mem_map.2 ⟨y, hy, rfl⟩, (ih y hy s).2 h⟩
  rw [occ_plain, ← hx]
  rcases ho with rfl | rfl
  ·simp only [normalM, nt_and]; cases s
   ·exact occ_flat (.inr rfl) hl
   ·exact occ_flat (.inl rfl) hl
  ·simp only [normalM, nt_or]; cases s
   ·exact occ_flat (.inl rfl) hl
   ·exact occ_flat (.inr rfl) hl
 ·intro k hk ih s
  simp only [normalM, nt_not, normalMs, List.headD_cons]
  rw [ih, occ_plain]; simp
 ·intro a b ha hb iha ihb s
  simp only [normalM, nt_imp, normalMs, List.headD_cons, List.drop_succ_cons, List.drop_zero]
  rw [occ_plain]
  have hl : ∀ k ∈ [normalM a (!s), normalM b s], shapedF k = true := by simp [normalM_shaped a ha, normalM_shaped b hb]
  have he : (∃ k ∈ [normalM a (!s), normalM b s], k.occ v x) ↔ ∃ k ∈ [a, b], k.occ v x := by simp [iha, ihb]
  rw [← he]
  cases s
  ·exact occ_flat (.inl rfl) hl
  ·exact occ_flat (.inr rfl) hl
 ·intro op params k ho hp hk ih s
  have hq : ∀ o g, (Fm.mk o ⟨#[]⟩ [] params [] [g]).occ v x ↔ (g.occ v x ∧ x ∉ params.map Pm.name) := fun o g => by simp [Fm.occ, Ex.occs, Fm.occs]
  rcases ho with rfl | rfl
  ·simp only [normalM, nt_all, normalMs, List.headD_cons]
   rw [hq, hq, ih]
  ·simp only [normalM, nt_some, normalMs, List.headD_cons]
   rw [hq, hq, ih]
end
structure Intp (B : Type) where
 A : ByteArray → List ByteArray → B → Bool
 S : List ByteArray → B → Bool
 V : Ex → B → Int
 a : Pm → B → B
 b : Pm → B → B
section
variable {B : Type} (I : Intp B)
end
end Go.Proofs.Ytjlkapgpjamnkaa
namespace Go.AM
abbrev key (s : ByteArray) : List UInt8 := s.data.toList
theorem key_inj {a b : ByteArray} (h : key a = key b) : a = b := by
 obtain ⟨⟨a⟩⟩ := a
 obtain ⟨⟨b⟩⟩ := b
 simp only [key] at h
 rw [h]
theorem asc_eq : ∀ {l m : List (List UInt8)}, l.Pairwise (· < ·) → m.Pairwise (· < ·) → (∀ x, x ∈ l ↔ x ∈ m) → l = m
 | [], [], _, _, _ => rfl
 | [], b :: m, _, _, h => by simpa using (h b).2 (by simp)
 | a :: l, [], _, _, h => by simpa using (h a).1 (by simp)
 | a :: l, b :: m, hl, hm, h => by
  rw [List.pairwise_cons] at hl hm
  have hab : a = b := by
   have h1 := (h a).1 (by simp)
   have h2 := (h b).2 (by simp)
   rcases List.mem_cons.1 h1 with h1 | h1
   ·exact h1
   ·rcases List.mem_cons.1 h2 with h2 | h2
    ·exact h2.symm
    ·exact absurd (List.lt_trans (hl.1 b h2) (hm.1 a h1)) (List.lt_irrefl _)
  subst hab
  have ha1 : a ∉ l := fun hh => absurd (hl.1 a hh) (List.lt_irrefl _)
  have ha2 : a ∉ m := fun hh => absurd (hm.1 a hh) (List.lt_irrefl _)
  rw [asc_eq hl.2 hm.2 fun x => ?_]
  constructor
  ·intro hx
   rcases List.mem_cons.1 ((h x).1 (List.mem_cons.2 (.inr hx))) with e | e
   ·subst e; exact absurd hx ha1
   ·exact e
  ·intro hx
   rcases List.mem_cons.1 ((h x).2 (List.mem_cons.2 (.inr hx))) with e | e
   ·subst e; exact absurd hx ha2
   ·exact e
end Go.AM
namespace Go.Proofs.Ytjlkapgpjamnkaa
open Go.AM
def memB (l : List ByteArray) (s : ByteArray) : Bool := l.any fun x => bEq x s
theorem memB_iff {l : List ByteArray} {s : ByteArray} : memB l s = true ↔ s ∈ l := by
 simp only [memB, List.any_eq_true]
 constructor
 ·rintro ⟨x, hx, h⟩; rw [← bEq_eq h]; exact hx
 ·intro h; exact ⟨s, h, by simp [bEq]⟩
def varsL (bound l : List ByteArray) : List ByteArray := l.filter fun s => varB s && !memB bound s
theorem varsL_mem {bound l : List ByteArray} {s : ByteArray} : s ∈ varsL bound l ↔ (s ∈ l ∧ varB s = true) ∧ s ∉ bound := by
 simp only [varsL, List.mem_filter, Bool.and_eq_true, Bool.not_eq_true', and_assoc]
 rw [show (memB bound s = false) ↔ s ∉ bound by rw [← memB_iff]; simp]
mutual
def freeEx (bound : List ByteArray) : Ex → List ByteArray
 | .mk _ _ _ args kids => varsL bound args ++ freeExs bound kids
def freeExs (bound : List ByteArray) : List Ex → List ByteArray
 | [] => []
 | k :: l => freeEx bound k ++ freeExs bound l
end
mutual
theorem freeEx_mem {bound : List ByteArray} {s : ByteArray} : ∀ e : Ex, s ∈ freeEx bound e ↔ e.occ varB s ∧ s ∉ bound
 | .mk _ _ _ args kids => by
  simp only [freeEx, Ex.occ, List.mem_append, varsL_mem, freeExs_mem kids]
  constructor
  ·rintro (⟨h, hb⟩ | ⟨h, hb⟩)
   ·exact ⟨.inl h, hb⟩
   ·exact ⟨.inr h, hb⟩
  ·rintro ⟨h | h, hb⟩
   ·exact .inl ⟨h, hb⟩
   ·exact .inr ⟨h, hb⟩
theorem freeExs_mem {bound : List ByteArray} {s : ByteArray} : ∀ l : List Ex, s ∈ freeExs bound l ↔ Ex.occs varB s l ∧ s ∉ bound
 | [] => by simp [freeExs, Ex.occs]
 | k :: l => by
  simp only [freeExs, Ex.occs, List.mem_append, freeEx_mem k, freeExs_mem l]
  constructor
  ·rintro (⟨h, hb⟩ | ⟨h, hb⟩)
   ·exact ⟨.inl h, hb⟩
   ·exact ⟨.inr h, hb⟩
  ·rintro ⟨h | h, hb⟩
   ·exact .inl ⟨h, hb⟩
   ·exact .inr ⟨h, hb⟩
end
mutual
def freeFm : Fm → List ByteArray → List ByteArray
 | .mk _ _ args params exprs kids, bound => varsL bound args ++ freeExs bound exprs ++ freeFms kids (bound ++ params.map Pm.name)
def freeFms : List Fm → List ByteArray → List ByteArray
 | [], _ => []
 | k :: l, bound => freeFm k bound ++ freeFms l bound
end
mutual
theorem freeFm_mem {s : ByteArray} : ∀ (f : Fm) (bound : List ByteArray), s ∈ freeFm f bound ↔ f.occ varB s ∧ s ∉ bound
 | .mk _ _ args params exprs kids, bound => by
  simp only [freeFm, Fm.occ, List.mem_append, varsL_mem, freeExs_mem exprs, freeFms_mem kids, not_or]
  constructor
  ·rintro ((⟨h, hb⟩ | ⟨h, hb⟩) | ⟨h, hb, hp⟩)
   ·exact ⟨.inl h, hb⟩
   ·exact ⟨.inr (.inl h), hb⟩
   ·exact ⟨.inr (.inr ⟨h, hp⟩), hb⟩
  ·rintro ⟨h | h | ⟨h, hp⟩, hb⟩
   ·exact .inl (.inl ⟨h, hb⟩)
   ·exact .inl (.inr ⟨h, hb⟩)
   ·exact .inr ⟨h, hb, hp⟩
theorem freeFms_mem {s : ByteArray} : ∀ (l : List Fm) (bound : List ByteArray), s ∈ freeFms l bound ↔ Fm.occs varB s l ∧ s ∉ bound
 | [], _ => by simp [freeFms, Fm.occs]
 | k :: l, bound => by
  simp only [freeFms, Fm.occs, List.mem_append, freeFm_mem k, freeFms_mem l]
  constructor
  ·rintro (⟨h, hb⟩ | ⟨h, hb⟩)
   ·exact ⟨.inl h, hb⟩
   ·exact ⟨.inr h, hb⟩
  ·rintro ⟨h | h, hb⟩
   ·exact .inl ⟨h, hb⟩
   ·exact .inr ⟨h, hb⟩
end
end Go.Proofs.Ytjlkapgpjamnkaa
namespace Go.Proofs.Ytjlkapgpjamnkaa
open Go.AM
def replS (to : ByteArray → Option ByteArray) (bound : List ByteArray) (s : ByteArray) : ByteArray := match to s with
 | some t => if memB bound s = true then s else t
 | none => s
mutual
def bindEx (to : ByteArray → Option ByteArray) (bound : List ByteArray) : Ex → Ex
 | .mk op name n args kids => .mk op name n (args.map (replS to bound)) (bindExs to bound kids)
def bindExs (to : ByteArray → Option ByteArray) (bound : List ByteArray) : List Ex → List Ex
 | [] => []
 | k :: l => bindEx to bound k :: bindExs to bound l
end
mutual
def bindFm (to : ByteArray → Option ByteArray) : Fm → List ByteArray → Fm
 | .mk op name args params exprs kids, bound => .mk op name (args.map (replS to bound)) params (bindExs to bound exprs) (bindFms to kids (bound ++ params.map Pm.name))
def bindFms (to : ByteArray → Option ByteArray) : List Fm → List ByteArray → List Fm
 | [], _ => []
 | k :: l, bound => bindFm to k bound :: bindFms to l bound
end
theorem bindExs_map (to : ByteArray → Option ByteArray) (bound : List ByteArray) : ∀ l, bindExs to bound l = l.map (bindEx to bound)
 | [] => rfl
 | k :: l => by simp [bindExs, bindExs_map to bound l]
theorem bindFms_map (to : ByteArray → Option ByteArray) (bound : List ByteArray) : ∀ l, bindFms to l bound = l.map (bindFm to · bound)
 | [] => rfl
 | k :: l => by simp [bindFms, bindFms_map to bound l]
theorem repl_none {to : ByteArray → Option ByteArray} (h0 : ∀ s, to s = none) (bound : List ByteArray) (s : ByteArray) : replS to bound s = s := by simp [replS, h0]
theorem repls_none {to : ByteArray → Option ByteArray} (h0 : ∀ s, to s = none) (bound : List ByteArray) : ∀ l : List ByteArray, l.map (replS to bound) = l
 | [] => rfl
 | s :: l => by simp [repl_none h0, repls_none h0 bound l]
mutual
theorem bindEx_none {to : ByteArray → Option ByteArray} (h0 : ∀ s, to s = none) (bound : List ByteArray) : ∀ e : Ex, bindEx to bound e = e
 | .mk _ _ _ args kids => by simp only [bindEx, repls_none h0, bindExs_none h0 bound kids]
theorem bindExs_none {to : ByteArray → Option ByteArray} (h0 : ∀ s, to s = none) (bound : List ByteArray) : ∀ l : List Ex, bindExs to bound l = l
 | [] => rfl
 | k :: l => by simp only [bindExs, bindEx_none h0 bound k, bindExs_none h0 bound l]
end
mutual
theorem bindFm_none {to : ByteArray → Option ByteArray} (h0 : ∀ s, to s = none) : ∀ (f : Fm) (bound : List ByteArray), bindFm to f bound = f
 | .mk _ _ args params exprs kids, bound => by simp only [bindFm, repls_none h0, bindExs_none h0, bindFms_none h0 kids]
theorem bindFms_none {to : ByteArray → Option ByteArray} (h0 : ∀ s, to s = none) : ∀ (l : List Fm) (bound : List ByteArray), bindFms to l bound = l
 | [], _ => rfl
 | k :: l, bound => by simp only [bindFms, bindFm_none h0 k bound, bindFms_none h0 l bound]
end
theorem repl_occ {to : ByteArray → Option ByteArray} (ht : ∀ s t, to s = some t → varB t = false) {x : ByteArray} (bound : List ByteArray) (l : List ByteArray) : (x ∈ l.map (replS to bound) ∧ varB x = true) ↔ (x ∈ l ∧ varB x = true) ∧ (to x = none ∨ x ∈ bound) := by
 have keep : (to x = none ∨ x ∈ bound) → replS to bound x = x := by
  rintro (h | h)
  ·simp [replS, h]
  ·unfold replS
   cases to x with
   | none => rfl
   | some t => simp only; rw [if_pos (memB_iff.2 h)]
 constructor
 ·rintro ⟨hx, hv⟩
  obtain ⟨s, hs, e⟩ := List.mem_map.1 hx
  unfold replS at e
  cases h : to s with
  | none =>
   rw [h] at e
   simp only at e
   subst e
   exact ⟨⟨hs, hv⟩, .inl h⟩
  | some t =>
   rw [h] at e
   simp only at e
   split at e
   ·rename_i hm
    subst e
    exact ⟨⟨hs, hv⟩, .inr (memB_iff.1 hm)⟩
   ·subst e
    rw [ht s t h] at hv
    cases hv
 ·rintro ⟨⟨hx, hv⟩, hk⟩
  exact ⟨List.mem_map.2 ⟨x, hx, keep hk⟩, hv⟩
mutual
theorem bindEx_occ {to : ByteArray → Option ByteArray} (ht : ∀ s t, to s = some t → varB t = false) {x : ByteArray} (bound : List ByteArray) : ∀ e : Ex, (bindEx to bound e).occ varB x ↔ e.occ varB x ∧ (to x = none ∨ x ∈ bound)
 | .mk _ _ _ args kids => by
  simp only [bindEx, Ex.occ, repl_occ ht bound args, bindExs_occ ht bound kids]
  constructor
  ·rintro (⟨h, k⟩ | ⟨h, k⟩); exact ⟨.inl h, k⟩; exact ⟨.inr h, k⟩
  ·rintro ⟨h | h, k⟩; exact .inl ⟨h, k⟩; exact .inr ⟨h, k⟩
theorem bindExs_occ {to : ByteArray → Option ByteArray} (ht : ∀ s t, to s = some t → varB t = false) {x : ByteArray} (bound : List ByteArray) : ∀ l : List Ex, Ex.occs varB x (bindExs to bound l) ↔ Ex.occs varB x l ∧ (to x = none ∨ x ∈ bound)
 | [] => by simp [bindExs, Ex.occs]
 | k :: l => by
  simp only [bindExs, Ex.occs, bindEx_occ ht bound k, bindExs_occ ht bound l]
  constructor
  ·rintro (⟨h, k⟩ | ⟨h, k⟩); exact ⟨.inl h, k⟩; exact ⟨.inr h, k⟩
  ·rintro ⟨h | h, k⟩; exact .inl ⟨h, k⟩; exact .inr ⟨h, k⟩
end
mutual
theorem bindFm_occ {to : ByteArray → Option ByteArray} (ht : ∀ s t, to s = some t → varB t = false) {x : ByteArray} : ∀ (f : Fm) (bound : List ByteArray), (bindFm to f bound).occ varB x ↔ f.occ varB x ∧ (to x = none ∨ x ∈ bound)
 | .mk _ _ args params exprs kids, bound => by
  simp only [bindFm, Fm.occ, repl_occ ht bound args, bindExs_occ ht bound exprs, bindFms_occ ht kids, List.mem_append]
  constructor
  ·rintro (⟨h, k⟩ | ⟨h, k⟩ | ⟨⟨h, k⟩, p⟩)
   ·exact ⟨.inl h, k⟩
   ·exact ⟨.inr (.inl h), k⟩
   ·refine ⟨.inr (.inr ⟨h, p⟩), ?_⟩
    rcases k with k | k | k
    ·exact .inl k
    ·exact .inr k
    ·exact absurd k p
  ·rintro ⟨h | h | ⟨h, p⟩, k⟩
   ·exact .inl ⟨h, k⟩
   ·exact .inr (.inl ⟨h, k⟩)
   ·exact .inr (.inr ⟨⟨h, k.elim .inl fun k => .inr (.inl k)⟩, p⟩)
theorem bindFms_occ {to : ByteArray → Option ByteArray} (ht : ∀ s t, to s = some t → varB t = false) {x : ByteArray} : ∀ (l : List Fm) (bound : List ByteArray), Fm.occs varB x (bindFms to l bound) ↔ Fm.occs varB x l ∧ (to x = none ∨ x ∈ bound)
 | [], _ => by simp [bindFms, Fm.occs]
 | k :: l, bound => by
  simp only [bindFms, Fm.occs, bindFm_occ ht k bound, bindFms_occ ht l bound]
  constructor
  ·rintro (⟨h, k⟩ | ⟨h, k⟩); exact ⟨.inl h, k⟩; exact ⟨.inr h, k⟩
  ·rintro ⟨h | h, k⟩; exact .inl ⟨h, k⟩; exact .inr ⟨h, k⟩
end
theorem repl_terms {to : ByteArray → Option ByteArray} (ht : ∀ s t, to s = some t → termB t = true) (bound : List ByteArray) {l : List ByteArray} (h : l.all termB = true) : (l.map (replS to bound)).all termB = true := by
 rw [List.all_eq_true] at h ⊢
 intro y hy
 obtain ⟨s, hs, rfl⟩ := List.mem_map.1 hy
 unfold replS
 cases hts : to s with
 | none => exact h s hs
 | some t =>
  simp only
  split
  ·exact h s hs
  ·exact ht s t hts
theorem bindEx_shaped {to : ByteArray → Option ByteArray} (ht : ∀ s t, to s = some t → termB t = true) (bound : List ByteArray) : ∀ e : Ex, shapedE e = true → shapedE (bindEx to bound e) = true := by
 refine Ex.ind ?_
 intro op name n args kids ih h
 simp only [bindEx]
 unfold shapedE at h ⊢
 split at h
 ·rename_i c
  rw [if_pos c]
  simp only [Bool.and_eq_true, List.isEmpty_iff] at h
  obtain ⟨⟨⟨h1, rfl⟩, rfl⟩, h4⟩ := h
  simp [bindExs, h1, h4]
 ·rename_i c
  rw [if_neg c]
  split at h
  ·rename_i c2
   rw [if_pos c2]
   simp only [Bool.and_eq_true, List.isEmpty_iff] at h
   obtain ⟨⟨⟨h1, rfl⟩, h3⟩, h4⟩ := h
   rw [repl_terms ht bound h4]
   simp [bindExs, h3]
   simpa using h1
  ·rename_i c2
   rw [if_neg c2]
   split at h
   case isFalse => simp at h
   rename_i c3
   rw [if_pos c3]
   simp only [Bool.and_eq_true, List.isEmpty_iff] at h
   obtain ⟨⟨⟨h1, h2⟩, rfl⟩, h4⟩ := h
   split at h4
   case h_2 => simp at h4
   rename_i a b
   simp only [Bool.and_eq_true] at h4
   simp only [bindExs, List.map_nil, List.isEmpty_nil, h1, h2, ih a (by simp) h4.1, ih b (by simp) h4.2, Bool.and_self]
end Go.Proofs.Ytjlkapgpjamnkaa
namespace Go.Proofs.Ytjlkapgpjamnkaa
open Go.AM
set_option maxHeartbeats 8000000
set_option maxRecDepth 20000
theorem shapedE_kid {op name : ByteArray} {v : Int} {args : List ByteArray} {kids : List Ex} (h : shapedE (.mk op name v args kids) = true) : ∀ k ∈ kids, shapedE k = true := by
 unfold shapedE at h
 intro k hk
 split at h
 ·simp only [Bool.and_eq_true, List.isEmpty_iff] at h
  rw [h.1.2] at hk; simp at hk
 ·split at h
  ·simp only [Bool.and_eq_true, List.isEmpty_iff] at h
   rw [h.1.1.2] at hk; simp at hk
  ·split at h
   ·simp only [Bool.and_eq_true] at h
    obtain ⟨_, h⟩ := h
    split at h
    ·simp only [Bool.and_eq_true] at h
     simp only [List.mem_cons, List.not_mem_nil, or_false] at hk
     rcases hk with rfl | rfl
     ·exact h.1
     ·exact h.2
    ·simp at h
   ·simp at h
end Go.Proofs.Ytjlkapgpjamnkaa
namespace Go.Proofs.Ytjlkapgpjamnkaa
open Go.AM
theorem nodess_append : ∀ l m : List Sx, Sx.nodess (l ++ m) = Sx.nodess l + Sx.nodess m
 | [], m => by simp [Sx.nodess]
 | k :: l, m => by simp only [List.cons_append, Sx.nodess, nodess_append l m]; omega
theorem list_nodes (l : List Sx) : (listM l).nodes = Sx.nodess l + 1 := by simp only [listM, Sx.nodes]
theorem word_nodes (s : ByteArray) : (wordM s).nodes = 1 := by simp [wordM, Sx.nodes, Sx.nodess]
theorem formed_of : ∀ (e : Ex), shapedE e = true → ∀ (d n : Nat), d + (exW e).depth ≤ 32 → n + (exW e).nodes ≤ 4096 → (formedM e d n).1 = true ∧ (formedM e d n).2 ≤ n + (exW e).nodes := by
 refine Ex.ind ?_
 intro op name v args kids ih hs d n hd hn
 unfold shapedE at hs
 unfold exW at hd hn ⊢
 unfold formedM
 cases c1 : bEq op opNum with
 | true =>
  rw [c1] at hs hd hn
  simp only [if_true] at hs hd hn ⊢
  simp only [Sx.nodes, Sx.nodess] at hn ⊢
  rw [if_pos ⟨by omega, by omega⟩]
  exact ⟨hs, by simp only; omega⟩
 | false =>
  rw [c1] at hs hd hn
  simp only [Bool.false_eq_true, if_false] at hs hd hn ⊢
  cases c2 : bEq op opFlu with
  | true =>
   rw [c2] at hs hd hn
   simp only [if_true] at hs hd hn ⊢
   simp only [wordsM, listM, Sx.nodes] at hn ⊢
   rw [if_pos ⟨by omega, by omega⟩]
   exact ⟨hs, by simp only; omega⟩
  | false =>
   rw [c2] at hs hd hn
   simp only [Bool.false_eq_true, if_false] at hs hd hn ⊢
   split at hs
   case isFalse => simp at hs
   rename_i hop
   rw [if_pos hop]
   rw [Bool.and_eq_true] at hs
   obtain ⟨h1, h2⟩ := hs
   rw [h1]
   simp only [if_true]
   split at h2
   case h_2 => simp at h2
   rename_i a b
   simp only [Bool.and_eq_true] at h2
   simp only [listM, Sx.depth, Sx.depths, Sx.nodes, Sx.nodess, wordM, if_true] at hd hn ⊢
   have k1 : ¬ ((1 : Int) = 3) := by omega
   rw [if_neg k1] at hd
   rw [if_pos ⟨by omega, by omega⟩]
   obtain ⟨f1, f2⟩ := ih a (by simp) h2.1 (d + 1) (n + 1) (by omega) (by omega)
   cases hw : formedM a (d + 1) (n + 1) with
   | mk x c =>
    rw [hw] at f1 f2
    simp only at f1 f2
    subst f1
    simp only
    obtain ⟨g1, g2⟩ := ih b (by simp) h2.2 (d + 1) c (by omega) (by omega)
    exact ⟨g1, by omega⟩
end Go.Proofs.Ytjlkapgpjamnkaa
namespace Go.AM
section
variable {P : Program} {ow : Nat → Bool} {n : Nat} {ops : List Oper} {I K : Slots → Heap → Prop}
theorem lwp_cut : ∀ (l : List Oper) (k : Nat) {s : Slots} {h : Heap}, lwp P ow n ops (l.take k) I s h → (∀ s h, I s h → lwp P ow n ops (l.drop k) K s h) → lwp P ow n ops l K s h
  | [], k, s, h, h1, hk => by
    rw [List.take_nil] at h1
    have := hk s h (by simpa only [lwp] using h1)
    rwa [List.drop_nil] at this
  | o :: rest, 0, s, h, h1, hk => hk s h (by simpa only [lwp, List.take_zero] using h1)
  | o :: rest, k + 1, s, h, h1, hk => by
    rw [List.take_succ_cons] at h1
    simp only [lwp] at h1 ⊢
    refine ⟨h1.1, ?_⟩
    have h3 := h1.2
    clear h1
    cases hw : wantedB ops s o with
    | none => rw [hw] at h3; exact h3
    | some b =>
      rw [hw] at h3
      simp only at h3 ⊢
      split at h3
      · rename_i hb
        rw [if_pos hb]
        exact owp_mono (fun s h hh => lwp_cut rest k hh hk) h3
      · rename_i hb
        rw [if_neg hb]
        exact lwp_cut rest k h3 hk
theorem lwn_cutl : ∀ (l : List Oper) (k : Nat) {s : Slots} {h : Heap}, lwn P ow n ops (l.take k) I s h → (∀ s h, I s h → lwn P ow n ops (l.drop k) K s h) → lwn P ow n ops l K s h
  | [], k, s, h, h1, hk => by
    rw [List.take_nil] at h1
    have := hk s h (by simpa only [lwn] using h1)
    rwa [List.drop_nil] at this
  | o :: rest, 0, s, h, h1, hk => hk s h (by simpa only [lwn, List.take_zero] using h1)
  | o :: rest, k + 1, s, h, h1, hk => by
    rw [List.take_succ_cons] at h1
    simp only [lwn] at h1 ⊢
    refine ⟨h1.1, ?_⟩
    have h3 := h1.2
    clear h1
    cases hw : wantedB ops s o with
    | none => rw [hw] at h3; exact h3
    | some b =>
      rw [hw] at h3
      simp only at h3 ⊢
      split at h3
      · rename_i hb
        rw [if_pos hb]
        cases hc : callee (pev s) o.op with
        | none =>
          rw [hc] at h3
          simp only at h3 ⊢
          cases he : eff P (o.dst.any ow) o.op (pev s) h with
          | none => rw [he] at h3; exact h3
          | some r =>
            rw [he] at h3
            exact lwn_cutl rest k h3 hk
        | some f =>
          rw [hc] at h3
          simp only at h3 ⊢
          exact owp_mono (fun s h hh => lwp_cut rest k hh fun s h hi => lwn_lwp _ _ _ (hk s h hi)) h3
      · rename_i hb
        rw [if_neg hb]
        exact lwn_cutl rest k h3 hk
theorem lwn_cut {l : List Oper} {s : Slots} {h : Heap} (k : Nat) (I : Slots → Heap → Prop) (h1 : lwn P ow n ops (l.take k) I s h) (h2 : ∀ s h, I s h → lwn P ow n ops (l.drop k) K s h) : lwn P ow n ops l K s h := lwn_cutl l k h1 h2
end
end Go.AM
namespace Go.Proofs.Ytjlkapgpjamnkaa
open Go.AM
set_option maxHeartbeats 16000000
set_option maxRecDepth 20000
theorem ne_of_eq {a x y : List UInt8} (h : (a == x) = true) (h2 : (x == y) = false) : (a == y) = false := by rw [eq_of_beq h]; exact h2
def headOk (op name : ByteArray) (args : List ByteArray) (np ne nk : Nat) : Bool :=
 match shapeOf op nk with
 | none => false
 | some (e, m, q) => termsOk op name args && decide (ne = e) && decide (nk = m) && (decide (np = 0) || q)
theorem partsOk_head (op name : ByteArray) (args : List ByteArray) (params : List Pm) (ne nk : Nat) : partsOk op name args params ne nk = (headOk op name args params.length ne nk && params.all pmOk) := by
 unfold partsOk headOk
 have e1 : params.isEmpty = decide (params.length = 0) := by cases params <;> simp
 cases shapeOf op nk with
 | none => rfl
 | some p => obtain ⟨e, m, q⟩ := p; simp only [e1]
theorem drop_get {α : Type} {l : List α} {k : Nat} {x : α} (h : l[k]? = some x) : l.drop k = x :: l.drop (k + 1) := by
 obtain ⟨h1, h2⟩ := List.getElem?_eq_some_iff.1 h
 rw [List.drop_eq_getElem_cons h1, h2]
theorem formedMs_le : ∀ (l : List Ex) (d n : Nat), n ≤ 4096 → (formedMs l d n).1 = true → (formedMs l d n).2 ≤ 4096
 | [], d, n, hn => by simp [formedMs, hn]
 | e :: l, d, n, hn => by
  unfold formedMs
  have h1 := formedM_le e d n
  split
  ·rename_i c he
   rw [he] at h1
   exact formedMs_le l d c (h1 rfl)
  ·simp
mutual
theorem shapedM_le : ∀ (f : Fm) (d n : Nat), (shapedM f d n).1 = true → (shapedM f d n).2 ≤ 4096
 | .mk op name args params exprs kids, d, n => by
  unfold shapedM
  split
  ·rename_i hc
   split
   ·have h1 := formedMs_le exprs (d + 1) (n + 1) hc.1
    split
    ·rename_i c he
     rw [he] at h1
     exact shapedMs_le kids (d + 1) c (h1 rfl)
    ·simp
   ·simp
  ·simp
theorem shapedMs_le : ∀ (l : List Fm) (d n : Nat), n ≤ 4096 → (shapedMs l d n).1 = true → (shapedMs l d n).2 ≤ 4096
 | [], d, n, hn => by simp [shapedMs, hn]
 | k :: l, d, n, hn => by
  unfold shapedMs
  have h1 := shapedM_le k d n
  split
  ·rename_i c he
   rw [he] at h1
   exact shapedMs_le l d c (h1 rfl)
  ·simp
end
theorem shaped_c : ∀ f : Fm, f.ok → ∀ (d n : Nat), d ≤ 33 → n ≤ 4096 → ∀ (id : Nat) (h : Heap), h.obj id = some (cntO n) →
  PCall Try.prog 63 [.agg f.cells, .sc (.int .i64 d), .ptr id 0 0] h fun r h' => r = .sc (.bool (shapedM f d n).1) ∧ h' = h.set id (cntO (shapedM f d n).2) := by
 refine Fm.ind ?_
 intro op name args params exprs kids ih hok d n hd hn id h ho
 simp only [Fm.ok] at hok
 obtain ⟨_, hnm, ⟨hal, hargs⟩, ⟨hpl, hps⟩, ⟨hel, hes⟩, hkl, hks⟩ := hok
 rw [Ex.oks_iff] at hes
 rw [Fm.oks_iff] at hks
 have hnm' : name.size ≤ 9223372036854775807 := by unfold bigN at hnm; omega
 unfold bigN at hpl hel hkl
 have hlA := strRows_len args
 have hlP := pmRows_len params
 have hlE := Ex.rows_len exprs
 have hlK := Fm.rows_len kids
 refine pcall_wf Ty.hb_63 fun hwf => ?_
 have hid : id < h.next := hwf id (by rw [ho]; try rfl)
 refine PCall.quietX Ty.hb_63 ho (by simp [cntO, inNO, inNR, inNL, inN]) ?_
 generalize hF : shapedM (.mk op name args params exprs kids) d n = F
 unfold shapedM at hF
 by_cases hc : n + 1 ≤ 4096 ∧ d ≤ 32
 rotate_left
 ·rw [if_neg hc] at hF
  subst hF
  have hT := take_c (by omega) hn ho (decide_eq_false hc)
  simp only [Fm.cells]
  refine pcall_body (ow := fun _ => false) (wf := fun _ => false) Ty.mixed Try.func63 rfl Ty.hb_63 (by rw [Try.ntmps63]; simp) ?_
  rw [Try.ntmps63, Try.results63]
  repeat' (first | refine a_seq fun K hK => ?_ | (refine a_regionS ?_; simp (maxSteps := 2000000) only [Ty.w, simprocAttr]) | (refine hK _ _ ?_; clear hK; try simp only [pst0, simprocAttr]))
  refine owp_useH (hT) (by (try simp only [Ty.w, simprocAttr, Bool.not_false]); try rfl) ?_; simp (maxSteps := 2000000) only [Ty.w, simprocAttr, Bool.not_false]
  repeat' (first | refine a_seq fun K hK => ?_ | ((first | refine a_regionS ?_ | refine a_ret ?_); simp (maxSteps := 2000000) only [Ty.w, simprocAttr, Bool.not_false]) | (refine hK _ _ ?_; clear hK; try simp only [pst0, simprocAttr]))
  exact (GrowX.refl ho).put
 rw [if_pos hc] at hF
 have hT := take_c (by omega) hn ho (decide_eq_true hc)
 have wd : IntKind.i64.wrap ((d : Int) + 1) = (d : Int) + 1 := by rw [wrap64 (by omega) (by omega)]
 have G1 : GrowX h id (cntO (n + 1)) (h.set id (cntO (n + 1))) := (GrowX.refl ho).put
 have hO1 : (h.set id (cntO (n + 1))).obj id = some (cntO (n + 1)) := by simp [Heap.set]
 have hN1 : (h.set id (cntO (n + 1))).next = h.next := rfl
 have hFf : partsOk op name args params exprs.length kids.length = false → F = (false, n + 1) := fun hp => by rw [← hF, if_neg (by rw [hp]; simp)]
 have hFt : partsOk op name args params exprs.length kids.length = true → F = (match formedMs exprs (d + 1) (n + 1) with
  | (true, c') => shapedMs kids (d + 1) c'
  | (false, c') => (false, c')) := fun hp => by rw [← hF, if_pos hp]; try rfl
 clear hF
 simp only [Fm.cells]
 refine pcall_body (ow := fun _ => false) (wf := fun _ => false) Ty.mixed Try.func63 rfl Ty.hb_63 (by rw [Try.ntmps63]; simp) ?_
 rw [Try.ntmps63, Try.results63]
 repeat' (first | refine a_seq fun K hK => ?_ | (refine a_regionS ?_; simp (maxSteps := 2000000) only [Ty.w, simprocAttr]) | (refine hK _ _ ?_; clear hK; try simp only [pst0, simprocAttr]))
 refine owp_useH (hT) (by (try simp only [Ty.w, simprocAttr, Bool.not_true]); try rfl) ?_; simp (maxSteps := 2000000) only [Ty.w, simprocAttr, Bool.not_true]
 clear hT
 generalize h.set id (cntO (n + 1)) = H1 at G1 hO1 hN1 ⊢
 repeat' (first | (with_reducible refine a_hold 4 ?_) | refine a_seq fun K hK => ?_ | (refine a_regionS ?_; simp (maxSteps := 2000000) only [Ty.w, simprocAttr, Bool.not_true]) | (refine a_skip ?_; try simp only [pst0, simprocAttr]) | (refine a_cond _ (by (try simp (maxSteps := 2000000) only [Ty.w, simprocAttr, Bool.not_true]); rfl) (fun hb => ?_) (fun hb => ?_) <;> (try simp only [hb0, decide_eq_true_eq, decide_eq_false_iff_not, simprocAttr] at hb) <;> (try (exfalso; omega))) | (refine hK _ _ ?_; clear hK; try simp only [pst0, simprocAttr]))
 refine ⟨?_⟩
 refine a_cut (fun S h' => h' = H1 ∧ S 1 = .sc (.int .i64 d) ∧ S 2 = .ptr id 0 0 ∧ S 3 = .cptr (Fm.mk op name args params exprs kids).cells ∧ ∃ (e m : Nat) (q : Bool), shapeOf op kids.length = some (e, m, q) ∧ ((bEq op opAtom || bEq op opSame) = true → termsOk op name args = true) ∧ S 7 = .sc (.int .i64 e) ∧ S 8 = .sc (.bool q) ∧ S 9 = .sc (.int .i64 m)) ?_ ?_
 ·have hfc : ∀ s ∈ args, ∀ h : Heap, PCall Try.prog 105 [sPV s] h fun r h' => r = .sc (.bool (!termB s)) ∧ h' = h := fun s hs h => fclosure2_c (hargs s hs)
  cases k1 : (op.data.toList == (#[97, 116, 111, 109] : Array UInt8).toList) with
  | true =>
   have k2 : (op.data.toList == (#[115, 97, 109, 101] : Array UInt8).toList) = false := ne_of_eq k1 rfl
   cases q1 : nameB name with
   | false =>
    have hp := hFf (by simp [partsOk, shapeOf, termsOk, (show bEq op opAtom = true from k1), q1])
    subst hp
    repeat' (first | refine a_seq fun K hK => ?_ | (refine a_regionS ?_; simp (maxSteps := 2000000) only [Ty.w, simprocAttr, k1, k2]) | (refine a_skip ?_; try simp only [pst0, simprocAttr]) | (refine a_cond _ (by (try simp (maxSteps := 2000000) only [Ty.w, simprocAttr, k1, k2]); rfl) (fun hb => ?_) (fun hb => ?_) <;> (try simp only [hb0, decide_eq_true_eq, decide_eq_false_iff_not, simprocAttr] at hb) <;> (try (exfalso; omega))) | (refine hK _ _ ?_; clear hK; try simp only [pst0, simprocAttr]))
    refine owp_useQ (fname_c (s := name) hnm') (by (try simp only [Ty.w, simprocAttr, k1, k2, q1]); try rfl) ?_; simp (maxSteps := 2000000) only [Ty.w, simprocAttr, k1, k2, q1]
    repeat' (first | refine a_seq fun K hK => ?_ | ((first | refine a_regionS ?_ | refine a_ret ?_); simp (maxSteps := 2000000) only [Ty.w, simprocAttr, k1, k2, q1, Bool.not_false]) | (refine hK _ _ ?_; clear hK; try simp only [pst0, simprocAttr]))
    all_goals first | exact G1 | exact ⟨rfl, G1⟩
   | true =>
    cases q2 : args.all termB with
    | false =>
     have hp := hFf (by simp [partsOk, shapeOf, termsOk, (show bEq op opAtom = true from k1), q1, q2])
     subst hp
     repeat' (first | refine a_seq fun K hK => ?_ | (refine a_regionS ?_; simp (maxSteps := 2000000) only [Ty.w, simprocAttr, k1, k2]) | (refine a_skip ?_; try simp only [pst0, simprocAttr]) | (refine a_cond _ (by (try simp (maxSteps := 2000000) only [Ty.w, simprocAttr, k1, k2]); rfl) (fun hb => ?_) (fun hb => ?_) <;> (try simp only [hb0, decide_eq_true_eq, decide_eq_false_iff_not, simprocAttr] at hb) <;> (try (exfalso; omega))) | (refine hK _ _ ?_; clear hK; try simp only [pst0, simprocAttr]))
     refine owp_useQ (fname_c (s := name) hnm') (by (try simp only [Ty.w, simprocAttr, k1, k2, q1]); try rfl) ?_; simp (maxSteps := 2000000) only [Ty.w, simprocAttr, k1, k2, q1]
     skip
     refine owp_useQ (containsFunc_c hal hfc) (by (try simp only [Ty.w, simprocAttr, k1, k2, q1, q2]); try rfl) ?_; simp (maxSteps := 2000000) only [Ty.w, simprocAttr, k1, k2, q1, q2]
     repeat' (first | refine a_seq fun K hK => ?_ | ((first | refine a_regionS ?_ | refine a_ret ?_); simp (maxSteps := 2000000) only [Ty.w, simprocAttr, k1, k2, q1, q2, Bool.not_false, Bool.not_true]) | (refine hK _ _ ?_; clear hK; try simp only [pst0, simprocAttr]))
     all_goals first | exact G1 | exact ⟨rfl, G1⟩
    | true =>
     repeat' (first | refine a_seq fun K hK => ?_ | (refine a_regionS ?_; simp (maxSteps := 2000000) only [Ty.w, simprocAttr, k1, k2]) | (refine a_skip ?_; try simp only [pst0, simprocAttr]) | (refine a_cond _ (by (try simp (maxSteps := 2000000) only [Ty.w, simprocAttr, k1, k2]); rfl) (fun hb => ?_) (fun hb => ?_) <;> (try simp only [hb0, decide_eq_true_eq, decide_eq_false_iff_not, simprocAttr] at hb) <;> (try (exfalso; omega))) | (refine hK _ _ ?_; clear hK; try simp only [pst0, simprocAttr]))
     refine owp_useQ (fname_c (s := name) hnm') (by (try simp only [Ty.w, simprocAttr, k1, k2, q1]); try rfl) ?_; simp (maxSteps := 2000000) only [Ty.w, simprocAttr, k1, k2, q1]
     skip
     refine owp_useQ (containsFunc_c hal hfc) (by (try simp only [Ty.w, simprocAttr, k1, k2, q1, q2]); try rfl) ?_; simp (maxSteps := 2000000) only [Ty.w, simprocAttr, k1, k2, q1, q2]
     repeat' (first | (refine a_block ?_) | (refine a_skip ?_; try simp only [pst0, simprocAttr]) | (refine hK _ _ ?_; clear hK; try simp only [pst0, simprocAttr]))
     simp (maxSteps := 2000000) only [Ty.w, simprocAttr, Ty.all, Fm.cells]
     exact ⟨0, 0, false, by simp [shapeOf, (show bEq op opAtom = true from k1)], fun _ => by simp [termsOk, (show bEq op opAtom = true from k1), q1, q2], rfl, rfl, rfl⟩
  | false =>
   cases k2 : (op.data.toList == (#[115, 97, 109, 101] : Array UInt8).toList) with
   | true =>
    cases q1 : (name.data.toList == (#[] : Array UInt8).toList) with
    | false =>
     have hp := hFf (by simp [partsOk, shapeOf, termsOk, (show bEq op opAtom = false from k1), (show bEq op opSame = true from k2), (show emptyB name = false from q1)])
     subst hp
     repeat' (first | refine a_seq fun K hK => ?_ | ((first | refine a_regionS ?_ | refine a_ret ?_); simp (maxSteps := 2000000) only [Ty.w, simprocAttr, k1, k2, q1, Bool.not_false]) | (refine a_cond _ (by (try simp (maxSteps := 2000000) only [Ty.w, simprocAttr, k1, k2, q1, Bool.not_false]); rfl) (fun hb => ?_) (fun hb => ?_) <;> (try simp only [hb0, decide_eq_true_eq, decide_eq_false_iff_not, simprocAttr] at hb) <;> (try (exfalso; omega))) | (refine hK _ _ ?_; clear hK; try simp only [pst0, simprocAttr]))
     all_goals first | exact G1 | exact ⟨rfl, G1⟩
    | true =>
     cases q2 : ((args.length : Int) == 2) with
     | false =>
      have hp := hFf (by simp [partsOk, shapeOf, termsOk, (show bEq op opAtom = false from k1), (show bEq op opSame = true from k2), (show emptyB name = true from q1), (show ¬ args.length = 2 by simp at q2; omega)])
      subst hp
      have q2p := eq_false (ne_of_beq_false q2)
      have q2i : ¬ args.length = 2 := by have := ne_of_beq_false q2; omega
      repeat' (first | refine a_seq fun K hK => ?_ | ((first | refine a_regionS ?_ | refine a_ret ?_); simp (maxSteps := 2000000) only [Ty.w, simprocAttr, k1, k2, q1, q2, q2p, hlA, Bool.not_true, Bool.not_false, not_false_eq_true, not_true_eq_false, if_true, if_false]) | (refine a_cond _ (by (try simp (maxSteps := 2000000) only [Ty.w, simprocAttr, k1, k2, q1, q2, q2p, hlA, Bool.not_true, Bool.not_false, not_false_eq_true, not_true_eq_false, if_true, if_false]); rfl) (fun hb => ?_) (fun hb => ?_) <;> (try simp only [hb0, decide_eq_true_eq, decide_eq_false_iff_not, simprocAttr] at hb) <;> (try (exfalso; omega))) | (with_reducible refine ite_in (fun hb => ?_) (fun hb => ?_) <;> (try simp only [Decidable.not_not] at hb) <;> (try simp only [hb, if_true, if_false, not_false_eq_true, not_true_eq_false, ↓reduceIte]) <;> (try simp only [hb0, decide_eq_true_eq, decide_eq_false_iff_not, simprocAttr] at hb) <;> (try (exfalso; omega))) | (refine hK _ _ ?_; clear hK; try simp only [pst0, simprocAttr]))
      all_goals first | exact G1 | exact ⟨rfl, G1⟩
     | true =>
      cases q3 : args.all termB with
      | false =>
       have hp := hFf (by simp [partsOk, shapeOf, termsOk, (show bEq op opAtom = false from k1), (show bEq op opSame = true from k2), (show emptyB name = true from q1), (show args.length = 2 by simp at q2; omega), q3])
       subst hp
       have q2p := eq_true (eq_of_beq q2)
       have q2i : args.length = 2 := by have := eq_of_beq q2; omega
       repeat' (first | refine a_seq fun K hK => ?_ | (refine a_regionS ?_; simp (maxSteps := 2000000) only [Ty.w, simprocAttr, k1, k2, q1, q2, q2p, hlA, Bool.not_true, not_false_eq_true, not_true_eq_false, if_true, if_false]) | (refine a_cond _ (by (try simp (maxSteps := 2000000) only [Ty.w, simprocAttr, k1, k2, q1, q2, q2p, hlA, Bool.not_true, not_false_eq_true, not_true_eq_false, if_true, if_false]); rfl) (fun hb => ?_) (fun hb => ?_) <;> (try simp only [hb0, decide_eq_true_eq, decide_eq_false_iff_not, simprocAttr] at hb) <;> (try (exfalso; omega))) | (with_reducible refine ite_in (fun hb => ?_) (fun hb => ?_) <;> (try simp only [Decidable.not_not] at hb) <;> (try simp only [hb, if_true, if_false, not_false_eq_true, not_true_eq_false, ↓reduceIte]) <;> (try simp only [hb0, decide_eq_true_eq, decide_eq_false_iff_not, simprocAttr] at hb) <;> (try (exfalso; omega))) | (refine hK _ _ ?_; clear hK; try simp only [pst0, simprocAttr]))
       refine owp_useQ (containsFunc_c hal hfc) (by (try simp only [Ty.w, simprocAttr, k1, k2, q1, q2, q3]); try rfl) ?_; simp (maxSteps := 2000000) only [Ty.w, simprocAttr, k1, k2, q1, q2, q3]
       repeat' (first | refine a_seq fun K hK => ?_ | ((first | refine a_regionS ?_ | refine a_ret ?_); simp (maxSteps := 2000000) only [Ty.w, simprocAttr, k1, k2, q1, q2, q2p, q3, Bool.not_false, Bool.not_true, not_false_eq_true, not_true_eq_false, if_true, if_false]) | (refine hK _ _ ?_; clear hK; try simp only [pst0, simprocAttr]))
       all_goals first | exact G1 | exact ⟨rfl, G1⟩
      | true =>
       have q2p := eq_true (eq_of_beq q2)
       have q2i : args.length = 2 := by have := eq_of_beq q2; omega
       repeat' (first | refine a_seq fun K hK => ?_ | (refine a_regionS ?_; simp (maxSteps := 2000000) only [Ty.w, simprocAttr, k1, k2, q1, q2, q2p, hlA, Bool.not_true, not_false_eq_true, not_true_eq_false, if_true, if_false]) | (refine a_cond _ (by (try simp (maxSteps := 2000000) only [Ty.w, simprocAttr, k1, k2, q1, q2, q2p, hlA, Bool.not_true, not_false_eq_true, not_true_eq_false, if_true, if_false]); rfl) (fun hb => ?_) (fun hb => ?_) <;> (try simp only [hb0, decide_eq_true_eq, decide_eq_false_iff_not, simprocAttr] at hb) <;> (try (exfalso; omega))) | (with_reducible refine ite_in (fun hb => ?_) (fun hb => ?_) <;> (try simp only [Decidable.not_not] at hb) <;> (try simp only [hb, if_true, if_false, not_false_eq_true, not_true_eq_false, ↓reduceIte]) <;> (try simp only [hb0, decide_eq_true_eq, decide_eq_false_iff_not, simprocAttr] at hb) <;> (try (exfalso; omega))) | (refine hK _ _ ?_; clear hK; try simp only [pst0, simprocAttr]))
       refine owp_useQ (containsFunc_c hal hfc) (by (try simp only [Ty.w, simprocAttr, k1, k2, q1, q2, q3]); try rfl) ?_; simp (maxSteps := 2000000) only [Ty.w, simprocAttr, k1, k2, q1, q2, q3]
       repeat' (first | (refine a_block ?_) | (refine a_skip ?_; try simp only [pst0, simprocAttr]) | (refine hK _ _ ?_; clear hK; try simp only [pst0, simprocAttr]))
       simp (maxSteps := 2000000) only [Ty.w, simprocAttr, Ty.all, Fm.cells]
       exact ⟨0, 0, false, by simp [shapeOf, (show bEq op opAtom = false from k1), (show bEq op opSame = true from k2)], fun _ => by simp [termsOk, (show bEq op opAtom = false from k1), (show bEq op opSame = true from k2), (show emptyB name = true from q1), (show args.length = 2 by simp at q2; omega), q3], rfl, rfl, rfl⟩
   | false =>
    cases k3 : (op.data.toList == (#[60] : Array UInt8).toList) with
    | true =>
     repeat' (first | refine a_seq fun K hK => ?_ | (refine a_block ?_) | ((first | refine a_regionS ?_ | refine a_region (fun K hK => ?_)); simp (maxSteps := 2000000) only [Ty.w, simprocAttr, k1, k2, k3, hlK]) | (refine a_skip ?_; try simp only [pst0, simprocAttr]) | (refine a_cond _ (by (try simp (maxSteps := 2000000) only [Ty.w, simprocAttr, k1, k2, k3, hlK]); rfl) (fun hb => ?_) (fun hb => ?_) <;> (try simp only [hb0, decide_eq_true_eq, decide_eq_false_iff_not, simprocAttr] at hb) <;> (try (exfalso; omega))) | (refine hK _ _ ?_; clear hK; try simp only [pst0, simprocAttr]))
     simp (maxSteps := 2000000) only [Ty.w, simprocAttr, Ty.all, Fm.cells]
     exact ⟨2, 0, false, by simp [shapeOf, (show bEq op opAtom = false from k1), (show bEq op opSame = false from k2), (show bEq op opLt = true from k3)], fun hh => by simp [(show bEq op opAtom = false from k1), (show bEq op opSame = false from k2)] at hh, rfl, rfl, rfl⟩
    | false =>
     cases k4 : (op.data.toList == (#[60, 61] : Array UInt8).toList) with
     | true =>
      repeat' (first | refine a_seq fun K hK => ?_ | (refine a_block ?_) | ((first | refine a_regionS ?_ | refine a_region (fun K hK => ?_)); simp (maxSteps := 2000000) only [Ty.w, simprocAttr, k1, k2, k3, k4, hlK]) | (refine a_skip ?_; try simp only [pst0, simprocAttr]) | (refine a_cond _ (by (try simp (maxSteps := 2000000) only [Ty.w, simprocAttr, k1, k2, k3, k4, hlK]); rfl) (fun hb => ?_) (fun hb => ?_) <;> (try simp only [hb0, decide_eq_true_eq, decide_eq_false_iff_not, simprocAttr] at hb) <;> (try (exfalso; omega))) | (refine hK _ _ ?_; clear hK; try simp only [pst0, simprocAttr]))
      simp (maxSteps := 2000000) only [Ty.w, simprocAttr, Ty.all, Fm.cells]
      exact ⟨2, 0, false, by simp [shapeOf, (show bEq op opAtom = false from k1), (show bEq op opSame = false from k2), (show bEq op opLt = false from k3), (show bEq op opLe = true from k4)], fun hh => by simp [(show bEq op opAtom = false from k1), (show bEq op opSame = false from k2)] at hh, rfl, rfl, rfl⟩
     | false =>
      cases k5 : (op.data.toList == (#[61] : Array UInt8).toList) with
      | true =>
       repeat' (first | refine a_seq fun K hK => ?_ | (refine a_block ?_) | ((first | refine a_regionS ?_ | refine a_region (fun K hK => ?_)); simp (maxSteps := 2000000) only [Ty.w, simprocAttr, k1, k2, k3, k4, k5, hlK]) | (refine a_cond _ (by (try simp (maxSteps := 2000000) only [Ty.w, simprocAttr, k1, k2, k3, k4, k5, hlK]); rfl) (fun hb => ?_) (fun hb => ?_) <;> (try simp only [hb0, decide_eq_true_eq, decide_eq_false_iff_not, simprocAttr] at hb) <;> (try (exfalso; omega))) | (refine hK _ _ ?_; clear hK; try simp only [pst0, simprocAttr]))
       simp (maxSteps := 2000000) only [Ty.w, simprocAttr, Ty.all, Fm.cells]
       exact ⟨2, 0, false, by simp [shapeOf, (show bEq op opAtom = false from k1), (show bEq op opSame = false from k2), (show bEq op opLt = false from k3), (show bEq op opLe = false from k4), (show bEq op opEq = true from k5)], fun hh => by simp [(show bEq op opAtom = false from k1), (show bEq op opSame = false from k2)] at hh, rfl, rfl, rfl⟩
      | false =>
       cases k6 : (op.data.toList == (#[97, 110, 100] : Array UInt8).toList) with
       | true =>
        repeat' (first | refine a_seq fun K hK => ?_ | (refine a_block ?_) | ((first | refine a_regionS ?_ | refine a_region (fun K hK => ?_)); simp (maxSteps := 2000000) only [Ty.w, simprocAttr, k1, k2, k3, k4, k5, k6, hlK]) | (refine a_skip ?_; try simp only [pst0, simprocAttr]) | (refine a_cond _ (by (try simp (maxSteps := 2000000) only [Ty.w, simprocAttr, k1, k2, k3, k4, k5, k6, hlK]); rfl) (fun hb => ?_) (fun hb => ?_) <;> (try simp only [hb0, decide_eq_true_eq, decide_eq_false_iff_not, simprocAttr] at hb) <;> (try (exfalso; omega))) | (refine hK _ _ ?_; clear hK; try simp only [pst0, simprocAttr]))
        simp (maxSteps := 2000000) only [Ty.w, simprocAttr, Ty.all, Fm.cells]
        exact ⟨0, kids.length, false, by simp [shapeOf, (show bEq op opAtom = false from k1), (show bEq op opSame = false from k2), (show bEq op opLt = false from k3), (show bEq op opLe = false from k4), (show bEq op opEq = false from k5), (show bEq op opAnd = true from k6)], fun hh => by simp [(show bEq op opAtom = false from k1), (show bEq op opSame = false from k2)] at hh, rfl, rfl, rfl⟩
       | false =>
        cases k7 : (op.data.toList == (#[111, 114] : Array UInt8).toList) with
        | true =>
         repeat' (first | refine a_seq fun K hK => ?_ | (refine a_block ?_) | ((first | refine a_regionS ?_ | refine a_region (fun K hK => ?_)); simp (maxSteps := 2000000) only [Ty.w, simprocAttr, k1, k2, k3, k4, k5, k6, k7, hlK]) | (refine a_cond _ (by (try simp (maxSteps := 2000000) only [Ty.w, simprocAttr, k1, k2, k3, k4, k5, k6, k7, hlK]); rfl) (fun hb => ?_) (fun hb => ?_) <;> (try simp only [hb0, decide_eq_true_eq, decide_eq_false_iff_not, simprocAttr] at hb) <;> (try (exfalso; omega))) | (refine hK _ _ ?_; clear hK; try simp only [pst0, simprocAttr]))
         simp (maxSteps := 2000000) only [Ty.w, simprocAttr, Ty.all, Fm.cells]
         exact ⟨0, kids.length, false, by simp [shapeOf, (show bEq op opAtom = false from k1), (show bEq op opSame = false from k2), (show bEq op opLt = false from k3), (show bEq op opLe = false from k4), (show bEq op opEq = false from k5), (show bEq op opAnd = false from k6), (show bEq op opOr = true from k7)], fun hh => by simp [(show bEq op opAtom = false from k1), (show bEq op opSame = false from k2)] at hh, rfl, rfl, rfl⟩
        | false =>
         cases k8 : (op.data.toList == (#[110, 111, 116] : Array UInt8).toList) with
         | true =>
          repeat' (first | refine a_seq fun K hK => ?_ | (refine a_block ?_) | ((first | refine a_regionS ?_ | refine a_region (fun K hK => ?_)); simp (maxSteps := 2000000) only [Ty.w, simprocAttr, k1, k2, k3, k4, k5, k6, k7, k8, hlK]) | (refine a_cond _ (by (try simp (maxSteps := 2000000) only [Ty.w, simprocAttr, k1, k2, k3, k4, k5, k6, k7, k8, hlK]); rfl) (fun hb => ?_) (fun hb => ?_) <;> (try simp only [hb0, decide_eq_true_eq, decide_eq_false_iff_not, simprocAttr] at hb) <;> (try (exfalso; omega))) | (refine hK _ _ ?_; clear hK; try simp only [pst0, simprocAttr]))
          simp (maxSteps := 2000000) only [Ty.w, simprocAttr, Ty.all, Fm.cells]
          exact ⟨0, 1, false, by simp [shapeOf, (show bEq op opAtom = false from k1), (show bEq op opSame = false from k2), (show bEq op opLt = false from k3), (show bEq op opLe = false from k4), (show bEq op opEq = false from k5), (show bEq op opAnd = false from k6), (show bEq op opOr = false from k7), (show bEq op opNot = true from k8)], fun hh => by simp [(show bEq op opAtom = false from k1), (show bEq op opSame = false from k2)] at hh, rfl, rfl, rfl⟩
         | false =>
          cases k9 : (op.data.toList == (#[105, 109, 112, 108, 121] : Array UInt8).toList) with
          | true =>
           repeat' (first | refine a_seq fun K hK => ?_ | (refine a_block ?_) | ((first | refine a_regionS ?_ | refine a_region (fun K hK => ?_)); simp (maxSteps := 2000000) only [Ty.w, simprocAttr, k1, k2, k3, k4, k5, k6, k7, k8, k9, hlK]) | (refine a_cond _ (by (try simp (maxSteps := 2000000) only [Ty.w, simprocAttr, k1, k2, k3, k4, k5, k6, k7, k8, k9, hlK]); rfl) (fun hb => ?_) (fun hb => ?_) <;> (try simp only [hb0, decide_eq_true_eq, decide_eq_false_iff_not, simprocAttr] at hb) <;> (try (exfalso; omega))) | (refine hK _ _ ?_; clear hK; try simp only [pst0, simprocAttr]))
           simp (maxSteps := 2000000) only [Ty.w, simprocAttr, Ty.all, Fm.cells]
           exact ⟨0, 2, false, by simp [shapeOf, (show bEq op opAtom = false from k1), (show bEq op opSame = false from k2), (show bEq op opLt = false from k3), (show bEq op opLe = false from k4), (show bEq op opEq = false from k5), (show bEq op opAnd = false from k6), (show bEq op opOr = false from k7), (show bEq op opNot = false from k8), (show bEq op opImp = true from k9)], fun hh => by simp [(show bEq op opAtom = false from k1), (show bEq op opSame = false from k2)] at hh, rfl, rfl, rfl⟩
          | false =>
           cases k10 : (op.data.toList == (#[102, 111, 114, 97, 108, 108] : Array UInt8).toList) with
           | true =>
            repeat' (first | refine a_seq fun K hK => ?_ | (refine a_block ?_) | ((first | refine a_regionS ?_ | refine a_region (fun K hK => ?_)); simp (maxSteps := 2000000) only [Ty.w, simprocAttr, k1, k2, k3, k4, k5, k6, k7, k8, k9, k10, hlK]) | (refine a_skip ?_; try simp only [pst0, simprocAttr]) | (refine a_cond _ (by (try simp (maxSteps := 2000000) only [Ty.w, simprocAttr, k1, k2, k3, k4, k5, k6, k7, k8, k9, k10, hlK]); rfl) (fun hb => ?_) (fun hb => ?_) <;> (try simp only [hb0, decide_eq_true_eq, decide_eq_false_iff_not, simprocAttr] at hb) <;> (try (exfalso; omega))) | (refine hK _ _ ?_; clear hK; try simp only [pst0, simprocAttr]))
            simp (maxSteps := 2000000) only [Ty.w, simprocAttr, Ty.all, Fm.cells]
            exact ⟨0, 1, true, by simp [shapeOf, (show bEq op opAtom = false from k1), (show bEq op opSame = false from k2), (show bEq op opLt = false from k3), (show bEq op opLe = false from k4), (show bEq op opEq = false from k5), (show bEq op opAnd = false from k6), (show bEq op opOr = false from k7), (show bEq op opNot = false from k8), (show bEq op opImp = false from k9), (show bEq op opAll = true from k10)], fun hh => by simp [(show bEq op opAtom = false from k1), (show bEq op opSame = false from k2)] at hh, rfl, rfl, rfl⟩
           | false =>
            cases k11 : (op.data.toList == (#[101, 120, 105, 115, 116, 115] : Array UInt8).toList) with
            | true =>
             repeat' (first | refine a_seq fun K hK => ?_ | (refine a_block ?_) | ((first | refine a_regionS ?_ | refine a_region (fun K hK => ?_)); simp (maxSteps := 2000000) only [Ty.w, simprocAttr, k1, k2, k3, k4, k5, k6, k7, k8, k9, k10, k11, hlK]) | (refine a_cond _ (by (try simp (maxSteps := 2000000) only [Ty.w, simprocAttr, k1, k2, k3, k4, k5, k6, k7, k8, k9, k10, k11, hlK]); rfl) (fun hb => ?_) (fun hb => ?_) <;> (try simp only [hb0, decide_eq_true_eq, decide_eq_false_iff_not, simprocAttr] at hb) <;> (try (exfalso; omega))) | (refine hK _ _ ?_; clear hK; try simp only [pst0, simprocAttr]))
             simp (maxSteps := 2000000) only [Ty.w, simprocAttr, Ty.all, Fm.cells]
             exact ⟨0, 1, true, by simp [shapeOf, (show bEq op opAtom = false from k1), (show bEq op opSame = false from k2), (show bEq op opLt = false from k3), (show bEq op opLe = false from k4), (show bEq op opEq = false from k5), (show bEq op opAnd = false from k6), (show bEq op opOr = false from k7), (show bEq op opNot = false from k8), (show bEq op opImp = false from k9), (show bEq op opAll = false from k10), (show bEq op opSome = true from k11)], fun hh => by simp [(show bEq op opAtom = false from k1), (show bEq op opSame = false from k2)] at hh, rfl, rfl, rfl⟩
            | false =>
             have hp := hFf (by simp [partsOk, shapeOf, termsOk, (show bEq op opAtom = false from k1), (show bEq op opSame = false from k2), (show bEq op opLt = false from k3), (show bEq op opLe = false from k4), (show bEq op opEq = false from k5), (show bEq op opAnd = false from k6), (show bEq op opOr = false from k7), (show bEq op opNot = false from k8), (show bEq op opImp = false from k9), (show bEq op opAll = false from k10), (show bEq op opSome = false from k11)])
             subst hp
             repeat' (first | refine a_seq fun K hK => ?_ | ((first | refine a_regionS ?_ | refine a_ret ?_); simp (maxSteps := 2000000) only [Ty.w, simprocAttr, k1, k2, k3, k4, k5, k6, k7, k8, k9, k10, k11]) | (refine a_cond _ (by (try simp (maxSteps := 2000000) only [Ty.w, simprocAttr, k1, k2, k3, k4, k5, k6, k7, k8, k9, k10, k11]); rfl) (fun hb => ?_) (fun hb => ?_) <;> (try simp only [hb0, decide_eq_true_eq, decide_eq_false_iff_not, simprocAttr] at hb) <;> (try (exfalso; omega))) | (refine hK _ _ ?_; clear hK; try simp only [pst0, simprocAttr]))
             all_goals first | exact G1 | exact ⟨rfl, G1⟩
 ·rintro S h' ⟨rfl, g1, g2, g3, e, m, q, hs, ht, g7, g8, g9⟩
  simp only [Fm.cells] at g3
  have hO : headOk op name args params.length exprs.length kids.length = (termsOk op name args && decide (exprs.length = e) && decide (kids.length = m) && (decide (params.length = 0) || q)) := by unfold headOk; rw [hs]
  repeat' (with_reducible refine a_hold 24 ?_)
  refine ⟨?_⟩
  refine a_cut (fun S h2 => h2 = h' ∧ S 1 = .sc (.int .i64 d) ∧ S 2 = .ptr id 0 0 ∧ S 3 = .cptr (Fm.mk op name args params exprs kids).cells ∧ headOk op name args params.length exprs.length kids.length = true) ?_ ?_
  ·have hFh : headOk op name args params.length exprs.length kids.length = false → F = (false, n + 1) := fun hh => hFf (by rw [partsOk_head, hh]; try rfl)
   have tA : bEq op opAtom = (op.data.toList == (#[97, 116, 111, 109] : Array UInt8).toList) := rfl
   have tS : bEq op opSame = (op.data.toList == (#[115, 97, 109, 101] : Array UInt8).toList) := rfl
   clear hFf hFt ih hs
   refine a_seq (fun K hK => ?_)
   refine a_regionS (lwn_cut 20 (fun S h2 => h2 = h' ∧ S 1 = .sc (.int .i64 d) ∧ S 2 = .ptr id 0 0 ∧ S 3 = .cptr (Fm.mk op name args params exprs kids).cells ∧ S 7 = .sc (.int .i64 e) ∧ S 8 = .sc (.bool q) ∧ S 9 = .sc (.int .i64 m) ∧ ∃ b, S 91 = .sc (.bool b) ∧ (b = true → F = (false, n + 1)) ∧ (b = false → termsOk op name args = true)) ?_ ?_)
   ·cases k1 : (op.data.toList == (#[97, 116, 111, 109] : Array UInt8).toList) with
    | true =>
     simp (maxSteps := 2000000) only [Ty.w, simprocAttr, Ty.all, g1, g2, g3, g7, g8, g9, hlA, k1, Bool.not_true, Bool.not_false, Fm.cells]
     exact ⟨false, rfl, fun hh => absurd hh (by simp), fun _ => ht (by rw [tA, k1]; try rfl)⟩
    | false =>
     cases k2 : (op.data.toList == (#[115, 97, 109, 101] : Array UInt8).toList) with
     | true =>
      simp (maxSteps := 2000000) only [Ty.w, simprocAttr, Ty.all, g1, g2, g3, g7, g8, g9, hlA, k1, k2, Bool.not_true, Bool.not_false, Fm.cells]
      exact ⟨false, rfl, fun hh => absurd hh (by simp), fun _ => ht (by rw [tS, k2]; simp)⟩
     | false =>
      cases q1 : (name.data.toList == (#[] : Array UInt8).toList) with
      | false =>
       simp (maxSteps := 2000000) only [Ty.w, simprocAttr, Ty.all, g1, g2, g3, g7, g8, g9, hlA, k1, k2, q1, Bool.not_true, Bool.not_false, Fm.cells]
       exact ⟨true, rfl, fun _ => hFh (by rw [hO]; simp [termsOk, tA, tS, k1, k2, (show emptyB name = false from q1)]), fun hh => absurd hh (by simp)⟩
      | true =>
       cases q2 : decide ((args.length : Int) > 0) with
       | true =>
        simp (maxSteps := 2000000) only [Ty.w, simprocAttr, Ty.all, g1, g2, g3, g7, g8, g9, hlA, k1, k2, q1, q2, Bool.not_true, Bool.not_false, Fm.cells]
        exact ⟨true, rfl, fun _ => hFh (by rw [hO]; cases args with | nil => simp at q2 | cons a l => simp [termsOk, tA, tS, k1, k2]), fun hh => absurd hh (by simp)⟩
       | false =>
        simp (maxSteps := 2000000) only [Ty.w, simprocAttr, Ty.all, g1, g2, g3, g7, g8, g9, hlA, k1, k2, q1, q2, Bool.not_true, Bool.not_false, Fm.cells]
        exact ⟨false, rfl, fun hh => absurd hh (by simp), fun _ => by cases args with | nil => simp [termsOk, tA, tS, k1, k2, (show emptyB name = true from q1)] | cons a l => simp at q2⟩
   ·clear g1 g2 g3 g7 g8 g9
    rintro S h2 ⟨rfl, g1, g2, g3, g7, g8, g9, b, g91, hbt, hbf⟩
    simp only [Fm.cells] at g3
    clear ht tA tS
    cases b with
    | true =>
     have hp := hbt rfl
     subst hp
     simp (maxSteps := 2000000) only [Ty.w, simprocAttr, Ty.all, g1, g2, g3, g91, Bool.not_true, Bool.not_false]
     repeat' (first | refine a_seq fun K hK => ?_ | ((first | refine a_regionS ?_ | refine a_ret ?_); simp (maxSteps := 2000000) only [Ty.w, simprocAttr, g1, g2, g3, g91]) | (refine hK _ _ ?_; clear hK; try simp only [pst0, simprocAttr]))
     all_goals first | exact G1 | exact ⟨rfl, G1⟩
    | false =>
     have hts := hbf rfl
     clear hbt hbf
     cases c1 : ((exprs.length : Int) == (e : Int)) with
     | false =>
      have hp := hFh (by rw [hO]; simp [(show ¬ exprs.length = e by simp at c1; omega)])
      subst hp
      have c1p := eq_false (ne_of_beq_false c1)
      have c1i : ¬ exprs.length = e := by have := ne_of_beq_false c1; omega
      simp (maxSteps := 2000000) only [Ty.w, simprocAttr, Ty.all, g1, g2, g3, g7, g8, g9, hlA, hlP, hlE, hlK, g91, c1, c1p, Bool.not_true, Bool.not_false, not_false_eq_true, not_true_eq_false, if_true, if_false]
      repeat' (first | refine a_seq fun K hK => ?_ | ((first | refine a_regionS ?_ | refine a_ret ?_); simp (maxSteps := 2000000) only [Ty.w, simprocAttr, g1, g2, g3, g7, g8, g9, hlA, hlP, hlE, hlK, g91, c1, c1p, Bool.not_true, Bool.not_false, not_false_eq_true, not_true_eq_false, if_true, if_false]) | (with_reducible refine ite_in (fun hb => ?_) (fun hb => ?_) <;> (try simp only [Decidable.not_not] at hb) <;> (try simp only [hb, if_true, if_false, not_false_eq_true, not_true_eq_false, ↓reduceIte]) <;> (try simp only [hb0, decide_eq_true_eq, decide_eq_false_iff_not, simprocAttr] at hb) <;> (try (exfalso; omega))) | (refine hK _ _ ?_; clear hK; try simp only [pst0, simprocAttr]))
      all_goals first | exact G1 | exact ⟨rfl, G1⟩
     | true =>
      have c1p := eq_true (eq_of_beq c1)
      have c1i : exprs.length = e := by have := eq_of_beq c1; omega
      cases c2 : ((kids.length : Int) == (m : Int)) with
      | false =>
       have c2p := eq_false (ne_of_beq_false c2)
       have c2i : ¬ kids.length = m := by have := ne_of_beq_false c2; omega
       have hp := hFh (by rw [hO]; simp [(show ¬ kids.length = m by simp at c2; omega)])
       subst hp
       simp (maxSteps := 2000000) only [Ty.w, simprocAttr, Ty.all, g1, g2, g3, g7, g8, g9, hlA, hlP, hlE, hlK, g91, c1, c2, c1p, c2p, Bool.not_true, Bool.not_false, not_false_eq_true, not_true_eq_false, if_true, if_false]
       repeat' (first | refine a_seq fun K hK => ?_ | ((first | refine a_regionS ?_ | refine a_ret ?_); simp (maxSteps := 2000000) only [Ty.w, simprocAttr, g1, g2, g3, g7, g8, g9, hlA, hlP, hlE, hlK, g91, c1, c2, c1p, c2p, Bool.not_true, Bool.not_false, not_false_eq_true, not_true_eq_false, if_true, if_false]) | (with_reducible refine ite_in (fun hb => ?_) (fun hb => ?_) <;> (try simp only [Decidable.not_not] at hb) <;> (try simp only [hb, if_true, if_false, not_false_eq_true, not_true_eq_false, ↓reduceIte]) <;> (try simp only [hb0, decide_eq_true_eq, decide_eq_false_iff_not, simprocAttr] at hb) <;> (try (exfalso; omega))) | (refine hK _ _ ?_; clear hK; try simp only [pst0, simprocAttr]))
       all_goals first | exact G1 | exact ⟨rfl, G1⟩
      | true =>
       have c2p := eq_true (eq_of_beq c2)
       have c2i : kids.length = m := by have := eq_of_beq c2; omega
       cases c3 : decide ((params.length : Int) > 0) with
       | false =>
        have c3e : params = [] := List.eq_nil_of_length_eq_zero (by have := of_decide_eq_false c3; omega)
        simp (maxSteps := 2000000) only [Ty.w, simprocAttr, Ty.all, g1, g2, g3, g7, g8, g9, hlA, hlP, hlE, hlK, g91, c1, c2, c3, c1p, c2p, Bool.not_true, Bool.not_false, not_false_eq_true, not_true_eq_false, if_true, if_false]
        repeat' (first | (refine a_skip ?_; try simp only [pst0, simprocAttr]) | (refine a_cond _ (by (try simp (maxSteps := 2000000) only [Ty.w, simprocAttr, g1, g2, g3, g7, g8, g9, hlA, hlP, hlE, hlK, g91, c1, c2, c3, c1p, c2p, Bool.not_true, Bool.not_false, not_false_eq_true, not_true_eq_false, if_true, if_false]); rfl) (fun hb => ?_) (fun hb => ?_) <;> (try simp only [hb0, decide_eq_true_eq, decide_eq_false_iff_not, simprocAttr] at hb) <;> (try (exfalso; omega))) | (with_reducible refine ite_in (fun hb => ?_) (fun hb => ?_) <;> (try simp only [Decidable.not_not] at hb) <;> (try simp only [hb, if_true, if_false, not_false_eq_true, not_true_eq_false, ↓reduceIte]) <;> (try simp only [hb0, decide_eq_true_eq, decide_eq_false_iff_not, simprocAttr] at hb) <;> (try (exfalso; omega))) | (refine hK _ _ ?_; clear hK; try simp only [pst0, simprocAttr]))
        simp (maxSteps := 2000000) only [Ty.w, simprocAttr, Ty.all, g1, g2, g3, Fm.cells]
        rw [hO, hts]; simp [(show exprs.length = e by simp at c1; omega), (show kids.length = m by simp at c2; omega), c3e]
       | true =>
        cases q with
        | false =>
         have hp := hFh (by rw [hO]; simp [(show ¬ params.length = 0 by have := of_decide_eq_true c3; omega)])
         subst hp
         simp (maxSteps := 2000000) only [Ty.w, simprocAttr, Ty.all, g1, g2, g3, g7, g8, g9, hlA, hlP, hlE, hlK, g91, c1, c2, c3, c1p, c2p, Bool.not_true, Bool.not_false, not_false_eq_true, not_true_eq_false, if_true, if_false]
         repeat' (first | refine a_seq fun K hK => ?_ | ((first | refine a_regionS ?_ | refine a_ret ?_); simp (maxSteps := 2000000) only [Ty.w, simprocAttr, g1, g2, g3, g7, g8, g9, hlA, hlP, hlE, hlK, g91, c1, c2, c3, c1p, c2p, Bool.not_true, Bool.not_false, not_false_eq_true, not_true_eq_false, if_true, if_false]) | (with_reducible refine ite_in (fun hb => ?_) (fun hb => ?_) <;> (try simp only [Decidable.not_not] at hb) <;> (try simp only [hb, if_true, if_false, not_false_eq_true, not_true_eq_false, ↓reduceIte]) <;> (try simp only [hb0, decide_eq_true_eq, decide_eq_false_iff_not, simprocAttr] at hb) <;> (try (exfalso; omega))) | (refine hK _ _ ?_; clear hK; try simp only [pst0, simprocAttr]))
         all_goals first | exact G1 | exact ⟨rfl, G1⟩
        | true =>
         simp (maxSteps := 2000000) only [Ty.w, simprocAttr, Ty.all, g1, g2, g3, g7, g8, g9, hlA, hlP, hlE, hlK, g91, c1, c2, c3, c1p, c2p, Bool.not_true, Bool.not_false, not_false_eq_true, not_true_eq_false, if_true, if_false]
         repeat' (first | (refine a_skip ?_; try simp only [pst0, simprocAttr]) | (refine a_cond _ (by (try simp (maxSteps := 2000000) only [Ty.w, simprocAttr, g1, g2, g3, g7, g8, g9, hlA, hlP, hlE, hlK, g91, c1, c2, c3, c1p, c2p, Bool.not_true, Bool.not_false, not_false_eq_true, not_true_eq_false, if_true, if_false]); rfl) (fun hb => ?_) (fun hb => ?_) <;> (try simp only [hb0, decide_eq_true_eq, decide_eq_false_iff_not, simprocAttr] at hb) <;> (try (exfalso; omega))) | (with_reducible refine ite_in (fun hb => ?_) (fun hb => ?_) <;> (try simp only [Decidable.not_not] at hb) <;> (try simp only [hb, if_true, if_false, not_false_eq_true, not_true_eq_false, ↓reduceIte]) <;> (try simp only [hb0, decide_eq_true_eq, decide_eq_false_iff_not, simprocAttr] at hb) <;> (try (exfalso; omega))) | (refine hK _ _ ?_; clear hK; try simp only [pst0, simprocAttr]))
         simp (maxSteps := 2000000) only [Ty.w, simprocAttr, Ty.all, g1, g2, g3, Fm.cells]
         rw [hO, hts]; simp [(show exprs.length = e by simp at c1; omega), (show kids.length = m by simp at c2; omega)]
  ·clear g1 g2 g3 g7 g8 g9 ht hO hs
   rintro S h2 ⟨rfl, g1, g2, g3, hH⟩
   simp only [Fm.cells] at g3
   repeat' (with_reducible refine a_hold 26 ?_)
   refine ⟨?_⟩
   refine a_cut (fun S h' => S 1 = .sc (.int .i64 d) ∧ S 2 = .ptr id 0 0 ∧ S 3 = .cptr (Fm.mk op name args params exprs kids).cells ∧ GrowX h id (cntO (n + 1)) h' ∧ params.all pmOk = true) ?_ ?_
   ·have hFp : params.all pmOk = false → F = (false, n + 1) := fun hh => hFf (by rw [partsOk_head, hh]; simp)
    clear hFf hFt ih
    repeat' (first | refine a_seq fun K hK => ?_ | (refine a_block ?_) | (refine a_regionS ?_; simp (maxSteps := 2000000) only [Ty.w, simprocAttr, g1, g2, g3, hlP]) | (refine hK _ _ ?_; clear hK; try simp only [pst0, simprocAttr]))
    refine a_loop (fun c S h' => S 1 = .sc (.int .i64 d) ∧ S 2 = .ptr id 0 0 ∧ S 3 = .cptr (Fm.mk op name args params exprs kids).cells ∧ S 116 = .imm 2 (pmRows params) ∧ S 117 = .sc (.int .i64 params.length) ∧ ∃ k : Nat, S 118 = .sc (.int .i64 k) ∧ k ≤ params.length ∧ c = params.length - k ∧ GrowX h id (cntO (n + 1)) h' ∧ params.all pmOk = (params.drop k).all pmOk) params.length ?_ ?_
    ·simp only [Ty.w, simprocAttr, g1, g2, g3, Fm.cells]
     exact ⟨0, rfl, by omega, rfl, G1, rfl⟩
    ·clear G1 hO1 g1 g2 g3
     rintro c S h' ⟨g1, g2, g3, g116, g117, k, g118, hk, rfl, hG, hall⟩
     simp only [Fm.cells] at g3
     by_cases hlt : k < params.length
     ·have hdk : decide ((k : Int) < (params.length : Int)) = true := by simp; omega
      have w7 : IntKind.i64.wrap ((k : Int) + 1) = k + 1 := by rw [wrap64 (by omega) (by omega)]
      obtain ⟨p, hx⟩ : ∃ p, params[k]? = some p := ⟨_, List.getElem?_eq_getElem hlt⟩
      have hr := pmRows_get hx
      have hpk := hps p (List.mem_of_getElem? hx)
      obtain ⟨hp1, hp2⟩ := hpk
      have hp1' : p.name.size ≤ 9223372036854775807 := by unfold bigN at hp1; omega
      have hG2 : GrowX h id (cntO (n + 1)) ((h'.new (.arr 2 [[.sc (.string ⟨#[]⟩), .sc (.string ⟨#[]⟩)]])).set h'.next (.arr 2 [[sPV p.name, sPV p.type]])) := (hG.new hid).set hid hG.le
      rw [drop_get hx] at hall
      simp only [List.all_cons, pmOk] at hall
      cases v1 : varB p.name with
      | false =>
       have hp := hFp (by rw [hall, v1]; try rfl)
       subst hp
       have W := And.intro g1 (And.intro g2 (And.intro g3 (And.intro g116 (And.intro g117 (And.intro g118 v1)))))
       repeat' (first | refine a_seq fun K hK => ?_ | (refine a_regionS ?_; simp (maxSteps := 2000000) only [Ty.w, simprocAttr, W, hdk, hr]) | (refine a_skip ?_; try simp only [pst0, simprocAttr]) | (refine a_cond _ (by (try simp (maxSteps := 2000000) only [Ty.w, simprocAttr, W, hdk, hr]); rfl) (fun hb => ?_) (fun hb => ?_) <;> (try simp only [hb0, decide_eq_true_eq, decide_eq_false_iff_not, simprocAttr] at hb) <;> (try (exfalso; omega))) | (refine hK _ _ ?_; clear hK; try simp only [pst0, simprocAttr]))
       refine owp_useQ (fvariable_c (s := p.name) hp1') (by (try simp only [Ty.w, simprocAttr, W]); try rfl) ?_; simp (maxSteps := 2000000) only [Ty.w, simprocAttr, W]
       repeat' (first | refine a_seq fun K hK => ?_ | ((first | refine a_regionS ?_ | refine a_ret ?_); simp (maxSteps := 2000000) only [Ty.w, simprocAttr, W, Bool.not_false]) | (refine hK _ _ ?_; clear hK; try simp only [pst0, simprocAttr]))
       first | exact hG2 | exact ⟨rfl, hG2⟩
      | true =>
       cases v2 : typedB p.type with
       | false =>
        have hp := hFp (by rw [hall, v1, v2]; try rfl)
        subst hp
        have W := And.intro g1 (And.intro g2 (And.intro g3 (And.intro g116 (And.intro g117 (And.intro g118 (And.intro v1 v2))))))
        repeat' (first | refine a_seq fun K hK => ?_ | (refine a_regionS ?_; simp (maxSteps := 2000000) only [Ty.w, simprocAttr, W, hdk, hr]) | (refine a_skip ?_; try simp only [pst0, simprocAttr]) | (refine a_cond _ (by (try simp (maxSteps := 2000000) only [Ty.w, simprocAttr, W, hdk, hr]); rfl) (fun hb => ?_) (fun hb => ?_) <;> (try simp only [hb0, decide_eq_true_eq, decide_eq_false_iff_not, simprocAttr] at hb) <;> (try (exfalso; omega))) | (refine hK _ _ ?_; clear hK; try simp only [pst0, simprocAttr]))
        refine owp_useQ (fvariable_c (s := p.name) hp1') (by (try simp only [Ty.w, simprocAttr, W]); try rfl) ?_; simp (maxSteps := 2000000) only [Ty.w, simprocAttr, W]
        skip
        refine owp_useQ (typed_c (s := p.type) hp2) (by (try simp only [Ty.w, simprocAttr, W]); try rfl) ?_; simp (maxSteps := 2000000) only [Ty.w, simprocAttr, W]
        repeat' (first | refine a_seq fun K hK => ?_ | ((first | refine a_regionS ?_ | refine a_ret ?_); simp (maxSteps := 2000000) only [Ty.w, simprocAttr, W, Bool.not_false, Bool.not_true]) | (refine hK _ _ ?_; clear hK; try simp only [pst0, simprocAttr]))
        first | exact hG2 | exact ⟨rfl, hG2⟩
       | true =>
        rw [v1, v2] at hall
        have W := And.intro g1 (And.intro g2 (And.intro g3 (And.intro g116 (And.intro g117 (And.intro g118 (And.intro v1 v2))))))
        repeat' (first | refine a_seq fun K hK => ?_ | (refine a_regionS ?_; simp (maxSteps := 2000000) only [Ty.w, simprocAttr, W, hdk, hr]) | (refine a_skip ?_; try simp only [pst0, simprocAttr]) | (refine a_cond _ (by (try simp (maxSteps := 2000000) only [Ty.w, simprocAttr, W, hdk, hr]); rfl) (fun hb => ?_) (fun hb => ?_) <;> (try simp only [hb0, decide_eq_true_eq, decide_eq_false_iff_not, simprocAttr] at hb) <;> (try (exfalso; omega))) | (refine hK _ _ ?_; clear hK; try simp only [pst0, simprocAttr]))
        refine owp_useQ (fvariable_c (s := p.name) hp1') (by (try simp only [Ty.w, simprocAttr, W]); try rfl) ?_; simp (maxSteps := 2000000) only [Ty.w, simprocAttr, W]
        skip
        refine owp_useQ (typed_c (s := p.type) hp2) (by (try simp only [Ty.w, simprocAttr, W]); try rfl) ?_; simp (maxSteps := 2000000) only [Ty.w, simprocAttr, W]
        repeat' (first | (refine a_block ?_) | (refine a_regionS ?_; simp (maxSteps := 2000000) only [Ty.w, simprocAttr, W, w7, Bool.not_true]) | (refine a_skip ?_; try simp only [pst0, simprocAttr]) | (refine hK _ _ ?_; clear hK; try simp only [pst0, simprocAttr]))
        exact ⟨params.length - (k + 1), by omega, by simp only [Fm.cells], k + 1, by simp, by omega, rfl, hG2, by simpa using hall⟩
     ·have hdk : decide ((k : Int) < (params.length : Int)) = false := by simp; omega
      rw [List.drop_eq_nil_of_le (by omega)] at hall
      repeat' (first | refine a_seq fun K hK => ?_ | (refine a_regionS ?_; simp (maxSteps := 2000000) only [Ty.w, simprocAttr, g1, g2, g3, g116, g117, g118, hdk]) | (refine a_exit ?_; try simp only [pst0, simprocAttr]) | (refine a_cond _ (by (try simp (maxSteps := 2000000) only [Ty.w, simprocAttr, g1, g2, g3, g116, g117, g118, hdk]); rfl) (fun hb => ?_) (fun hb => ?_) <;> (try simp only [hb0, decide_eq_true_eq, decide_eq_false_iff_not, simprocAttr] at hb) <;> (try (exfalso; omega))) | (refine hK _ _ ?_; clear hK; try simp only [pst0, simprocAttr]))
      simp (maxSteps := 2000000) only [Ty.w, simprocAttr, Ty.all, g1, g2, g3, Fm.cells]
      exact ⟨hG, hall⟩
   ·clear g1 g2 g3 G1 hO1
    rintro S h' ⟨g1, g2, g3, hG, hall⟩
    simp only [Fm.cells] at g3
    have hFe := hFt (by rw [partsOk_head, hH, hall]; try rfl)
    clear hFt hFf hH hall
    repeat' (with_reducible refine a_hold 32 ?_)
    refine ⟨?_⟩
    refine a_cut (fun S h' => S 1 = .sc (.int .i64 d) ∧ S 2 = .ptr id 0 0 ∧ S 3 = .cptr (Fm.mk op name args params exprs kids).cells ∧ ∃ n' : Nat, n' ≤ 4096 ∧ GrowX h id (cntO n') h' ∧ F = shapedMs kids (d + 1) n') ?_ ?_
    ·clear ih
     repeat' (first | refine a_seq fun K hK => ?_ | (refine a_block ?_) | (refine a_regionS ?_; simp (maxSteps := 2000000) only [Ty.w, simprocAttr, g1, g2, g3, hlE]) | (refine hK _ _ ?_; clear hK; try simp only [pst0, simprocAttr]))
     refine a_loop (fun c S h' => S 1 = .sc (.int .i64 d) ∧ S 2 = .ptr id 0 0 ∧ S 3 = .cptr (Fm.mk op name args params exprs kids).cells ∧ S 134 = .imm 5 (Ex.rows exprs) ∧ S 135 = .sc (.int .i64 exprs.length) ∧ ∃ k n' : Nat, S 136 = .sc (.int .i64 k) ∧ k ≤ exprs.length ∧ c = exprs.length - k ∧ n' ≤ 4096 ∧ GrowX h id (cntO n') h' ∧ F = (match formedMs (exprs.drop k) (d + 1) n' with
      | (true, c') => shapedMs kids (d + 1) c'
      | (false, c') => (false, c'))) exprs.length ?_ ?_
     ·simp only [Ty.w, simprocAttr, g1, g2, g3, Fm.cells]
      exact ⟨0, n + 1, rfl, by omega, rfl, by omega, hG, hFe⟩
     ·clear g1 g2 g3 hG hFe
      rintro c S h' ⟨g1, g2, g3, g134, g135, k, n', g136, hk, rfl, hn', hG, hFe⟩
      simp only [Fm.cells] at g3
      by_cases hlt : k < exprs.length
      ·have hdk : decide ((k : Int) < (exprs.length : Int)) = true := by simp; omega
       have w7 : IntKind.i64.wrap ((k : Int) + 1) = k + 1 := by rw [wrap64 (by omega) (by omega)]
       obtain ⟨x, hx⟩ : ∃ x, exprs[k]? = some x := ⟨_, List.getElem?_eq_getElem hlt⟩
       have hmem := List.mem_of_getElem? hx
       have hr := Ex.rows_get hx
       have hne : id ≠ h'.next := by have := hG.le; omega
       have hcx := formed_c x (hes x hmem) (d + 1) n' (by omega) hn' id ((h'.new (.arr 5 [[.sc (.string ⟨#[]⟩), .sc (.string ⟨#[]⟩), .sc (.int .i64 0), .sc (.slice none 0 0), .sc (.slice none 0 0)]])).set h'.next (.arr 5 [x.cells])) (by simp only [Heap.set, Heap.new]; rw [if_neg hne, if_neg hne]; exact hG.at_)
       have hG2 : GrowX h id (cntO n') ((h'.new (.arr 5 [[.sc (.string ⟨#[]⟩), .sc (.string ⟨#[]⟩), .sc (.int .i64 0), .sc (.slice none 0 0), .sc (.slice none 0 0)]])).set h'.next (.arr 5 [x.cells])) := (hG.new hid).set hid hG.le
       have hle := formedM_le x (d + 1) n'
       rw [drop_get hx] at hFe
       simp only [formedMs] at hFe
       generalize formedM x (d + 1) n' = V at hcx hle hFe
       obtain ⟨b, n''⟩ := V
       simp only [natc] at hcx hle hFe
       obtain ⟨xo, xn, xv, xa, xk⟩ := x
       simp only [Ex.cells] at hr hcx hG2
       repeat' (first | refine a_seq fun K hK => ?_ | (refine a_regionS ?_; simp (maxSteps := 2000000) only [Ty.w, simprocAttr, g1, g2, g3, g134, g135, g136, hdk, hr, wd]) | (refine a_skip ?_; try simp only [pst0, simprocAttr]) | (refine a_cond _ (by (try simp (maxSteps := 2000000) only [Ty.w, simprocAttr, g1, g2, g3, g134, g135, g136, hdk, hr, wd]); rfl) (fun hb => ?_) (fun hb => ?_) <;> (try simp only [hb0, decide_eq_true_eq, decide_eq_false_iff_not, simprocAttr] at hb) <;> (try (exfalso; omega))) | (refine hK _ _ ?_; clear hK; try simp only [pst0, simprocAttr]))
       refine owp_useH (hcx) (by (try simp only [Ty.w, simprocAttr, g1, g2, g3, g134, g135, g136, hr, wd]); try rfl) ?_; simp (maxSteps := 2000000) only [Ty.w, simprocAttr, g1, g2, g3, g134, g135, g136, hr, wd]
       cases b with
       | false =>
        simp only at hFe
        subst hFe
        repeat' (first | refine a_seq fun K hK => ?_ | ((first | refine a_regionS ?_ | refine a_ret ?_); simp (maxSteps := 2000000) only [Ty.w, simprocAttr, g1, g2, g3, g134, g135, g136, Bool.not_false]) | (refine hK _ _ ?_; clear hK; try simp only [pst0, simprocAttr]))
        first | exact hG2.put | exact ⟨rfl, hG2.put⟩
       | true =>
        simp only at hFe
        repeat' (first | (refine a_block ?_) | (refine a_regionS ?_; simp (maxSteps := 2000000) only [Ty.w, simprocAttr, g1, g2, g3, g134, g135, g136, w7, Bool.not_true]) | (refine a_skip ?_; try simp only [pst0, simprocAttr]) | (refine hK _ _ ?_; clear hK; try simp only [pst0, simprocAttr]))
        exact ⟨exprs.length - (k + 1), by omega, by simp only [Fm.cells], k + 1, n'', by simp, by omega, rfl, hle rfl, hG2.put, hFe⟩
      ·have hdk : decide ((k : Int) < (exprs.length : Int)) = false := by simp; omega
       rw [List.drop_eq_nil_of_le (by omega)] at hFe
       simp only [formedMs] at hFe
       repeat' (first | refine a_seq fun K hK => ?_ | (refine a_regionS ?_; simp (maxSteps := 2000000) only [Ty.w, simprocAttr, g1, g2, g3, g134, g135, g136, hdk]) | (refine a_exit ?_; try simp only [pst0, simprocAttr]) | (refine a_cond _ (by (try simp (maxSteps := 2000000) only [Ty.w, simprocAttr, g1, g2, g3, g134, g135, g136, hdk]); rfl) (fun hb => ?_) (fun hb => ?_) <;> (try simp only [hb0, decide_eq_true_eq, decide_eq_false_iff_not, simprocAttr] at hb) <;> (try (exfalso; omega))) | (refine hK _ _ ?_; clear hK; try simp only [pst0, simprocAttr]))
       simp (maxSteps := 2000000) only [Ty.w, simprocAttr, Ty.all, g1, g2, g3, Fm.cells]
       exact ⟨n', hn', hG, hFe⟩
    ·clear g1 g2 g3 hG hFe
     rintro S h' ⟨g1, g2, g3, n0, hn0, hG, hFe⟩
     simp only [Fm.cells] at g3
     repeat' (first | refine a_seq fun K hK => ?_ | (refine a_block ?_) | (refine a_regionS ?_; simp (maxSteps := 2000000) only [Ty.w, simprocAttr, g1, g2, g3, hlK]) | (refine hK _ _ ?_; clear hK; try simp only [pst0, simprocAttr]))
     refine a_loop (fun c S h' => S 1 = .sc (.int .i64 d) ∧ S 2 = .ptr id 0 0 ∧ S 148 = .imm 6 (Fm.rows kids) ∧ S 149 = .sc (.int .i64 kids.length) ∧ ∃ k n' : Nat, S 150 = .sc (.int .i64 k) ∧ k ≤ kids.length ∧ c = kids.length - k ∧ n' ≤ 4096 ∧ GrowX h id (cntO n') h' ∧ F = shapedMs (kids.drop k) (d + 1) n') kids.length ?_ ?_
     ·simp only [Ty.w, simprocAttr, g1, g2]
      exact ⟨0, n0, rfl, by omega, rfl, hn0, hG, hFe⟩
     ·clear g1 g2 g3 hG hFe
      rintro c S h' ⟨g1, g2, g148, g149, k, n', g150, hk, rfl, hn', hG, hFe⟩
      by_cases hlt : k < kids.length
      ·have hdk : decide ((k : Int) < (kids.length : Int)) = true := by simp; omega
       have w7 : IntKind.i64.wrap ((k : Int) + 1) = k + 1 := by rw [wrap64 (by omega) (by omega)]
       obtain ⟨x, hx⟩ : ∃ x, kids[k]? = some x := ⟨_, List.getElem?_eq_getElem hlt⟩
       have hmem := List.mem_of_getElem? hx
       have hr := Fm.rows_get hx
       have hne : id ≠ h'.next := by have := hG.le; omega
       have hcx := ih x hmem (hks x hmem) (d + 1) n' (by omega) hn' id ((h'.new (.arr 6 [[.sc (.string ⟨#[]⟩), .sc (.string ⟨#[]⟩), .sc (.slice none 0 0), .sc (.slice none 0 0), .sc (.slice none 0 0), .sc (.slice none 0 0)]])).set h'.next (.arr 6 [x.cells])) (by simp only [Heap.set, Heap.new]; rw [if_neg hne, if_neg hne]; exact hG.at_)
       have hG2 : GrowX h id (cntO n') ((h'.new (.arr 6 [[.sc (.string ⟨#[]⟩), .sc (.string ⟨#[]⟩), .sc (.slice none 0 0), .sc (.slice none 0 0), .sc (.slice none 0 0), .sc (.slice none 0 0)]])).set h'.next (.arr 6 [x.cells])) := (hG.new hid).set hid hG.le
       have hle := shapedM_le x (d + 1) n'
       rw [drop_get hx] at hFe
       simp only [shapedMs] at hFe
       generalize shapedM x (d + 1) n' = V at hcx hle hFe
       obtain ⟨b, n''⟩ := V
       simp only [natc] at hcx hle hFe
       obtain ⟨xo, xn, xa, xp, xe, xk⟩ := x
       simp only [Fm.cells] at hr hcx hG2
       repeat' (first | refine a_seq fun K hK => ?_ | (refine a_regionS ?_; simp (maxSteps := 2000000) only [Ty.w, simprocAttr, g1, g2, g148, g149, g150, hdk, hr, wd]) | (refine a_skip ?_; try simp only [pst0, simprocAttr]) | (refine a_cond _ (by (try simp (maxSteps := 2000000) only [Ty.w, simprocAttr, g1, g2, g148, g149, g150, hdk, hr, wd]); rfl) (fun hb => ?_) (fun hb => ?_) <;> (try simp only [hb0, decide_eq_true_eq, decide_eq_false_iff_not, simprocAttr] at hb) <;> (try (exfalso; omega))) | (refine hK _ _ ?_; clear hK; try simp only [pst0, simprocAttr]))
       refine owp_useH (hcx) (by (try simp only [Ty.w, simprocAttr, g1, g2, g148, g149, g150, hr, wd]); try rfl) ?_; simp (maxSteps := 2000000) only [Ty.w, simprocAttr, g1, g2, g148, g149, g150, hr, wd]
       cases b with
       | false =>
        simp only at hFe
        subst hFe
        repeat' (first | refine a_seq fun K hK => ?_ | ((first | refine a_regionS ?_ | refine a_ret ?_); simp (maxSteps := 2000000) only [Ty.w, simprocAttr, g1, g2, g148, g149, g150, Bool.not_false]) | (refine hK _ _ ?_; clear hK; try simp only [pst0, simprocAttr]))
        first | exact hG2.put | exact ⟨rfl, hG2.put⟩
       | true =>
        simp only at hFe
        repeat' (first | (refine a_block ?_) | (refine a_regionS ?_; simp (maxSteps := 2000000) only [Ty.w, simprocAttr, g1, g2, g148, g149, g150, w7, Bool.not_true]) | (refine a_skip ?_; try simp only [pst0, simprocAttr]) | (refine hK _ _ ?_; clear hK; try simp only [pst0, simprocAttr]))
        exact ⟨kids.length - (k + 1), by omega, k + 1, n'', by simp, by omega, rfl, hle rfl, hG2.put, hFe⟩
      ·have hdk : decide ((k : Int) < (kids.length : Int)) = false := by simp; omega
       rw [List.drop_eq_nil_of_le (by omega)] at hFe
       simp only [shapedMs] at hFe
       subst hFe
       repeat' (first | refine a_seq fun K hK => ?_ | ((first | refine a_regionS ?_ | refine a_ret ?_); simp (maxSteps := 2000000) only [Ty.w, simprocAttr, g1, g2, g148, g149, g150, hdk]) | (refine a_exit ?_; try simp only [pst0, simprocAttr]) | (refine a_cond _ (by (try simp (maxSteps := 2000000) only [Ty.w, simprocAttr, g1, g2, g148, g149, g150, hdk]); rfl) (fun hb => ?_) (fun hb => ?_) <;> (try simp only [hb0, decide_eq_true_eq, decide_eq_false_iff_not, simprocAttr] at hb) <;> (try (exfalso; omega))) | ((first | refine hK _ _ ?_ | (clear hK; refine hK _ _ ?_)); clear hK; try simp only [pst0, simprocAttr]))
       first | exact hG | exact ⟨rfl, hG⟩
end Go.Proofs.Ytjlkapgpjamnkaa
namespace Go.AM
mutual
def Fm.small : Fm → Prop
 | .mk _ _ args params exprs kids => args.length ≤ 1048576 ∧ params.length ≤ 1048576 ∧ Ex.smalls exprs ∧ kids.length ≤ 1048576 ∧ Fm.smalls kids
def Fm.smalls : List Fm → Prop
 | [] => True
 | k :: ks => k.small ∧ Fm.smalls ks
end
theorem Fm.smalls_iff : {l : List Fm} → (Fm.smalls l ↔ ∀ k ∈ l, k.small)
 | [] => by simp [Fm.smalls]
 | k :: ks => by simp [Fm.smalls, Fm.smalls_iff (l := ks)]
end Go.AM
namespace Go.Proofs.Ytjlkapgpjamnkaa
open Go.AM
set_option maxHeartbeats 4000000
set_option maxRecDepth 20000
structure WrI (h : Heap) (L : List Sx) (h' : Heap) : Prop where
 grow : Grow h h'
 ex : ∃ p H, h.next + 1 < h'.next ∧ h'.obj h.next = some (.arr 6 [[.sc (.int .i64 0), .sc (.int .i64 0), .sc (.int .i64 0), .sc (.int .i64 0), .sc (.string ⟨#[]⟩), .sc (.slice none 0 0)]]) ∧
  h'.obj (h.next + 1) = some (.arr 6 [[.sc (.int .i64 3), .sc (.int .i64 0), .sc (.int .i64 0), .sc (.int .i64 0), .sc (.string ⟨#[]⟩), p]]) ∧ Tl h' (h.next + 2) 6 p (Sx.rows L) ∧
  isTail h' p = some (H, Sx.rows L) ∧ zOk h' 6 p = true ∧ H.next = h'.next ∧ (∀ j, j < h.next + 2 → H.obj j = h'.obj j) ∧ Grow h H ∧ p.cells = [p] ∧ oneC p = true
theorem WrI.mk2 {h h' : Heap} {L : List Sx} {p : PV} (g : Grow h h') (hn : h.next + 1 < h'.next) (o1 : h'.obj h.next = some (.arr 6 [[.sc (.int .i64 0), .sc (.int .i64 0), .sc (.int .i64 0), .sc (.int .i64 0), .sc (.string ⟨#[]⟩), .sc (.slice none 0 0)]])) (o2 : h'.obj (h.next + 1) = some (.arr 6 [[.sc (.int .i64 3), .sc (.int .i64 0), .sc (.int .i64 0), .sc (.int .i64 0), .sc (.string ⟨#[]⟩), p]])) (tl : Tl h' (h.next + 2) 6 p (Sx.rows L)) : WrI h L h' := by
 obtain ⟨H, t1, t2, t3, t4, t5⟩ := tl.tail
 have hk := t5 h ⟨g.le, g.old⟩ (by omega)
 refine ⟨g, p, H, hn, o1, o2, tl, t1, t2, t3, t4, ⟨hk.1, hk.2⟩, ?_, ?_⟩
 ·rcases tl with ⟨_, rfl | rfl⟩ | ⟨_, _, _, rfl, _⟩ <;> rfl
 ·rcases tl with ⟨_, rfl | rfl⟩ | ⟨_, _, _, rfl, _⟩ <;> rfl
theorem Tl.low {h : Heap} {a b z : Nat} {p : PV} {rows : List (List PV)} (t : Tl h a z p rows) (hab : b ≤ a) : Tl h b z p rows := by
 rcases t with ht | ⟨id, h1, h2⟩
 ·exact .inl ht
 ·exact .inr ⟨id, by omega, h2⟩
theorem WrI.push {h h' H : Heap} {L : List Sx} {X : Sx} {m : Nat} (hn : h.next + 1 < h'.next) (o1 : h'.obj h.next = some (.arr 6 [[.sc (.int .i64 0), .sc (.int .i64 0), .sc (.int .i64 0), .sc (.int .i64 0), .sc (.string ⟨#[]⟩), .sc (.slice none 0 0)]])) (t3 : H.next = h'.next) (t4 : ∀ j, j < h.next + 2 → H.obj j = h'.obj j) (g : Grow h H) (hm : m = L.length + 1) :
  WrI h (L ++ [X]) ((H.new (.arr 6 (Sx.rows L ++ [X.cells]))).set (h.next + 1) (.arr 6 [[.sc (.int .i64 3), .sc (.int .i64 0), .sc (.int .i64 0), .sc (.int .i64 0), .sc (.string ⟨#[]⟩), .own h'.next 0 m]])) := by
 have e1 : Sx.rows (L ++ [X]) = Sx.rows L ++ [X.cells] := by simp [Sx.rows_map]
 have n1 : ¬ h.next = h.next + 1 := by omega
 have n2 : ¬ h.next = H.next := by omega
 refine WrI.mk2 (p := .own h'.next 0 m) ((g.new _).set (by omega) _) (by simp only [Heap.set, Heap.new]; omega) ?_ ?_ ?_
 rotate_left
 ·simp only [Heap.set, if_true]
 ·rw [e1, ← t3]
  have : Tl (H.new (.arr 6 (Sx.rows L ++ [X.cells]))) (h.next + 2) 6 (.own H.next 0 m) (Sx.rows L ++ [X.cells]) := Tl.grow (by omega) (by rw [hm]; simp [Sx.rows_len])
  exact this.up (Nat.le_refl _) (fun j hj _ => by simp only [Heap.set]; rw [if_neg (by omega)])
 ·simp only [Heap.set, Heap.new, n1, n2, if_false]
  rw [t4 _ (by omega)]; exact o1
theorem a_heap {P : Program} {ow : Nat → Bool} {wf : FuncId → Bool} {n : Nat} {Q : Post} {s : Slots} {h0 : Heap} {c : Code} (I : Heap → Prop) (hi : I h0) (hh : ∀ h', I h' → awp P ow wf n c Q s h') : awp P ow wf n c Q s h0 := hh _ hi
theorem write_c : ∀ f : Fm, f.small → shapedF f = true → ∀ h : Heap, PCall Try.prog 65 [.agg f.cells] h fun r h' => r = .agg (fmW f).cells ∧ h' = h := by
 refine Fm.ind ?_
 intro op name args params exprs kids ih hsm hsh h
 simp only [Fm.small] at hsm
 obtain ⟨hal, hpl, hes, hkl, hks⟩ := hsm
 rw [Ex.smalls_iff] at hes
 rw [Fm.smalls_iff] at hks
 simp only [shapedF, Bool.and_eq_true] at hsh
 obtain ⟨⟨hpo, hse⟩, hsk⟩ := hsh
 rw [shapedFs_iff] at hsk
 rw [List.all_eq_true] at hse
 have hlK := Fm.rows_len kids
 unfold fmW
 refine PCall.frz Ty.hb_65 ?_
 cases k1 : (op.data.toList == (#[97, 116, 111, 109] : Array UInt8).toList) with
 | true =>
  rw [if_pos (show bEq op opAtom = true from k1)]
  have hw : ∀ h : Heap, PCall Try.prog 109 [sPV name, .imm 1 (strRows args)] h fun r h' => r = .agg (wordsM name args).cells ∧ h' = h := fun h => words_c hal
  have hfz := fun (n : Nat) (h : Heap) => sx_frz n h (wordsM name args)
  simp only [Fm.cells]
  generalize wordsM name args = X at hw hfz ⊢
  obtain ⟨ki, va, li, co, te, ks⟩ := X
  simp only [Sx.cells] at hw hfz ⊢
  refine pcall_body (ow := fun _ => false) (wf := fun _ => false) Ty.mixed Try.func65 rfl Ty.hb_65 (by rw [Try.ntmps65]; simp) ?_
  rw [Try.ntmps65, Try.results65]
  repeat' (first | refine a_seq fun K hK => ?_ | (refine a_regionS ?_; simp (maxSteps := 2000000) only [Ty.w, simprocAttr, k1]) | (refine hK _ _ ?_; clear hK; try simp only [pst0, simprocAttr]))
  refine owp_useQ (hw _) (by (try simp only [Ty.w, simprocAttr, k1]); try rfl) ?_; simp (maxSteps := 2000000) only [Ty.w, simprocAttr, k1]
  repeat' (first | (refine a_ret ?_; simp (maxSteps := 2000000) only [Ty.w, simprocAttr]) | (refine hK _ _ ?_; clear hK; try simp only [pst0, simprocAttr]))
  refine ⟨?_, ((Grow.refl h).new _).set (Nat.le_refl _) _⟩
  simp only [FrzTo]
  exact ⟨_, rfl, hfz _ _⟩
 | false =>
  cases k2 : (op.data.toList == (#[115, 97, 109, 101] : Array UInt8).toList) with
  | true =>
   rw [if_neg (by rw [(show bEq op opAtom = false from k1)]; simp)]
   rw [if_pos (show bEq op opSame = true from k2)]
   have hw : ∀ h : Heap, PCall Try.prog 109 [sPV ⟨#[61]⟩, .imm 1 (strRows args)] h fun r h' => r = .agg (wordsM opEq args).cells ∧ h' = h := fun h => words_c hal
   have hfz := fun (n : Nat) (h : Heap) => sx_frz n h (wordsM opEq args)
   simp only [Fm.cells]
   generalize wordsM opEq args = X at hw hfz ⊢
   obtain ⟨ki, va, li, co, te, ks⟩ := X
   simp only [Sx.cells] at hw hfz ⊢
   refine pcall_body (ow := fun _ => false) (wf := fun _ => false) Ty.mixed Try.func65 rfl Ty.hb_65 (by rw [Try.ntmps65]; simp) ?_
   rw [Try.ntmps65, Try.results65]
   repeat' (first | refine a_seq fun K hK => ?_ | (refine a_regionS ?_; simp (maxSteps := 2000000) only [Ty.w, simprocAttr, k1, k2]) | (refine hK _ _ ?_; clear hK; try simp only [pst0, simprocAttr]))
   refine owp_useQ (hw _) (by (try simp only [Ty.w, simprocAttr, k1, k2]); try rfl) ?_; simp (maxSteps := 2000000) only [Ty.w, simprocAttr, k1, k2]
   repeat' (first | (refine a_ret ?_; simp (maxSteps := 2000000) only [Ty.w, simprocAttr]) | (refine hK _ _ ?_; clear hK; try simp only [pst0, simprocAttr]))
   refine ⟨?_, ((Grow.refl h).new _).set (Nat.le_refl _) _⟩
   simp only [FrzTo]
   exact ⟨_, rfl, hfz _ _⟩
  | false =>
   rw [if_neg (by rw [(show bEq op opAtom = false from k1)]; simp), if_neg (by rw [(show bEq op opSame = false from k2)]; simp)]
   cases k3 : (op.data.toList == (#[60] : Array UInt8).toList) with
   | true =>
    rw [if_pos (by simp [isCmp, (show bEq op opAtom = false from k1), (show bEq op opSame = false from k2), (show bEq op opLt = true from k3)])]
    have hx2 : exprs.length = 2 := by have q := hpo; simp [partsOk, shapeOf, (show bEq op opAtom = false from k1), (show bEq op opSame = false from k2), (show bEq op opLt = true from k3)] at q; omega
    obtain ⟨a, b, rfl⟩ : ∃ a b, exprs = [a, b] := by
     match exprs, hx2 with
     | [a, b], _ => exact ⟨a, b, rfl⟩
    have ca := writeE_c a (hes a (by simp)) (hse a (by simp))
    have cb := writeE_c b (hes b (by simp)) (hse b (by simp))
    have hw := fun h : Heap => word_c (h := h) (s := op)
    simp only [List.map_cons, List.map_nil]
    have hfz := fun (n : Nat) (h : Heap) => sx_frz n h (listM [wordM op, exW a, exW b])
    have hl := fun h : Heap => list_c (h := h) (p := .imm 6 (Sx.rows [wordM op, exW a, exW b])) rfl (fun _ => frz_imm (sxs_in _ _))
    generalize exW a = xa at ca hfz hl ⊢
    generalize exW b = xb at cb hfz hl ⊢
    clear ih hks hpo hse hsk hes
    obtain ⟨aop, aname, an, aargs, akids⟩ := a
    obtain ⟨bop, bname, bn, bargs, bkids⟩ := b
    obtain ⟨ki, va, li, co, te, ks⟩ := xa
    obtain ⟨ki2, va2, li2, co2, te2, ks2⟩ := xb
    simp only [Fm.cells, Ex.cells, Ex.rows, listM, Sx.cells, Sx.rows, wordM] at ca cb hw hfz hl ⊢
    refine pcall_body (ow := fun _ => false) (wf := fun _ => false) Ty.mixed Try.func65 rfl Ty.hb_65 (by rw [Try.ntmps65]; simp) ?_
    rw [Try.ntmps65, Try.results65]
    repeat' (first | refine a_seq fun K hK => ?_ | ((first | refine a_regionS ?_ | refine a_drawS (by decide +kernel) ?_); simp (maxSteps := 2000000) only [Ty.w, simprocAttr, k1, k2, k3]) | (refine a_skip ?_; try simp only [pst0, simprocAttr]) | (refine a_cond _ (by (try simp (maxSteps := 2000000) only [Ty.w, simprocAttr, k1, k2, k3]); rfl) (fun hb => ?_) (fun hb => ?_) <;> (try simp only [hb0, decide_eq_true_eq, decide_eq_false_iff_not, simprocAttr] at hb) <;> (try (exfalso; omega))) | (refine hK _ _ ?_; clear hK; try simp only [pst0, simprocAttr]))
    (first | refine a_dcall0 (hw _) (by (try simp only [Ty.w, simprocAttr, ]); try rfl) ?_ | refine a_dcallA (hw _) (by (try simp only [Ty.w, simprocAttr, ]); try rfl) (by simp only [Ty.w, simprocAttr, ]; try trivial) ?_); simp (maxSteps := 2000000) only [Ty.w, simprocAttr, Option.getD_some, ]
    skip
    (first | refine a_dcall0 (ca _) (by (try simp only [Ty.w, simprocAttr, ]); try rfl) ?_ | refine a_dcallA (ca _) (by (try simp only [Ty.w, simprocAttr, ]); try rfl) (by simp only [Ty.w, simprocAttr, ]; try trivial) ?_); simp (maxSteps := 2000000) only [Ty.w, simprocAttr, Option.getD_some, ]
    skip
    (first | refine a_dcall0 (cb _) (by (try simp only [Ty.w, simprocAttr, ]); try rfl) ?_ | refine a_dcallA (cb _) (by (try simp only [Ty.w, simprocAttr, ]); try rfl) (by simp only [Ty.w, simprocAttr, ]; try trivial) ?_); simp (maxSteps := 2000000) only [Ty.w, simprocAttr, Option.getD_some, ]
    skip
    (first | refine a_dcall0 (hl _) (by (try simp only [Ty.w, simprocAttr, ]); try rfl) ?_ | refine a_dcallA (hl _) (by (try simp only [Ty.w, simprocAttr, ]); try rfl) (by simp only [Ty.w, simprocAttr, ]; try trivial) ?_); simp (maxSteps := 2000000) only [Ty.w, simprocAttr, Option.getD_some, ]
    repeat' (first | (refine a_ret ?_; simp (maxSteps := 2000000) only [Ty.w, simprocAttr]) | (refine hK _ _ ?_; clear hK; try simp only [pst0, simprocAttr]) | (with_reducible refine a_past2 (by simp only [List.forall_mem_cons, Ty.w, simprocAttr]; (repeat' apply And.intro) <;> first | trivial | exact .inl (by decide +kernel)) ?_; try simp (maxSteps := 2000000) only [Ty.w, simprocAttr]))
    refine ⟨?_, ((Grow.refl h).new _).set (Nat.le_refl _) _⟩
    simp only [FrzTo]
    exact ⟨_, rfl, hfz _ _⟩
   | false =>
    cases k4 : (op.data.toList == (#[60, 61] : Array UInt8).toList) with
    | true =>
     rw [if_pos (by simp [isCmp, (show bEq op opAtom = false from k1), (show bEq op opSame = false from k2), (show bEq op opLt = false from k3), (show bEq op opLe = true from k4)])]
     have hx2 : exprs.length = 2 := by have q := hpo; simp [partsOk, shapeOf, (show bEq op opAtom = false from k1), (show bEq op opSame = false from k2), (show bEq op opLt = false from k3), (show bEq op opLe = true from k4)] at q; omega
     obtain ⟨a, b, rfl⟩ : ∃ a b, exprs = [a, b] := by
      match exprs, hx2 with
      | [a, b], _ => exact ⟨a, b, rfl⟩
     have ca := writeE_c a (hes a (by simp)) (hse a (by simp))
     have cb := writeE_c b (hes b (by simp)) (hse b (by simp))
     have hw := fun h : Heap => word_c (h := h) (s := op)
     simp only [List.map_cons, List.map_nil]
     have hfz := fun (n : Nat) (h : Heap) => sx_frz n h (listM [wordM op, exW a, exW b])
     have hl := fun h : Heap => list_c (h := h) (p := .imm 6 (Sx.rows [wordM op, exW a, exW b])) rfl (fun _ => frz_imm (sxs_in _ _))
     generalize exW a = xa at ca hfz hl ⊢
     generalize exW b = xb at cb hfz hl ⊢
     clear ih hks hpo hse hsk hes
     obtain ⟨aop, aname, an, aargs, akids⟩ := a
     obtain ⟨bop, bname, bn, bargs, bkids⟩ := b
     obtain ⟨ki, va, li, co, te, ks⟩ := xa
     obtain ⟨ki2, va2, li2, co2, te2, ks2⟩ := xb
     simp only [Fm.cells, Ex.cells, Ex.rows, listM, Sx.cells, Sx.rows, wordM] at ca cb hw hfz hl ⊢
     refine pcall_body (ow := fun _ => false) (wf := fun _ => false) Ty.mixed Try.func65 rfl Ty.hb_65 (by rw [Try.ntmps65]; simp) ?_
     rw [Try.ntmps65, Try.results65]
     repeat' (first | refine a_seq fun K hK => ?_ | ((first | refine a_regionS ?_ | refine a_drawS (by decide +kernel) ?_); simp (maxSteps := 2000000) only [Ty.w, simprocAttr, k1, k2, k3, k4]) | (refine a_skip ?_; try simp only [pst0, simprocAttr]) | (refine a_cond _ (by (try simp (maxSteps := 2000000) only [Ty.w, simprocAttr, k1, k2, k3, k4]); rfl) (fun hb => ?_) (fun hb => ?_) <;> (try simp only [hb0, decide_eq_true_eq, decide_eq_false_iff_not, simprocAttr] at hb) <;> (try (exfalso; omega))) | (refine hK _ _ ?_; clear hK; try simp only [pst0, simprocAttr]))
     (first | refine a_dcall0 (hw _) (by (try simp only [Ty.w, simprocAttr, ]); try rfl) ?_ | refine a_dcallA (hw _) (by (try simp only [Ty.w, simprocAttr, ]); try rfl) (by simp only [Ty.w, simprocAttr, ]; try trivial) ?_); simp (maxSteps := 2000000) only [Ty.w, simprocAttr, Option.getD_some, ]
     skip
     (first | refine a_dcall0 (ca _) (by (try simp only [Ty.w, simprocAttr, ]); try rfl) ?_ | refine a_dcallA (ca _) (by (try simp only [Ty.w, simprocAttr, ]); try rfl) (by simp only [Ty.w, simprocAttr, ]; try trivial) ?_); simp (maxSteps := 2000000) only [Ty.w, simprocAttr, Option.getD_some, ]
     skip
     (first | refine a_dcall0 (cb _) (by (try simp only [Ty.w, simprocAttr, ]); try rfl) ?_ | refine a_dcallA (cb _) (by (try simp only [Ty.w, simprocAttr, ]); try rfl) (by simp only [Ty.w, simprocAttr, ]; try trivial) ?_); simp (maxSteps := 2000000) only [Ty.w, simprocAttr, Option.getD_some, ]
     skip
     (first | refine a_dcall0 (hl _) (by (try simp only [Ty.w, simprocAttr, ]); try rfl) ?_ | refine a_dcallA (hl _) (by (try simp only [Ty.w, simprocAttr, ]); try rfl) (by simp only [Ty.w, simprocAttr, ]; try trivial) ?_); simp (maxSteps := 2000000) only [Ty.w, simprocAttr, Option.getD_some, ]
     repeat' (first | (refine a_ret ?_; simp (maxSteps := 2000000) only [Ty.w, simprocAttr]) | (refine hK _ _ ?_; clear hK; try simp only [pst0, simprocAttr]) | (with_reducible refine a_past2 (by simp only [List.forall_mem_cons, Ty.w, simprocAttr]; (repeat' apply And.intro) <;> first | trivial | exact .inl (by decide +kernel)) ?_; try simp (maxSteps := 2000000) only [Ty.w, simprocAttr]))
     refine ⟨?_, ((Grow.refl h).new _).set (Nat.le_refl _) _⟩
     simp only [FrzTo]
     exact ⟨_, rfl, hfz _ _⟩
    | false =>
     cases k5 : (op.data.toList == (#[61] : Array UInt8).toList) with
     | true =>
      rw [if_pos (by simp [isCmp, (show bEq op opAtom = false from k1), (show bEq op opSame = false from k2), (show bEq op opLt = false from k3), (show bEq op opLe = false from k4), (show bEq op opEq = true from k5)])]
      have hx2 : exprs.length = 2 := by have q := hpo; simp [partsOk, shapeOf, (show bEq op opAtom = false from k1), (show bEq op opSame = false from k2), (show bEq op opLt = false from k3), (show bEq op opLe = false from k4), (show bEq op opEq = true from k5)] at q; omega
      obtain ⟨a, b, rfl⟩ : ∃ a b, exprs = [a, b] := by
       match exprs, hx2 with
       | [a, b], _ => exact ⟨a, b, rfl⟩
      have ca := writeE_c a (hes a (by simp)) (hse a (by simp))
      have cb := writeE_c b (hes b (by simp)) (hse b (by simp))
      have hw := fun h : Heap => word_c (h := h) (s := op)
      simp only [List.map_cons, List.map_nil]
      have hfz := fun (n : Nat) (h : Heap) => sx_frz n h (listM [wordM op, exW a, exW b])
      have hl := fun h : Heap => list_c (h := h) (p := .imm 6 (Sx.rows [wordM op, exW a, exW b])) rfl (fun _ => frz_imm (sxs_in _ _))
      generalize exW a = xa at ca hfz hl ⊢
      generalize exW b = xb at cb hfz hl ⊢
      clear ih hks hpo hse hsk hes
      obtain ⟨aop, aname, an, aargs, akids⟩ := a
      obtain ⟨bop, bname, bn, bargs, bkids⟩ := b
      obtain ⟨ki, va, li, co, te, ks⟩ := xa
      obtain ⟨ki2, va2, li2, co2, te2, ks2⟩ := xb
      simp only [Fm.cells, Ex.cells, Ex.rows, listM, Sx.cells, Sx.rows, wordM] at ca cb hw hfz hl ⊢
      refine pcall_body (ow := fun _ => false) (wf := fun _ => false) Ty.mixed Try.func65 rfl Ty.hb_65 (by rw [Try.ntmps65]; simp) ?_
      rw [Try.ntmps65, Try.results65]
      repeat' (first | refine a_seq fun K hK => ?_ | ((first | refine a_regionS ?_ | refine a_drawS (by decide +kernel) ?_); simp (maxSteps := 2000000) only [Ty.w, simprocAttr, k1, k2, k3, k4, k5]) | (refine a_cond _ (by (try simp (maxSteps := 2000000) only [Ty.w, simprocAttr, k1, k2, k3, k4, k5]); rfl) (fun hb => ?_) (fun hb => ?_) <;> (try simp only [hb0, decide_eq_true_eq, decide_eq_false_iff_not, simprocAttr] at hb) <;> (try (exfalso; omega))) | (refine hK _ _ ?_; clear hK; try simp only [pst0, simprocAttr]))
      (first | refine a_dcall0 (hw _) (by (try simp only [Ty.w, simprocAttr, ]); try rfl) ?_ | refine a_dcallA (hw _) (by (try simp only [Ty.w, simprocAttr, ]); try rfl) (by simp only [Ty.w, simprocAttr, ]; try trivial) ?_); simp (maxSteps := 2000000) only [Ty.w, simprocAttr, Option.getD_some, ]
      skip
      (first | refine a_dcall0 (ca _) (by (try simp only [Ty.w, simprocAttr, ]); try rfl) ?_ | refine a_dcallA (ca _) (by (try simp only [Ty.w, simprocAttr, ]); try rfl) (by simp only [Ty.w, simprocAttr, ]; try trivial) ?_); simp (maxSteps := 2000000) only [Ty.w, simprocAttr, Option.getD_some, ]
      skip
      (first | refine a_dcall0 (cb _) (by (try simp only [Ty.w, simprocAttr, ]); try rfl) ?_ | refine a_dcallA (cb _) (by (try simp only [Ty.w, simprocAttr, ]); try rfl) (by simp only [Ty.w, simprocAttr, ]; try trivial) ?_); simp (maxSteps := 2000000) only [Ty.w, simprocAttr, Option.getD_some, ]
      skip
      (first | refine a_dcall0 (hl _) (by (try simp only [Ty.w, simprocAttr, ]); try rfl) ?_ | refine a_dcallA (hl _) (by (try simp only [Ty.w, simprocAttr, ]); try rfl) (by simp only [Ty.w, simprocAttr, ]; try trivial) ?_); simp (maxSteps := 2000000) only [Ty.w, simprocAttr, Option.getD_some, ]
      repeat' (first | (refine a_ret ?_; simp (maxSteps := 2000000) only [Ty.w, simprocAttr]) | (refine hK _ _ ?_; clear hK; try simp only [pst0, simprocAttr]) | (with_reducible refine a_past2 (by simp only [List.forall_mem_cons, Ty.w, simprocAttr]; (repeat' apply And.intro) <;> first | trivial | exact .inl (by decide +kernel)) ?_; try simp (maxSteps := 2000000) only [Ty.w, simprocAttr]))
      refine ⟨?_, ((Grow.refl h).new _).set (Nat.le_refl _) _⟩
      simp only [FrzTo]
      exact ⟨_, rfl, hfz _ _⟩
     | false =>
      rw [if_neg (by simp [isCmp, (show bEq op opLt = false from k3), (show bEq op opLe = false from k4), (show bEq op opEq = false from k5)])]
      clear hse hes hpo
      simp only [Fm.cells]
      refine pcall_body (ow := fun _ => false) (wf := fun _ => false) Ty.mixed Try.func65 rfl Ty.hb_65 (by rw [Try.ntmps65]; simp) ?_
      rw [Try.ntmps65, Try.results65]
      repeat' (first | refine a_seq fun K hK => ?_ | (refine a_block ?_) | (refine a_regionS ?_; simp (maxSteps := 2000000) only [Ty.w, simprocAttr, k1, k2, k3, k4, k5]) | (refine a_skip ?_; try simp only [pst0, simprocAttr]) | (refine a_cond _ (by (try simp (maxSteps := 2000000) only [Ty.w, simprocAttr, k1, k2, k3, k4, k5]); rfl) (fun hb => ?_) (fun hb => ?_) <;> (try simp only [hb0, decide_eq_true_eq, decide_eq_false_iff_not, simprocAttr] at hb) <;> (try (exfalso; omega))) | (refine hK _ _ ?_; clear hK; try simp only [pst0, simprocAttr]))
      refine owp_useQ (list_c (p := .sc (.slice none 0 0)) rfl (fun _ => by simp only [FrzTo])) (by (try simp only [Ty.w, simprocAttr, k1]); try rfl) ?_; simp (maxSteps := 2000000) only [Ty.w, simprocAttr, k1]
      repeat' (first | (with_reducible refine a_hold 11 ?_) | (refine hK _ _ ?_; clear hK; try simp only [pst0, simprocAttr]))
      refine ⟨?_⟩
      refine a_heap (WrI h []) ?_ (fun H0 hI => ?_)
      ·refine WrI.mk2 (p := .sc (.slice none 0 0)) ((((Grow.refl h).new _).new _).set (by omega) _) (by simp [Heap.new, Heap.set]) (by simp [Heap.new, Heap.set]) (by simp [Heap.new, Heap.set]) Tl.nil
      refine a_cut (fun S h' => S 1 = .cptr (Fm.mk op name args params exprs kids).cells ∧ S 2 = .ptr h.next 0 0 ∧ S 3 = .ptr (h.next + 1) 0 0 ∧ WrI h (if (bEq op opAnd && kids.isEmpty) = true then [] else [wordM op]) h') ?_ ?_
      ·have n6 : bEq op opAnd = (op.data.toList == (#[97, 110, 100] : Array UInt8).toList) := rfl
       cases k6 : (op.data.toList == (#[97, 110, 100] : Array UInt8).toList) with
       | false =>
        rw [if_neg (by rw [n6, k6]; simp)]
        obtain ⟨hg, p, H, hn, o1, o2, tl, t1, t2, t3, t4, hgH, hpc, hp1⟩ := hI
        have hw : ∀ (s : ByteArray) (h : Heap), PCall Try.prog 111 [sPV s] h fun r h' => r = .agg (wordM s).cells ∧ h' = h := fun s h => word_c
        simp only [wordM, Sx.cells, Sx.rows] at hw
        have o2H : H.obj (h.next + 1) = _ := (t4 _ (by omega)).trans o2
        have n2 : (h.next + 1 = H.next) = False := by simp; omega
        have hpr : (Sx.rows ([] : List Sx)).length = 0 := rfl
        have hpush := fun X : Sx => WrI.push (L := []) (X := X) (m := 1) hn o1 t3 t4 hgH rfl
        generalize Sx.rows [] = R at t1 hpr hpush
        have W := And.intro k6 (And.intro o2 (And.intro o2H (And.intro n2 (And.intro t1 (And.intro t2 (And.intro hpr (And.intro hpc hp1)))))))
        repeat' (first | refine a_seq fun K hK => ?_ | ((first | refine a_regionS ?_ | refine a_drawS (by decide +kernel) ?_); simp (maxSteps := 2000000) only [Ty.w, simprocAttr, W, Bool.not_false]) | (refine a_cond _ (by (try simp (maxSteps := 2000000) only [Ty.w, simprocAttr, W, Bool.not_false]); rfl) (fun hb => ?_) (fun hb => ?_) <;> (try simp only [hb0, decide_eq_true_eq, decide_eq_false_iff_not, simprocAttr] at hb) <;> (try (exfalso; omega))) | (refine hK _ _ ?_; clear hK; try simp only [pst0, simprocAttr]))
        (first | refine a_dcall0 (hw op _) (by (try simp only [Ty.w, simprocAttr, W, Bool.not_false]); try rfl) ?_ | refine a_dcallA (hw op _) (by (try simp only [Ty.w, simprocAttr, W, Bool.not_false]); try rfl) (by simp only [Ty.w, simprocAttr, W, Bool.not_false]; try trivial) ?_); simp (maxSteps := 2000000) only [Ty.w, simprocAttr, W, Option.getD_some, Bool.not_false]
        repeat' (first | (with_reducible refine a_past2 (by simp only [List.forall_mem_cons, Ty.w, simprocAttr, k6, Bool.not_false, o2, o2H, n2, t1, t2, hpr, hpc, hp1]; (repeat' apply And.intro) <;> first | trivial | exact .inl (by decide +kernel)) ?_; try simp (maxSteps := 2000000) only [Ty.w, simprocAttr, W, Bool.not_false]) | (rw [if_pos]; rotate_left 1; omega; simp (maxSteps := 2000000) only [Ty.w, simprocAttr, W, Bool.not_false]))
        (simp (maxSteps := 2000000) only [Ty.w, simprocAttr, Ty.all, Fm.cells])
        exact hpush (wordM op)
       | true =>
        cases q6 : decide ((kids.length : Int) > 0) with
        | false =>
         have hk0 : kids.isEmpty = true := by cases kids with | nil => rfl | cons a l => simp at q6
         rw [if_pos (by rw [n6, k6, hk0]; try rfl)]
         repeat' (first | refine a_seq fun K hK => ?_ | (refine a_regionS ?_; simp (maxSteps := 2000000) only [Ty.w, simprocAttr, k6, q6, hlK, Bool.not_true]) | (refine a_skip ?_; try simp only [pst0, simprocAttr]) | (refine a_cond _ (by (try simp (maxSteps := 2000000) only [Ty.w, simprocAttr, k6, q6, hlK, Bool.not_true]); rfl) (fun hb => ?_) (fun hb => ?_) <;> (try simp only [hb0, decide_eq_true_eq, decide_eq_false_iff_not, simprocAttr] at hb) <;> (try (exfalso; omega))) | (refine hK _ _ ?_; clear hK; try simp only [pst0, simprocAttr]))
         (simp (maxSteps := 2000000) only [Ty.w, simprocAttr, Ty.all, Fm.cells])
         exact hI
        | true =>
         have hk0 : kids.isEmpty = false := by cases kids with | nil => simp at q6 | cons a l => rfl
         rw [if_neg (by rw [hk0]; simp)]
         obtain ⟨hg, p, H, hn, o1, o2, tl, t1, t2, t3, t4, hgH, hpc, hp1⟩ := hI
         have hw : ∀ (s : ByteArray) (h : Heap), PCall Try.prog 111 [sPV s] h fun r h' => r = .agg (wordM s).cells ∧ h' = h := fun s h => word_c
         simp only [wordM, Sx.cells, Sx.rows] at hw
         have o2H : H.obj (h.next + 1) = _ := (t4 _ (by omega)).trans o2
         have n2 : (h.next + 1 = H.next) = False := by simp; omega
         have hpr : (Sx.rows ([] : List Sx)).length = 0 := rfl
         have hpush := fun X : Sx => WrI.push (L := []) (X := X) (m := 1) hn o1 t3 t4 hgH rfl
         generalize Sx.rows [] = R at t1 hpr hpush
         have W := And.intro k6 (And.intro q6 (And.intro hlK (And.intro o2 (And.intro o2H (And.intro n2 (And.intro t1 (And.intro t2 (And.intro hpr (And.intro hpc hp1)))))))))
         repeat' (first | refine a_seq fun K hK => ?_ | ((first | refine a_regionS ?_ | refine a_drawS (by decide +kernel) ?_); simp (maxSteps := 2000000) only [Ty.w, simprocAttr, W, Bool.not_true]) | (refine a_cond _ (by (try simp (maxSteps := 2000000) only [Ty.w, simprocAttr, W, Bool.not_true]); rfl) (fun hb => ?_) (fun hb => ?_) <;> (try simp only [hb0, decide_eq_true_eq, decide_eq_false_iff_not, simprocAttr] at hb) <;> (try (exfalso; omega))) | (refine hK _ _ ?_; clear hK; try simp only [pst0, simprocAttr]))
         (first | refine a_dcall0 (hw op _) (by (try simp only [Ty.w, simprocAttr, W, Bool.not_true]); try rfl) ?_ | refine a_dcallA (hw op _) (by (try simp only [Ty.w, simprocAttr, W, Bool.not_true]); try rfl) (by simp only [Ty.w, simprocAttr, W, Bool.not_true]; try trivial) ?_); simp (maxSteps := 2000000) only [Ty.w, simprocAttr, W, Option.getD_some, Bool.not_true]
         repeat' (first | (with_reducible refine a_past2 (by simp only [List.forall_mem_cons, Ty.w, simprocAttr, k6, q6, hlK, Bool.not_true, o2, o2H, n2, t1, t2, hpr, hpc, hp1]; (repeat' apply And.intro) <;> first | trivial | exact .inl (by decide +kernel)) ?_; try simp (maxSteps := 2000000) only [Ty.w, simprocAttr, W, Bool.not_true]) | (rw [if_pos]; rotate_left 1; omega; simp (maxSteps := 2000000) only [Ty.w, simprocAttr, W, Bool.not_true]))
         (simp (maxSteps := 2000000) only [Ty.w, simprocAttr, Ty.all, Fm.cells])
         exact hpush (wordM op)
      ·clear hI
       obtain ⟨L0, hL0, hl0⟩ : ∃ L0 : List Sx, (if (bEq op opAnd && kids.isEmpty) = true then [] else [wordM op]) = L0 ∧ L0.length ≤ 1 := ⟨_, rfl, by split <;> simp⟩
       rw [hL0]
       rintro S h' ⟨g1, g2, g3, hI⟩
       simp only [Fm.cells] at g1
       repeat' (with_reducible refine a_hold 13 ?_)
       refine ⟨?_⟩
       refine a_cut (fun S h' => S 1 = .cptr (Fm.mk op name args params exprs kids).cells ∧ S 2 = .ptr h.next 0 0 ∧ S 3 = .ptr (h.next + 1) 0 0 ∧ WrI h (L0 ++ (if isQ op = true then [listM (paramsW params)] else [])) h') ?_ ?_
       ·have n7 : bEq op opAll = (op.data.toList == (#[102, 111, 114, 97, 108, 108] : Array UInt8).toList) := rfl
        have n8 : bEq op opSome = (op.data.toList == (#[101, 120, 105, 115, 116, 115] : Array UInt8).toList) := rfl
        cases k7 : (op.data.toList == (#[102, 111, 114, 97, 108, 108] : Array UInt8).toList) with
        | true =>
         rw [if_pos (by simp [isQ, n7, n8, k7])]
         obtain ⟨hg, p, H, hn, o1, o2, tl, t1, t2, t3, t4, hgH, hpc, hp1⟩ := hI
         have hwp := writeParams_c (l := params) hpl
         have hli : ∀ h : Heap, PCall Try.prog 110 [.imm 6 (Sx.rows (paramsW params))] h fun r h' => r = .agg (listM (paramsW params)).cells ∧ h' = h := fun h => list_c rfl (fun _ => frz_imm (sxs_in _ _))
         generalize hX : listM (paramsW params) = X at hli ⊢
         clear hX
         generalize Sx.rows (paramsW params) = PR at hwp hli
         have o2H : H.obj (h.next + 1) = _ := (t4 _ (by omega)).trans o2
         have n2 : (h.next + 1 = H.next) = False := by simp; omega
         have hpr := Sx.rows_len L0
         have hpush := WrI.push (L := L0) (X := X) (m := L0.length + 1) hn o1 t3 t4 hgH rfl
         generalize Sx.rows L0 = R at t1 hpr hpush
         have hb : (L0.length + 1) * 72 ≤ 140737488355328 := by omega
         obtain ⟨ki, va, li, co, te, ks⟩ := X
         simp only [Sx.cells] at hli hpush
         have W := And.intro g1 (And.intro g2 (And.intro g3 (And.intro k7 (And.intro o2 (And.intro o2H (And.intro n2 (And.intro t1 (And.intro t2 (And.intro hpr (And.intro hpc (And.intro hp1 hb)))))))))))
         repeat' (first | refine a_seq fun K hK => ?_ | ((first | refine a_regionS ?_ | refine a_drawS (by decide +kernel) ?_); simp (maxSteps := 2000000) only [Ty.w, simprocAttr, W]) | (refine a_cond _ (by (try simp (maxSteps := 2000000) only [Ty.w, simprocAttr, W]); rfl) (fun hb => ?_) (fun hb => ?_) <;> (try simp only [hb0, decide_eq_true_eq, decide_eq_false_iff_not, simprocAttr] at hb) <;> (try (exfalso; omega))) | (refine hK _ _ ?_; clear hK; try simp only [pst0, simprocAttr]))
         (first | refine a_dcall0 (hwp _) (by (try simp only [Ty.w, simprocAttr, W]); try rfl) ?_ | refine a_dcallA (hwp _) (by (try simp only [Ty.w, simprocAttr, W]); try rfl) (by simp only [Ty.w, simprocAttr, W]; try trivial) ?_); simp (maxSteps := 2000000) only [Ty.w, simprocAttr, W, Option.getD_some]
         skip
         (first | refine a_dcall0 (hli _) (by (try simp only [Ty.w, simprocAttr, W]); try rfl) ?_ | refine a_dcallA (hli _) (by (try simp only [Ty.w, simprocAttr, W]); try rfl) (by simp only [Ty.w, simprocAttr, W]; try trivial) ?_); simp (maxSteps := 2000000) only [Ty.w, simprocAttr, W, Option.getD_some]
         repeat' (first | (with_reducible refine a_past2 (by simp only [List.forall_mem_cons, Ty.w, simprocAttr, g1, g2, g3, k7, o2, o2H, n2, t1, t2, hpr, hpc, hp1, hb]; (repeat' apply And.intro) <;> first | trivial | exact .inl (by decide +kernel)) ?_; try simp (maxSteps := 2000000) only [Ty.w, simprocAttr, W]) | (rw [if_pos]; rotate_left 1; omega; simp (maxSteps := 2000000) only [Ty.w, simprocAttr, W]))
         (simp (maxSteps := 2000000) only [Ty.w, simprocAttr, W, Ty.all, Fm.cells])
         exact hpush
        | false =>
         cases k8 : (op.data.toList == (#[101, 120, 105, 115, 116, 115] : Array UInt8).toList) with
         | true =>
          rw [if_pos (by simp [isQ, n7, n8, k8])]
          obtain ⟨hg, p, H, hn, o1, o2, tl, t1, t2, t3, t4, hgH, hpc, hp1⟩ := hI
          have hwp := writeParams_c (l := params) hpl
          have hli : ∀ h : Heap, PCall Try.prog 110 [.imm 6 (Sx.rows (paramsW params))] h fun r h' => r = .agg (listM (paramsW params)).cells ∧ h' = h := fun h => list_c rfl (fun _ => frz_imm (sxs_in _ _))
          generalize hX : listM (paramsW params) = X at hli ⊢
          clear hX
          generalize Sx.rows (paramsW params) = PR at hwp hli
          have o2H : H.obj (h.next + 1) = _ := (t4 _ (by omega)).trans o2
          have n2 : (h.next + 1 = H.next) = False := by simp; omega
          have hpr := Sx.rows_len L0
          have hpush := WrI.push (L := L0) (X := X) (m := L0.length + 1) hn o1 t3 t4 hgH rfl
          generalize Sx.rows L0 = R at t1 hpr hpush
          have hb : (L0.length + 1) * 72 ≤ 140737488355328 := by omega
          obtain ⟨ki, va, li, co, te, ks⟩ := X
          simp only [Sx.cells] at hli hpush
          have W := And.intro g1 (And.intro g2 (And.intro g3 (And.intro k7 (And.intro k8 (And.intro o2 (And.intro o2H (And.intro n2 (And.intro t1 (And.intro t2 (And.intro hpr (And.intro hpc (And.intro hp1 hb))))))))))))
          repeat' (first | refine a_seq fun K hK => ?_ | ((first | refine a_regionS ?_ | refine a_drawS (by decide +kernel) ?_); simp (maxSteps := 2000000) only [Ty.w, simprocAttr, W]) | (refine a_cond _ (by (try simp (maxSteps := 2000000) only [Ty.w, simprocAttr, W]); rfl) (fun hb => ?_) (fun hb => ?_) <;> (try simp only [hb0, decide_eq_true_eq, decide_eq_false_iff_not, simprocAttr] at hb) <;> (try (exfalso; omega))) | (refine hK _ _ ?_; clear hK; try simp only [pst0, simprocAttr]))
          (first | refine a_dcall0 (hwp _) (by (try simp only [Ty.w, simprocAttr, W]); try rfl) ?_ | refine a_dcallA (hwp _) (by (try simp only [Ty.w, simprocAttr, W]); try rfl) (by simp only [Ty.w, simprocAttr, W]; try trivial) ?_); simp (maxSteps := 2000000) only [Ty.w, simprocAttr, W, Option.getD_some]
          skip
          (first | refine a_dcall0 (hli _) (by (try simp only [Ty.w, simprocAttr, W]); try rfl) ?_ | refine a_dcallA (hli _) (by (try simp only [Ty.w, simprocAttr, W]); try rfl) (by simp only [Ty.w, simprocAttr, W]; try trivial) ?_); simp (maxSteps := 2000000) only [Ty.w, simprocAttr, W, Option.getD_some]
          repeat' (first | (with_reducible refine a_past2 (by simp only [List.forall_mem_cons, Ty.w, simprocAttr, g1, g2, g3, k7, k8, o2, o2H, n2, t1, t2, hpr, hpc, hp1, hb]; (repeat' apply And.intro) <;> first | trivial | exact .inl (by decide +kernel)) ?_; try simp (maxSteps := 2000000) only [Ty.w, simprocAttr, W]) | (rw [if_pos]; rotate_left 1; omega; simp (maxSteps := 2000000) only [Ty.w, simprocAttr, W]))
          (simp (maxSteps := 2000000) only [Ty.w, simprocAttr, W, Ty.all, Fm.cells])
          exact hpush
         | false =>
          rw [if_neg (by simp [isQ, n7, n8, k7, k8]), List.append_nil]
          repeat' (first | refine a_seq fun K hK => ?_ | (refine a_regionS ?_; simp (maxSteps := 2000000) only [Ty.w, simprocAttr, g1, g2, g3, k7, k8]) | (refine a_skip ?_; try simp only [pst0, simprocAttr]) | (refine a_cond _ (by (try simp (maxSteps := 2000000) only [Ty.w, simprocAttr, g1, g2, g3, k7, k8]); rfl) (fun hb => ?_) (fun hb => ?_) <;> (try simp only [hb0, decide_eq_true_eq, decide_eq_false_iff_not, simprocAttr] at hb) <;> (try (exfalso; omega))) | (refine hK _ _ ?_; clear hK; try simp only [pst0, simprocAttr]))
          (simp (maxSteps := 2000000) only [Ty.w, simprocAttr, Ty.all, g1, g2, g3, Fm.cells])
          exact hI
       ·clear hI g1 g2 g3
        obtain ⟨L1, hL1, hl1⟩ : ∃ L1 : List Sx, L0 ++ (if isQ op = true then [listM (paramsW params)] else []) = L1 ∧ L1.length ≤ 2 := ⟨_, rfl, by split <;> simp <;> omega⟩
        rw [hL1]
        rw [fmWs_map]
        clear hL1 hL0 hl0
        rintro S h' ⟨g1, g2, g3, hI⟩
        simp only [Fm.cells] at g1
        have hrl : ∀ k, (L1 ++ (kids.take k).map fmW).length ≤ 1048578 := fun k => by simp; omega
        repeat' (first | refine a_seq fun K hK => ?_ | (refine a_block ?_) | (refine a_regionS ?_; simp (maxSteps := 2000000) only [Ty.w, simprocAttr, g1, g2, g3, hlK]) | (refine hK _ _ ?_; clear hK; try simp only [pst0, simprocAttr]))
        refine a_loop (fun c S h' => S 2 = .ptr h.next 0 0 ∧ S 3 = .ptr (h.next + 1) 0 0 ∧ S 75 = .imm 6 (Fm.rows kids) ∧ S 76 = .sc (.int .i64 kids.length) ∧ ∃ k : Nat, S 77 = .sc (.int .i64 k) ∧ k ≤ kids.length ∧ c = kids.length - k ∧ WrI h (L1 ++ (kids.take k).map fmW) h') kids.length ?_ ?_
        ·simp only [Ty.w, simprocAttr, g2, g3]
         refine ⟨0, rfl, by omega, rfl, ?_⟩
         simpa using hI
        ·clear hI g1 g2 g3
         rintro c S h' ⟨g2, g3, g75, g76, k, g77, hk, rfl, hI⟩
         by_cases hlt : k < kids.length
         ·have hdk : decide ((k : Int) < (kids.length : Int)) = true := by simp; omega
          have w7 : IntKind.i64.wrap ((k : Int) + 1) = k + 1 := by rw [wrap64 (by omega) (by omega)]
          obtain ⟨x, hx⟩ : ∃ x, kids[k]? = some x := ⟨_, List.getElem?_eq_getElem hlt⟩
          have hmem := List.mem_of_getElem? hx
          have hr := Fm.rows_get hx
          have hcx := ih x hmem (hks x hmem) (hsk x hmem)
          have hL : L1 ++ (kids.take (k + 1)).map fmW = L1 ++ (kids.take k).map fmW ++ [fmW x] := by rw [List.take_add_one, hx]; simp
          have hrk := hrl k
          generalize L1 ++ (kids.take k).map fmW = L2 at hI hrk hL
          obtain ⟨hg, p, H, hn, o1, o2, tl, t1, t2, t3, t4, hgH, hpc, hp1⟩ := hI
          generalize fmW x = X at hcx hL
          obtain ⟨xo, xn, xa, xp, xe, xk⟩ := x
          obtain ⟨ki, va, li, co, te, ks⟩ := X
          simp only [Fm.cells, Sx.cells] at hr hcx
          clear t1 t2 t3 t4 hgH H
          have hG2 : Grow h ((h'.new (.arr 6 [[.sc (.string ⟨#[]⟩), .sc (.string ⟨#[]⟩), .sc (.slice none 0 0), .sc (.slice none 0 0), .sc (.slice none 0 0), .sc (.slice none 0 0)]])).set h'.next (.arr 6 [[sPV xo, sPV xn, .imm 1 (strRows xa), .imm 2 (pmRows xp), .imm 5 (Ex.rows xe), .imm 6 (Fm.rows xk)]])) := (hg.new _).set hg.le _
          have m1 : ¬ h.next = h'.next := by omega
          have m2 : ¬ h.next + 1 = h'.next := by omega
          have m2' : (h.next + 1 = h'.next) = False := eq_false m2
          have tl2 := tl.up (h' := ((h'.new (.arr 6 [[.sc (.string ⟨#[]⟩), .sc (.string ⟨#[]⟩), .sc (.slice none 0 0), .sc (.slice none 0 0), .sc (.slice none 0 0), .sc (.slice none 0 0)]])).set h'.next (.arr 6 [[sPV xo, sPV xn, .imm 1 (strRows xa), .imm 2 (pmRows xp), .imm 5 (Ex.rows xe), .imm 6 (Fm.rows xk)]]))) (by simp [Heap.set, Heap.new]) fun j _ hj => by simp only [Heap.set, Heap.new]; rw [if_neg (by omega), if_neg (by omega)]
          obtain ⟨H, t1, t2, t3, t4, t5⟩ := tl2.tail
          have hgH := t5 h ⟨hG2.le, hG2.old⟩ (by omega)
          have o1x : ((h'.new (.arr 6 [[.sc (.string ⟨#[]⟩), .sc (.string ⟨#[]⟩), .sc (.slice none 0 0), .sc (.slice none 0 0), .sc (.slice none 0 0), .sc (.slice none 0 0)]])).set h'.next (.arr 6 [[sPV xo, sPV xn, .imm 1 (strRows xa), .imm 2 (pmRows xp), .imm 5 (Ex.rows xe), .imm 6 (Fm.rows xk)]])).obj h.next = some (.arr 6 [[.sc (.int .i64 0), .sc (.int .i64 0), .sc (.int .i64 0), .sc (.int .i64 0), .sc (.string ⟨#[]⟩), .sc (.slice none 0 0)]]) := by simp only [Heap.set, Heap.new, m1, if_false]; exact o1
          have o2H : H.obj (h.next + 1) = _ := (t4 _ (by omega)).trans (show ((h'.new (.arr 6 [[.sc (.string ⟨#[]⟩), .sc (.string ⟨#[]⟩), .sc (.slice none 0 0), .sc (.slice none 0 0), .sc (.slice none 0 0), .sc (.slice none 0 0)]])).set h'.next (.arr 6 [[sPV xo, sPV xn, .imm 1 (strRows xa), .imm 2 (pmRows xp), .imm 5 (Ex.rows xe), .imm 6 (Fm.rows xk)]])).obj (h.next + 1) = _ by simp only [Heap.set, Heap.new, m2, if_false]; exact o2)
          have t3' : H.next = h'.next + 1 := by rw [t3]; simp [Heap.new, Heap.set]
          have n2 : (h.next + 1 = H.next) = False := by simp; omega
          have hpr := Sx.rows_len L2
          have hpush := WrI.push (h' := ((h'.new (.arr 6 [[.sc (.string ⟨#[]⟩), .sc (.string ⟨#[]⟩), .sc (.slice none 0 0), .sc (.slice none 0 0), .sc (.slice none 0 0), .sc (.slice none 0 0)]])).set h'.next (.arr 6 [[sPV xo, sPV xn, .imm 1 (strRows xa), .imm 2 (pmRows xp), .imm 5 (Ex.rows xe), .imm 6 (Fm.rows xk)]]))) (L := L2) (X := .mk ki va li co te ks) (m := L2.length + 1) (by simp only [Heap.set, Heap.new]; omega) o1x t3 t4 ⟨hgH.1, hgH.2⟩ rfl
          have hb : (L2.length + 1) * 72 ≤ 140737488355328 := by omega
          simp only [Sx.cells] at hpush
          clear tl tl2 t5
          generalize Sx.rows L2 = R at t1 hpr hpush
          have W := And.intro g2 (And.intro g3 (And.intro g75 (And.intro g76 (And.intro g77 (And.intro w7 (And.intro m2' (And.intro o2 (And.intro o2H (And.intro n2 (And.intro t1 (And.intro t2 (And.intro hpr (And.intro hpc (And.intro hp1 hb))))))))))))))
          repeat' (first | refine a_seq fun K hK => ?_ | ((first | refine a_regionS ?_ | refine a_draw (by decide +kernel) (fun K hK => ?_)); simp (maxSteps := 2000000) only [Ty.w, simprocAttr, W, hdk, hr]) | (refine a_skip ?_; try simp only [pst0, simprocAttr]) | (refine a_cond _ (by (try simp (maxSteps := 2000000) only [Ty.w, simprocAttr, W, hdk, hr]); rfl) (fun hb => ?_) (fun hb => ?_) <;> (try simp only [hb0, decide_eq_true_eq, decide_eq_false_iff_not, simprocAttr] at hb) <;> (try (exfalso; omega))) | (refine hK _ _ ?_; clear hK; try simp only [pst0, simprocAttr]))
          (first | refine a_dcall0 (hcx _) (by (try simp only [Ty.w, simprocAttr, W]); try rfl) ?_ | refine a_dcallA (hcx _) (by (try simp only [Ty.w, simprocAttr, W]); try rfl) (by simp only [Ty.w, simprocAttr, W]; try trivial) ?_); simp (maxSteps := 2000000) only [Ty.w, simprocAttr, W, Option.getD_some]
          repeat' (first | (refine a_regionS ?_; simp (maxSteps := 2000000) only [Ty.w, simprocAttr, W]) | (refine hK _ _ ?_; clear hK; try simp only [pst0, simprocAttr]) | (with_reducible refine a_past2 (by simp only [List.forall_mem_cons, Ty.w, simprocAttr, g2, g3, g75, g76, g77, w7, m2', o2, o2H, n2, t1, t2, hpr, hpc, hp1, hb]; (repeat' apply And.intro) <;> first | trivial | exact .inl (by decide +kernel)) ?_; try simp (maxSteps := 2000000) only [Ty.w, simprocAttr, W]) | (rw [if_pos]; rotate_left 1; omega; simp (maxSteps := 2000000) only [Ty.w, simprocAttr, W]))
          exact ⟨kids.length - (k + 1), by omega, k + 1, by simp, by omega, rfl, by rw [hL]; exact hpush⟩
         ·have hdk : decide ((k : Int) < (kids.length : Int)) = false := by simp; omega
          have hke : k = kids.length := by omega
          subst hke
          rw [List.take_length] at hI
          obtain ⟨hg, p, H, hn, o1, o2, tl, t1, t2, t3, t4, hgH, hpc, hp1⟩ := hI
          repeat' (first | refine a_seq fun K hK => ?_ | ((first | refine a_regionS ?_ | refine a_ret ?_); simp (maxSteps := 2000000) only [Ty.w, simprocAttr, g2, g3, g75, g76, g77, hdk, o1, o2, hpc]) | (refine a_exit ?_; try simp only [pst0, simprocAttr]) | (refine a_cond _ (by (try simp (maxSteps := 2000000) only [Ty.w, simprocAttr, g2, g3, g75, g76, g77, hdk, o1, o2, hpc]); rfl) (fun hb => ?_) (fun hb => ?_) <;> (try simp only [hb0, decide_eq_true_eq, decide_eq_false_iff_not, simprocAttr] at hb) <;> (try (exfalso; omega))) | ((first | refine hK _ _ ?_ | (clear hK; refine hK _ _ ?_)); clear hK; try simp only [pst0, simprocAttr]) | (rw [if_pos]; rotate_left 1; omega; simp (maxSteps := 2000000) only [Ty.w, simprocAttr, g2, g3, g75, g76, g77, hdk, o1, o2, hpc]))
          refine ⟨?_, hg.set (Nat.le_refl _) _⟩
          have tl2 : Tl (h'.set h.next (.arr 6 [[.sc (.int .i64 3), .sc (.int .i64 0), .sc (.int .i64 0), .sc (.int .i64 0), .sc (.string ⟨#[]⟩), p]])) (h.next + 2) 6 p (Sx.rows (L1 ++ kids.map fmW)) := tl.up (Nat.le_refl _) fun j hj _ => by simp only [Heap.set]; rw [if_neg (by omega)]
          simp only [listM, Sx.cells, FrzTo, FrzL]
          exact ⟨_, rfl, rfl, rfl, rfl, rfl, rfl, by have := tl_frzX (Tl.low tl2 (show h.next ≤ h.next + 2 by omega)); simpa only [FrzTo] using this, trivial⟩
theorem paramsW_ok : ∀ l : List Pm, (∀ p ∈ l, p.ok) → Sx.oks (paramsW l)
 | [], _ => by simp [paramsW, Sx.oks]
 | p :: l, h => by
  have hp := h p (by simp)
  simp only [paramsW, Sx.oks]
  exact ⟨wordM_ok hp.1, wordM_ok (by simp [bigN, ByteArray.size]), wordM_ok hp.2, paramsW_ok l fun q hq => h q (by simp [hq])⟩
theorem parts_cmp {op name : ByteArray} {args : List ByteArray} {params : List Pm} {ne nk : Nat} (h1 : ¬ bEq op opAtom = true) (h2 : ¬ bEq op opSame = true) (h3 : isCmp op = true) (hp : partsOk op name args params ne nk = true) : ne = 2 := by
 unfold partsOk shapeOf at hp
 rw [if_neg h1, if_neg h2] at hp
 simp only [isCmp, Bool.or_eq_true] at h3
 by_cases k1 : bEq op opLt = true
 ·simp [k1] at hp; omega
 by_cases k2 : bEq op opLe = true
 ·simp [k1, k2] at hp; omega
 have k3 : bEq op opEq = true := by rcases h3 with (h3 | h3) | h3 <;> simp_all
 simp [k1, k2, k3] at hp; omega
theorem fmW_ok : ∀ f : Fm, f.ok → f.small → shapedF f = true → (fmW f).ok := by
 refine Fm.ind ?_
 intro op name args params exprs kids ih hok hsm hsh
 simp only [Fm.ok] at hok
 simp only [Fm.small] at hsm
 simp only [shapedF, Bool.and_eq_true] at hsh
 obtain ⟨⟨hpo, _⟩, hsh⟩ := hsh
 rw [shapedFs_iff] at hsh
 obtain ⟨hop, hname, hargs, ⟨_, hps⟩, ⟨_, hes⟩, _, hks⟩ := hok
 obtain ⟨hal, hpl, hse, hkl, hsk⟩ := hsm
 rw [Fm.oks_iff] at hks
 rw [Ex.oks_iff] at hes
 have hse := Ex.smalls_iff.1 hse
 have hsk := Fm.smalls_iff.1 hsk
 unfold fmW
 split
 ·exact wordsM_ok hname hal hargs.2
 split
 ·exact wordsM_ok (by simp [opEq, bigN, ByteArray.size]) hal hargs.2
 split
 ·rename_i c1 c2 c3
  have h2 := parts_cmp c1 c2 c3 hpo
  refine listM_ok (by simp only [List.length_cons, List.length_map]; unfold bigN; omega) (Sx.oks_iff.2 ?_)
  intro k hk
  simp only [List.mem_cons, List.mem_map] at hk
  rcases hk with rfl | ⟨e, he, rfl⟩
  ·exact wordM_ok hop
  ·exact exW_ok e (hes e he) (hse e he)
 ·rw [fmWs_map]
  refine listM_ok ?_ (Sx.oks_iff.2 ?_)
  ·simp only [List.length_append, List.length_map]
   have a1 : (if (bEq op opAnd && kids.isEmpty) = true then [] else [wordM op]).length ≤ 1 := by split <;> simp
   have a2 : (if isQ op = true then [listM (paramsW params)] else []).length ≤ 1 := by split <;> simp
   unfold bigN; omega
  ·intro k hk
   simp only [List.mem_append, List.mem_map] at hk
   rcases hk with (hk | hk) | ⟨e, he, rfl⟩
   ·split at hk
    ·simp at hk
    ·simp only [List.mem_singleton] at hk; subst hk; exact wordM_ok hop
   ·split at hk
    ·simp only [List.mem_singleton] at hk; subst hk
     exact listM_ok (by rw [paramsW_len]; unfold bigN; omega) (paramsW_ok _ hps)
    ·simp at hk
   ·exact ih e he (hks e he) (hsk e he) (hsh e he)
theorem formedMs_shaped : ∀ (l : List Ex) (d n : Nat), (formedMs l d n).1 = true → ∀ e ∈ l, shapedE e = true
 | [], _, _, _ => by simp
 | e :: l, d, n, h => by
  unfold formedMs at h
  have h1 := formedM_shaped e d n
  split at h
  ·rename_i c he
   rw [he] at h1
   intro x hx
   rcases List.mem_cons.1 hx with rfl | hx
   ·exact h1 rfl
   ·exact formedMs_shaped l d c h x hx
  ·simp at h
mutual
theorem shapedM_F : ∀ (f : Fm) (d n : Nat), (shapedM f d n).1 = true → shapedF f = true
 | .mk op name args params exprs kids, d, n, h => by
  unfold shapedM at h
  split at h
  ·split at h
   ·rename_i hp
    have h1 := formedMs_shaped exprs (d + 1) (n + 1)
    split at h
    ·rename_i c he
     rw [he] at h1
     simp only [shapedF, Bool.and_eq_true, List.all_eq_true]
     exact ⟨⟨hp, h1 rfl⟩, shapedMs_F kids (d + 1) c h⟩
    ·simp at h
   ·simp at h
  ·simp at h
theorem shapedMs_F : ∀ (l : List Fm) (d n : Nat), (shapedMs l d n).1 = true → shapedFs l = true
 | [], _, _, _ => by simp [shapedFs]
 | k :: l, d, n, h => by
  unfold shapedMs at h
  have h1 := shapedM_F k d n
  split at h
  ·rename_i c he
   rw [he] at h1
   simp only [shapedFs, Bool.and_eq_true]
   exact ⟨h1 rfl, shapedMs_F l d c h⟩
  ·simp at h
end
theorem fvalid_c {f : Fm} (hok : f.ok) (hsm : f.small) (h : Heap) : PCall Try.prog 26 [.agg f.cells] h fun r h' => r = .sc (.bool (validF f)) ∧ h' = h := by
 have hf := shaped_c f hok 0 0 (by omega) (by omega) h.next (h.new (.arr 1 [[.sc (.int .i64 0)]])) (by simp [Heap.new, cntO])
 have hsh := shapedM_F f 0 0
 have hx := fmW_ok f hok hsm
 have hw0 := write_c f hsm
 have hv : validF f = ((shapedM f 0 0).1 && (svalid (fmW f) 0 0).1) := rfl
 rw [hv]
 refine PCall.quiet Ty.hb_26 ?_
 generalize shapedM f 0 0 = V at hf hsh ⊢
 obtain ⟨b, c⟩ := V
 cases b with
 | false =>
  obtain ⟨op, name, args, params, exprs, kids⟩ := f
  simp only [Fm.cells, Int.natCast_zero] at hf ⊢
  refine pcall_body (ow := fun t => t == 5) (wf := fun _ => false) Ty.mixed Try.func26 rfl Ty.hb_26 (by rw [Try.ntmps26]; simp) ?_
  rw [Try.ntmps26, Try.results26]
  repeat' (first | refine a_seq fun K hK => ?_ | (refine a_regionS ?_; simp (maxSteps := 2000000) only [Ty.w, simprocAttr]) | (refine hK _ _ ?_; clear hK; try simp only [pst0, simprocAttr]))
  refine owp_useH (hf) (by (try simp only [Ty.w, simprocAttr, ]); try rfl) ?_; simp (maxSteps := 2000000) only [Ty.w, simprocAttr, ]
  repeat' (first | (refine a_ret ?_; simp (maxSteps := 2000000) only [Ty.w, simprocAttr]) | (refine hK _ _ ?_; clear hK; try simp only [pst0, simprocAttr]))
  exact ((Grow.refl h).new _).set (Nat.le_refl _) _
 | true =>
  have hw := hw0 (hsh rfl)
  have hvv := svalid_c (hx (hsh rfl))
  clear hw0
  generalize fmW f = X at hw hvv ⊢
  obtain ⟨op, name, args, params, exprs, kids⟩ := f
  obtain ⟨ki, va, li, co, te, ks⟩ := X
  simp only [Fm.cells, Sx.cells, Int.natCast_zero] at hf hw hvv ⊢
  refine pcall_body (ow := fun t => t == 5) (wf := fun _ => false) Ty.mixed Try.func26 rfl Ty.hb_26 (by rw [Try.ntmps26]; simp) ?_
  rw [Try.ntmps26, Try.results26]
  repeat' (first | refine a_seq fun K hK => ?_ | (refine a_regionS ?_; simp (maxSteps := 2000000) only [Ty.w, simprocAttr]) | (refine hK _ _ ?_; clear hK; try simp only [pst0, simprocAttr]))
  refine owp_useH (hf) (by (try simp only [Ty.w, simprocAttr, ]); try rfl) ?_; simp (maxSteps := 2000000) only [Ty.w, simprocAttr, ]
  skip
  refine owp_useQ (hw _) (by (try simp only [Ty.w, simprocAttr, ]); try rfl) ?_; simp (maxSteps := 2000000) only [Ty.w, simprocAttr, ]
  skip
  refine owp_useQ (hvv _) (by (try simp only [Ty.w, simprocAttr, ]); try rfl) ?_; simp (maxSteps := 2000000) only [Ty.w, simprocAttr, ]
  repeat' (first | (refine a_ret ?_; simp (maxSteps := 2000000) only [Ty.w, simprocAttr]) | (refine hK _ _ ?_; clear hK; try simp only [pst0, simprocAttr]))
  exact ((Grow.refl h).new _).set (Nat.le_refl _) _
end Go.Proofs.Ytjlkapgpjamnkaa
namespace Go.Proofs.Ytjlkapgpjamnkaa
open Go.AM
theorem list_depth {l : List Sx} {k : Sx} (h : k ∈ l) : k.depth + 1 ≤ (listM l).depth := by
 have := Sx.depths_mem 0 h
 simp only [listM, Sx.depth, if_true]; omega
theorem fmW_rest {op name : ByteArray} {args : List ByteArray} {params : List Pm} {exprs : List Ex} {kids : List Fm} (h1 : bEq op opAtom = false) (h2 : bEq op opSame = false) (h3 : isCmp op = false) : ∃ pre, fmW (.mk op name args params exprs kids) = listM (pre ++ kids.map fmW) := by
 unfold fmW
 rw [h1, h2, h3, fmWs_map]
 exact ⟨_, rfl⟩
theorem fmW_parts : ∀ f, shapedF f = true → match f with
  | .mk _ _ _ _ exprs kids => 1 + Sx.nodess (exprs.map exW) + Sx.nodess (kids.map fmW) ≤ (fmW f).nodes ∧ 1 ≤ (fmW f).depth ∧ (∀ e ∈ exprs, (exW e).depth + 1 ≤ (fmW f).depth) ∧ (∀ k ∈ kids, (fmW k).depth + 1 ≤ (fmW f).depth) := by
 intro f hf
 have d1 : ∀ l : List Sx, 1 ≤ (listM l).depth := fun l => by simp only [listM, Sx.depth, if_true]; omega
 have rest : ∀ {op : ByteArray} {params : List Pm} {kids : List Fm} {pre : List Sx}, fmW (.mk op ⟨#[]⟩ [] params [] kids) = listM (pre ++ kids.map fmW) →
   1 + Sx.nodess (([] : List Ex).map exW) + Sx.nodess (kids.map fmW) ≤ (fmW (.mk op ⟨#[]⟩ [] params [] kids)).nodes ∧ 1 ≤ (fmW (.mk op ⟨#[]⟩ [] params [] kids)).depth ∧ (∀ e ∈ ([] : List Ex), (exW e).depth + 1 ≤ (fmW (.mk op ⟨#[]⟩ [] params [] kids)).depth) ∧ (∀ k ∈ kids, (fmW k).depth + 1 ≤ (fmW (.mk op ⟨#[]⟩ [] params [] kids)).depth) := by
  intro op params kids pre e
  rw [e]
  refine ⟨?_, d1 _, by simp, fun k hk => list_depth (List.mem_append.2 (.inr (List.mem_map.2 ⟨k, hk, rfl⟩)))⟩
  rw [list_nodes, nodess_append]; simp only [List.map_nil, Sx.nodess]; omega
 refine sf_cases (C := fun f => match f with
  | .mk _ _ _ _ exprs kids => 1 + Sx.nodess (exprs.map exW) + Sx.nodess (kids.map fmW) ≤ (fmW f).nodes ∧ 1 ≤ (fmW f).depth ∧ (∀ e ∈ exprs, (exW e).depth + 1 ≤ (fmW f).depth) ∧ (∀ k ∈ kids, (fmW k).depth + 1 ≤ (fmW f).depth)) f hf ?_ ?_ ?_ ?_ ?_ ?_ ?_
 ·intro name args _ _
  have e : fmW (.mk opAtom name args [] [] []) = wordsM name args := rfl
  simp only [e]
  exact ⟨by simp only [wordsM, list_nodes, List.map_nil, Sx.nodess]; omega, d1 _, by simp, by simp⟩
 ·intro args _ _
  have e : fmW (.mk opSame ⟨#[]⟩ args [] [] []) = wordsM opEq args := rfl
  simp only [e]
  exact ⟨by simp only [wordsM, list_nodes, List.map_nil, Sx.nodess]; omega, d1 _, by simp, by simp⟩
 ·intro op a b ho _ _
  have e : fmW (.mk op ⟨#[]⟩ [] [] [a, b] []) = listM [wordM op, exW a, exW b] := by rcases ho with rfl | rfl | rfl <;> rfl
  simp only [e]
  refine ⟨?_, d1 _, ?_, by simp⟩
  ·simp only [list_nodes, List.map_cons, List.map_nil, Sx.nodess, word_nodes]; omega
  ·intro x hx
   simp only [List.mem_cons, List.not_mem_nil, or_false] at hx
   rcases hx with rfl | rfl <;> exact list_depth (by simp)
 ·intro op kids ho _
  obtain ⟨pre, e⟩ : ∃ pre, fmW (.mk op ⟨#[]⟩ [] [] [] kids) = listM (pre ++ kids.map fmW) := by rcases ho with rfl | rfl <;> exact fmW_rest rfl rfl rfl
  exact rest e
 ·intro k _
  obtain ⟨pre, e⟩ : ∃ pre, fmW (.mk opNot ⟨#[]⟩ [] [] [] [k]) = listM (pre ++ [k].map fmW) := fmW_rest rfl rfl rfl
  exact rest e
 ·intro a b _ _
  obtain ⟨pre, e⟩ : ∃ pre, fmW (.mk opImp ⟨#[]⟩ [] [] [] [a, b]) = listM (pre ++ [a, b].map fmW) := fmW_rest rfl rfl rfl
  exact rest e
 ·intro op params k ho _ _
  obtain ⟨pre, e⟩ : ∃ pre, fmW (.mk op ⟨#[]⟩ [] params [] [k]) = listM (pre ++ [k].map fmW) := by rcases ho with rfl | rfl <;> exact fmW_rest rfl rfl rfl
  exact rest e
theorem formeds_of : ∀ (l : List Ex), (∀ e ∈ l, shapedE e = true) → ∀ (d n : Nat), (∀ e ∈ l, d + (exW e).depth ≤ 32) → n + Sx.nodess (l.map exW) ≤ 4096 → (formedMs l d n).1 = true ∧ (formedMs l d n).2 ≤ n + Sx.nodess (l.map exW)
 | [], _, d, n, _, hn => by simp [formedMs, Sx.nodess]
 | e :: l, hs, d, n, hd, hn => by
  simp only [List.map_cons, Sx.nodess] at hn ⊢
  obtain ⟨f1, f2⟩ := formed_of e (hs e (by simp)) d n (hd e (by simp)) (by omega)
  unfold formedMs
  cases hw : formedM e d n with
  | mk x c =>
   rw [hw] at f1 f2
   simp only at f1 f2
   subst f1
   simp only
   obtain ⟨g1, g2⟩ := formeds_of l (fun q hq => hs q (by simp [hq])) d c (fun q hq => hd q (by simp [hq])) (by omega)
   exact ⟨g1, by omega⟩
theorem shapeds_of : ∀ (l : List Fm) (d : Nat), (∀ k ∈ l, ∀ n, n + (fmW k).nodes ≤ 4096 → (shapedM k d n).1 = true ∧ (shapedM k d n).2 ≤ n + (fmW k).nodes) → ∀ n, n + Sx.nodess (l.map fmW) ≤ 4096 → (shapedMs l d n).1 = true ∧ (shapedMs l d n).2 ≤ n + Sx.nodess (l.map fmW)
 | [], _, _, n, hn => by simp [shapedMs, Sx.nodess]
 | k :: l, d, h, n, hn => by
  simp only [List.map_cons, Sx.nodess] at hn ⊢
  obtain ⟨f1, f2⟩ := h k (by simp) n (by omega)
  unfold shapedMs
  cases hw : shapedM k d n with
  | mk x c =>
   rw [hw] at f1 f2
   simp only at f1 f2
   subst f1
   simp only
   obtain ⟨g1, g2⟩ := shapeds_of l d (fun q hq => h q (by simp [hq])) c (by omega)
   exact ⟨g1, by omega⟩
theorem shaped_of : ∀ (f : Fm), shapedF f = true → ∀ (d n : Nat), d + (fmW f).depth ≤ 32 → n + (fmW f).nodes ≤ 4096 → (shapedM f d n).1 = true ∧ (shapedM f d n).2 ≤ n + (fmW f).nodes := by
 refine Fm.ind ?_
 intro op name args params exprs kids ih hs d n hd hn
 have hp := fmW_parts _ hs
 simp only at hp
 obtain ⟨p1, p2, p3, p4⟩ := hp
 have hs2 := hs
 simp only [shapedF, Bool.and_eq_true, List.all_eq_true] at hs2
 obtain ⟨⟨h1, h2⟩, h3⟩ := hs2
 rw [shapedFs_iff] at h3
 generalize fmW (.mk op name args params exprs kids) = X at *
 unfold shapedM
 rw [if_pos ⟨by omega, by omega⟩, if_pos h1]
 obtain ⟨f1, f2⟩ := formeds_of exprs h2 (d + 1) (n + 1) (fun e he => by have := p3 e he; omega) (by omega)
 cases hw : formedMs exprs (d + 1) (n + 1) with
 | mk x c =>
  rw [hw] at f1 f2
  simp only at f1 f2
  subst f1
  simp only
  obtain ⟨g1, g2⟩ := shapeds_of kids (d + 1) (fun k hk m hm => ih k hk (h3 k hk) (d + 1) m (by have := p4 k hk; omega) hm) c (by omega)
  exact ⟨g1, by omega⟩
end Go.Proofs.Ytjlkapgpjamnkaa
namespace Go.Proofs.Ytjlkapgpjamnkaa
open Go.AM
theorem nameW {s : ByteArray} (h : nameB s = true) : wordR s = true := by rw [← word_same]; exact name_word h
theorem varW {s : ByteArray} (h : varB s = true) : wordR s = true := by rw [← word_same]; exact (var_word h).1
theorem term_word {s : ByteArray} (h : termB s = true) : wordR s = true := by
 simp only [termB, Bool.or_eq_true] at h
 exact h.elim nameW varW
theorem ss_word {s : ByteArray} (h : wordR s = true) : shapedS (wordM s) = true := by simp [wordM, shapedS, h]
theorem shapedSs_iff : ∀ {l : List Sx}, (shapedSs l = true ↔ ∀ k ∈ l, shapedS k = true)
 | [] => by simp [shapedSs]
 | k :: l => by simp [shapedSs, shapedSs_iff (l := l)]
theorem ss_list {l : List Sx} (h : ∀ k ∈ l, shapedS k = true) : shapedS (listM l) = true := by
 unfold listM shapedS
 rw [if_neg (by decide), if_neg (by decide), if_pos rfl, shapedSs_iff.2 h]; try rfl
theorem ss_words {first : ByteArray} {l : List ByteArray} (h0 : wordR first = true) (h : l.all termB = true) : shapedS (wordsM first l) = true := by
 refine ss_list fun k hk => ?_
 simp only [List.map_cons, List.mem_cons, List.mem_map] at hk
 rcases hk with rfl | ⟨s, hs, rfl⟩
 ·exact ss_word h0
 ·exact ss_word (term_word (List.all_eq_true.1 h s hs))
theorem exW_ss : ∀ e : Ex, shapedE e = true → shapedS (exW e) = true := by
 refine Ex.ind ?_
 intro op name n args kids ih h
 unfold shapedE at h
 unfold exW
 split at h
 ·rename_i c
  rw [if_pos c]
  simp only [Bool.and_eq_true] at h
  have := h.2
  simp only [inNum, Bool.and_eq_true, decide_eq_true_eq] at this
  simp [shapedS, this.1, this.2]
 ·rename_i c
  rw [if_neg c]
  split at h
  ·rename_i c2
   rw [if_pos c2]
   simp only [Bool.and_eq_true] at h
   exact ss_words (nameW h.1.2) h.2
  ·rename_i c2
   rw [if_neg c2]
   split at h
   case isFalse => simp at h
   rename_i c3
   simp only [Bool.and_eq_true] at h
   obtain ⟨_, h4⟩ := h
   split at h4
   case h_2 => simp at h4
   rename_i a b
   simp only [Bool.and_eq_true] at h4
   have hop : wordR op = true := by
    simp only [Bool.or_eq_true] at c3
    rcases c3 with (h | h) | h <;> rw [bEq_eq h] <;> decide
   refine ss_list fun k hk => ?_
   simp only [List.mem_cons, List.not_mem_nil, or_false] at hk
   rcases hk with rfl | rfl | rfl
   ·exact ss_word hop
   ·exact ih a (by simp) h4.1
   ·exact ih b (by simp) h4.2
theorem params_ss : ∀ l : List Pm, l.all pmOk = true → ∀ k ∈ paramsW l, shapedS k = true
 | [], _ => by simp [paramsW]
 | p :: l, h => by
  simp only [List.all_cons, Bool.and_eq_true, pmOk] at h
  obtain ⟨⟨h1, h2⟩, h3⟩ := h
  have ht : wordR p.type = true := by
   simp only [typedB, Bool.or_eq_true] at h2
   rcases h2 with h2 | h2
   ·exact nameW h2
   ·rw [bEq_eq h2]; decide
  intro k hk
  simp only [paramsW, List.mem_cons] at hk
  rcases hk with rfl | rfl | rfl | hk
  ·exact ss_word (varW h1)
  ·exact ss_word (by decide)
  ·exact ss_word ht
  ·exact params_ss l h3 k hk
theorem fmW_ss : ∀ f : Fm, shapedF f = true → shapedS (fmW f) = true := by
 refine sf_ind ?_ ?_ ?_ ?_ ?_ ?_ ?_
 ·intro name args h1 h2
  exact ss_words (nameW h1) h2
 ·intro args _ h2
  exact ss_words (by decide) h2
 ·intro op a b ho ha hb
  have e : fmW (.mk op ⟨#[]⟩ [] [] [a, b] []) = listM [wordM op, exW a, exW b] := by rcases ho with rfl | rfl | rfl <;> rfl
  have hop : wordR op = true := by rcases ho with rfl | rfl | rfl <;> decide
  rw [e]
  refine ss_list fun k hk => ?_
  simp only [List.mem_cons, List.not_mem_nil, or_false] at hk
  rcases hk with rfl | rfl | rfl
  ·exact ss_word hop
  ·exact exW_ss a ha
  ·exact exW_ss b hb
 ·intro op kids ho _ ih
  have e : ∃ pre, (∀ k ∈ pre, shapedS k = true) ∧ fmW (.mk op ⟨#[]⟩ [] [] [] kids) = listM (pre ++ kids.map fmW) := by
   have hop : wordR op = true := by rcases ho with rfl | rfl <;> decide
   have hx : fmW (.mk op ⟨#[]⟩ [] [] [] kids) = listM ((if (bEq op opAnd && kids.isEmpty) = true then [] else [wordM op]) ++ kids.map fmW) := by
    unfold fmW
    rw [fmWs_map]
    rcases ho with rfl | rfl
    ·rw [if_neg (by decide), if_neg (by decide), if_neg (by decide), if_neg (show ¬ isQ opAnd = true by decide), List.append_nil]
    ·rw [if_neg (by decide), if_neg (by decide), if_neg (by decide), if_neg (show ¬ isQ opOr = true by decide), List.append_nil]
   refine ⟨_, ?_, hx⟩
   intro k hk
   split at hk
   ·simp at hk
   ·simp only [List.mem_singleton] at hk; subst hk; exact ss_word hop
  obtain ⟨pre, hp, e⟩ := e
  rw [e]
  refine ss_list fun k hk => ?_
  rcases List.mem_append.1 hk with hk | hk
  ·exact hp k hk
  ·obtain ⟨y, hy, rfl⟩ := List.mem_map.1 hk; exact ih y hy
 ·intro k _ ih
  exact ss_list (l := [wordM opNot, fmW k]) fun y hy => by
   simp only [List.mem_cons, List.not_mem_nil, or_false] at hy
   rcases hy with rfl | rfl
   ·exact ss_word (by decide)
   ·exact ih
 ·intro a b _ _ iha ihb
  exact ss_list (l := [wordM opImp, fmW a, fmW b]) fun y hy => by
   simp only [List.mem_cons, List.not_mem_nil, or_false] at hy
   rcases hy with rfl | rfl | rfl
   ·exact ss_word (by decide)
   ·exact iha
   ·exact ihb
 ·intro op params k ho hp _ ih
  have e : fmW (.mk op ⟨#[]⟩ [] params [] [k]) = listM [wordM op, listM (paramsW params), fmW k] := by rcases ho with rfl | rfl <;> rfl
  have hop : wordR op = true := by rcases ho with rfl | rfl <;> decide
  rw [e]
  refine ss_list fun y hy => ?_
  simp only [List.mem_cons, List.not_mem_nil, or_false] at hy
  rcases hy with rfl | rfl | rfl
  ·exact ss_word hop
  ·exact ss_list (params_ss params hp)
  ·exact ih
theorem validF_iff {f : Fm} : validF f = true ↔ shapedF f = true ∧ (fmW f).depth ≤ 32 ∧ (fmW f).nodes ≤ 4096 := by
 constructor
 ·intro h
  have hs : shapedF f = true := by
   unfold validF at h
   simp only [Bool.and_eq_true] at h
   exact shapedM_F f 0 0 h.1
  unfold validF at h
  simp only [Bool.and_eq_true] at h
  have := (svalid_iff (fmW f) 0 0 (by omega) (by omega)).1.1 h.2
  exact ⟨hs, by omega, by omega⟩
 ·rintro ⟨hs, hd, hn⟩
  unfold validF
  rw [(shaped_of f hs 0 0 (by omega) (by omega)).1, (svalid_iff (fmW f) 0 0 (by omega) (by omega)).1.2 ⟨fmW_ss f hs, by omega, by omega⟩]; try rfl
end Go.Proofs.Ytjlkapgpjamnkaa
namespace Go.Proofs.Ytjlkapgpjamnkaa
open Go.AM
def alike (x y : Sx) : Prop := x.nodes = y.nodes ∧ x.depth = y.depth
theorem alike.rfl' (x : Sx) : alike x x := ⟨rfl, rfl⟩
theorem alike_lists : ∀ {l m : List Sx}, l.length = m.length → (∀ (i : Nat) x y, l[i]? = some x → m[i]? = some y → alike x y) → Sx.nodess l = Sx.nodess m ∧ ∀ n, Sx.depths n l = Sx.depths n m
 | [], [], _, _ => ⟨rfl, fun _ => rfl⟩
 | [], _ :: _, h, _ => by simp at h
 | _ :: _, [], h, _ => by simp at h
 | a :: l, b :: m, h, hp => by
  have h1 := hp 0 a b rfl rfl
  have h2 := alike_lists (l := l) (m := m) (by simpa using h) fun i x y hx hy => hp (i + 1) x y (by simpa using hx) (by simpa using hy)
  simp only [Sx.nodess, Sx.depths, h1.1, h1.2, h2.1, h2.2, true_and, implies_true]
theorem alike_list {l m : List Sx} (h : l.length = m.length) (hp : ∀ (i : Nat) x y, l[i]? = some x → m[i]? = some y → alike x y) : alike (listM l) (listM m) := by
 have := alike_lists h hp
 simp only [alike, listM, Sx.nodes, Sx.depth, if_true, this.1, this.2, and_self]
theorem alike_words (a b : ByteArray) {l m : List ByteArray} (h : l.length = m.length) : alike (wordsM a l) (wordsM b m) := by
 refine alike_list (by simp [h]) fun i x y hx hy => ?_
 rw [List.getElem?_map] at hx hy
 obtain ⟨s, _, rfl⟩ := Option.map_eq_some_iff.1 hx
 obtain ⟨t, _, rfl⟩ := Option.map_eq_some_iff.1 hy
 simp [alike, wordM, Sx.nodes, Sx.nodess, Sx.depth, Sx.depths]
theorem alike_three {a b c d e f : Sx} (h1 : alike a d) (h2 : alike b e) (h3 : alike c f) : alike (listM [a, b, c]) (listM [d, e, f]) := by
 simp only [alike] at h1 h2 h3
 simp only [alike, listM, Sx.nodes, Sx.nodess, Sx.depth, Sx.depths, if_true, h1.1, h1.2, h2.1, h2.2, h3.1, h3.2, and_self]
theorem alike_two {a b d e : Sx} (h1 : alike a d) (h2 : alike b e) : alike (listM [a, b]) (listM [d, e]) := by
 simp only [alike] at h1 h2
 simp only [alike, listM, Sx.nodes, Sx.nodess, Sx.depth, Sx.depths, if_true, h1.1, h1.2, h2.1, h2.2, and_self]
section
variable {to : ByteArray → Option ByteArray}
theorem bindEx_alike (bound : List ByteArray) : ∀ e : Ex, shapedE e = true → alike (exW (bindEx to bound e)) (exW e) := by
 refine Ex.ind ?_
 intro op name n args kids ih h
 simp only [bindEx]
 unfold shapedE at h
 unfold exW
 split at h
 ·rename_i c
  rw [if_pos c, if_pos c]; exact alike.rfl' _
 ·rename_i c
  rw [if_neg c, if_neg c]
  split at h
  ·rename_i c2
   rw [if_pos c2, if_pos c2]
   exact alike_words _ _ (by simp)
  ·rename_i c2
   rw [if_neg c2, if_neg c2]
   split at h
   case isFalse => simp at h
   simp only [Bool.and_eq_true] at h
   obtain ⟨_, h4⟩ := h
   split at h4
   case h_2 => simp at h4
   rename_i a b
   simp only [Bool.and_eq_true] at h4
   simp only [bindExs]
   exact alike_three (alike.rfl' _) (ih a (by simp) h4.1) (ih b (by simp) h4.2)
theorem bindFm_keeps (ht : ∀ s t, to s = some t → termB t = true) : ∀ f, shapedF f = true → ∀ bound, shapedF (bindFm to f bound) = true ∧ alike (fmW (bindFm to f bound)) (fmW f) := by
 refine sf_ind ?_ ?_ ?_ ?_ ?_ ?_ ?_
 ·intro name args h1 h2 bound
  simp only [bindFm, bindExs, bindFms]
  exact ⟨sf_mk (by simp [partsOk, show shapeOf opAtom 0 = some (0, 0, false) from rfl, show ∀ l, termsOk opAtom name l = (nameB name && l.all termB) from fun _ => rfl, h1, repl_terms ht bound h2]) (by simp) (by simp), alike_words _ _ (by simp)⟩
 ·intro args h1 h2 bound
  simp only [bindFm, bindExs, bindFms]
  exact ⟨sf_mk (by simp [partsOk, show shapeOf opSame 0 = some (0, 0, false) from rfl, show ∀ l, termsOk opSame ⟨#[]⟩ l = (emptyB ⟨#[]⟩ && decide (l.length = 2) && l.all termB) from fun _ => rfl, h1, repl_terms ht bound h2, show emptyB ⟨#[]⟩ = true from rfl]) (by simp) (by simp), alike_words _ _ (by simp)⟩
 ·intro op a b ho ha hb bound
  simp only [bindFm, bindExs, bindFms, List.map_nil]
  have e : ∀ x y, fmW (.mk op ⟨#[]⟩ [] [] [x, y] []) = listM [wordM op, exW x, exW y] := fun x y => by rcases ho with rfl | rfl | rfl <;> rfl
  refine ⟨sf_mk (by rcases ho with rfl | rfl | rfl <;> rfl) (by simp [bindEx_shaped ht bound a ha, bindEx_shaped ht bound b hb]) (by simp), ?_⟩
  rw [e, e]
  exact alike_three (alike.rfl' _) (bindEx_alike bound a ha) (bindEx_alike bound b hb)
 ·intro op kids ho hk ih bound
  simp only [bindFm, bindExs, List.map_nil, List.append_nil]
  rw [bindFms_map]
  have hs : ∀ k ∈ kids.map (bindFm to · bound), shapedF k = true := fun k hk2 => by
   obtain ⟨y, hy, rfl⟩ := List.mem_map.1 hk2; exact (ih y hy bound).1
  refine ⟨sf_mk (by rcases ho with rfl | rfl; exact po_and _; exact po_or _) (by simp) hs, ?_⟩
  have hx : ∀ l : List Fm, fmW (.mk op ⟨#[]⟩ [] [] [] l) = listM ((if (bEq op opAnd && l.isEmpty) = true then [] else [wordM op]) ++ l.map fmW) := fun l => by
   unfold fmW
   rw [fmWs_map]
   rcases ho with rfl | rfl
   ·rw [if_neg (by decide), if_neg (by decide), if_neg (by decide), if_neg (show ¬ isQ opAnd = true by decide), List.append_nil]
   ·rw [if_neg (by decide), if_neg (by decide), if_neg (by decide), if_neg (show ¬ isQ opOr = true by decide), List.append_nil]
  rw [hx, hx, List.isEmpty_map]
  generalize (if (bEq op opAnd && kids.isEmpty) = true then [] else [wordM op]) = pre
  refine alike_list (by simp) fun i x y hx hy => ?_
  by_cases hi : i < pre.length
  ·rw [List.getElem?_append_left hi] at hx hy
   rw [hx] at hy
   simp only [Option.some.injEq] at hy
   subst hy; exact alike.rfl' _
  ·rw [List.getElem?_append_right (by omega)] at hx hy
   rw [List.getElem?_map] at hx hy
   rw [List.getElem?_map] at hx
   obtain ⟨k, hk2, rfl⟩ := Option.map_eq_some_iff.1 hy
   rw [hk2] at hx
   simp only [Option.map_some, Option.some.injEq] at hx
   subst hx
   exact (ih k (List.mem_of_getElem? hk2) bound).2
 ·intro k _ ih bound
  simp only [bindFm, bindExs, bindFms, List.map_nil, List.append_nil]
  exact ⟨sf_mk po_not (by simp) (by simp [(ih bound).1]), alike_two (alike.rfl' _) (ih bound).2⟩
 ·intro a b _ _ iha ihb bound
  simp only [bindFm, bindExs, bindFms, List.map_nil, List.append_nil]
  exact ⟨sf_mk rfl (by simp) (by simp [(iha bound).1, (ihb bound).1]), alike_three (alike.rfl' _) (iha bound).2 (ihb bound).2⟩
 ·intro op params k ho hp _ ih bound
  simp only [bindFm, bindExs, bindFms, List.map_nil]
  have hk := ih (bound ++ params.map Pm.name)
  have e : ∀ x, fmW (.mk op ⟨#[]⟩ [] params [] [x]) = listM [wordM op, listM (paramsW params), fmW x] := fun x => by rcases ho with rfl | rfl <;> rfl
  refine ⟨sf_mk (by rcases ho with rfl | rfl; exact po_all hp; exact po_some hp) (by simp) (by simp [hk.1]), ?_⟩
  rw [e, e]
  exact alike_three (alike.rfl' _) (alike.rfl' _) hk.2
theorem bindFm_valid (ht : ∀ s t, to s = some t → termB t = true) {f : Fm} (h : validF f = true) (bound : List ByteArray) : validF (bindFm to f bound) = true := by
 rw [validF_iff] at h ⊢
 obtain ⟨h1, h2⟩ := bindFm_keeps ht f h.1 bound
 simp only [alike] at h2
 exact ⟨h1, by omega, by omega⟩
end
end Go.Proofs.Ytjlkapgpjamnkaa
namespace Go.Proofs.Ytjlkapgpjamnkaa
open Go.AM
def lookR : List ByteArray → List ByteArray → ByteArray → Option ByteArray
 | n :: ns, a :: aa, s => if bEq s n = true then some a else lookR ns aa s
 | _, _, _ => none
def filtR (p : ByteArray → Bool) : List ByteArray → List ByteArray → List ByteArray × List ByteArray
 | n :: ns, a :: aa => if p n = true then (n :: (filtR p ns aa).1, a :: (filtR p ns aa).2) else filtR p ns aa
 | _, _ => ([], [])
theorem look_filt (p : ByteArray → Bool) (s : ByteArray) : ∀ n a : List ByteArray, lookR (filtR p n a).1 (filtR p n a).2 s = if p s = true then lookR n a s else none
 | [], _ => by simp [filtR, lookR]
 | _ :: _, [] => by simp [filtR, lookR]
 | n :: ns, a :: aa => by
  have ih := look_filt p s ns aa
  simp only [filtR]
  by_cases hp : p n = true
  ·rw [if_pos hp]
   simp only [lookR]
   by_cases hs : bEq s n = true
   ·rw [if_pos hs, if_pos hs, bEq_eq hs, if_pos hp]
   ·rw [if_neg hs, if_neg hs, ih]
  ·rw [if_neg hp, ih]
   by_cases hs : bEq s n = true
   ·rw [bEq_eq hs, if_neg hp, if_neg hp]
   ·simp only [lookR]; rw [if_neg hs]
def toM (n a : List ByteArray) (s : ByteArray) : Option ByteArray := lookR (filtR varB n a).1 (filtR varB n a).2 s
section
variable {to : ByteArray → Option ByteArray}
end
end Go.Proofs.Ytjlkapgpjamnkaa
namespace Go.AM
section
variable {P : Program} {f : FuncId} {z : Nat} {h : Heap} {K : PV → Heap → Prop}
theorem RepL.nil_split {β : Env} {n : Nat} {F : Nat → Prop} {w : World} {z : Nat} : ∀ {pre post : List PV} {vals : List Value}, RepL β n F w (pre ++ .imm z [] :: post) vals → ∃ a cap, RepL β n F w (pre ++ .sc (.slice a 0 cap) :: post) vals
  | [], post, [], h => by simp [RepL] at h
  | [], post, v :: vals, h => by
    simp only [List.nil_append, RepL, Rep] at h ⊢
    obtain ⟨⟨a, cap, hv, _⟩, h2⟩ := h
    exact ⟨a, cap, by simpa using hv, h2⟩
  | p :: pre, post, [], h => by simp [RepL] at h
  | p :: pre, post, v :: vals, h => by
    simp only [List.cons_append, RepL] at h ⊢
    obtain ⟨a, cap, hx⟩ := RepL.nil_split h.2
    exact ⟨a, cap, h.1, hx⟩
theorem PCall.nil_split {pre post : List PV} (h0 : ∀ a cap, PCall P f (pre ++ .sc (.slice a 0 cap) :: post) h K) : PCall P f (pre ++ .imm z [] :: post) h K := by
  intro β w vals sm hr
  obtain ⟨a, cap, hx⟩ := RepL.nil_split hr
  exact h0 a cap β w vals sm hx
theorem PCall.nil1 (h0 : ∀ a cap, PCall P f [.sc (.slice a 0 cap)] h K) : PCall P f [.imm z []] h K := PCall.nil_split (pre := []) (post := []) h0
theorem peq_none (c : Bool) (cap : Nat) : peq 5 c (.sc (.slice none 0 cap)) (.sc (.slice none 0 0)) = some true := rfl
theorem peq_some (c : Bool) (x : Addr) (cap : Nat) : peq 5 c (.sc (.slice (some x) 0 cap)) (.sc (.slice none 0 0)) = some false := rfl
theorem view_some (h : Heap) (x : Option Addr) (cap : Nat) : view h (.sc (.slice x 0 cap)) = some [] := by
  unfold view
  split <;> first | rfl | (simp_all; done) | (simp_all)
theorem zOk_some (h : Heap) (z : Nat) (x : Option Addr) (cap : Nat) : zOk h z (.sc (.slice x 0 cap)) = true := by
  unfold zOk
  split <;> first | rfl | (simp_all; done) | (simp_all)
end
end Go.AM
namespace Go.Proofs.Ytjlkapgpjamnkaa
open Go.AM
set_option maxHeartbeats 4000000
set_option maxRecDepth 20000
theorem pms_in (n : Nat) (l : List Pm) : inNR n (pmRows l) := by
 induction l with
 | nil => simp only [pmRows, List.map_nil, inNR]
 | cons a l ih => simp only [pmRows, List.map_cons, inNR, pmRow, inNL, inN, and_true, true_and] at ih ⊢; exact ih
theorem exs_in (n : Nat) : ∀ l : List Ex, inNR n (Ex.rows l)
 | [] => by simp only [Ex.rows, inNR]
 | k :: ks => by simp only [Ex.rows, inNR]; exact ⟨ex_in n k, exs_in n ks⟩
theorem fm_in (n : Nat) : ∀ f : Fm, inNL n f.cells := by
 refine Fm.ind ?_
 intro op name args params exprs kids ih
 have : inNR n (Fm.rows kids) := by
  clear op name args params exprs
  induction kids with
  | nil => simp only [Fm.rows, inNR]
  | cons k ks ih2 =>
   simp only [Fm.rows, inNR]
   exact ⟨ih k (by simp), ih2 fun q hq => ih q (by simp [hq])⟩
 simp only [Fm.cells, inNL, inN, and_true, true_and]
 exact ⟨strs_in n args, pms_in n params, exs_in n exprs, this⟩
theorem fms_in (n : Nat) : ∀ l : List Fm, inNR n (Fm.rows l)
 | [] => by simp only [Fm.rows, inNR]
 | k :: ks => by simp only [Fm.rows, inNR]; exact ⟨fm_in n k, fms_in n ks⟩
theorem fm_frz (n : Nat) (h : Heap) (f : Fm) : FrzL n h f.cells f.cells := by
 have hi := fm_in n f
 obtain ⟨op, name, args, params, exprs, kids⟩ := f
 simp only [Fm.cells, inNL, inN, and_true, true_and] at hi
 simp only [Fm.cells, FrzL, FrzTo, and_true, true_and]
 exact ⟨.inl hi.1, .inl hi.2.1, .inl hi.2.2.1, .inl hi.2.2.2⟩
theorem fms_frz (n : Nat) (h : Heap) : ∀ l : List Fm, FrzR n h (Fm.rows l) (Fm.rows l)
 | [] => by simp only [Fm.rows, FrzR]
 | k :: ks => by simp only [Fm.rows, FrzR]; exact ⟨fm_frz n h k, fms_frz n h ks⟩
theorem tl_frzF {h : Heap} {id0 n : Nat} {p : PV} {l : List Fm} (hn : n ≤ id0) (t : Tl h id0 6 p (Fm.rows l)) : FrzTo n h (.imm 6 (Fm.rows l)) p := by
 simp only [FrzTo]
 rcases t with ⟨h1, h2⟩ | ⟨id, h1, h2, rfl, ho⟩
 ·exact .inr (.inl ⟨h1, h2.symm⟩)
 ·refine .inr (.inr ⟨id, 0, _, _, rfl, by omega, ho, by omega, ?_⟩)
  rw [List.drop_zero, List.take_of_length_le (by omega)]
  exact fms_frz _ _ _
end Go.Proofs.Ytjlkapgpjamnkaa
namespace Go.Proofs.Ytjlkapgpjamnkaa
open Go.AM
set_option maxHeartbeats 4000000
set_option maxRecDepth 20000
theorem a_gen {P : Program} {ow : Nat → Bool} {wf : FuncId → Bool} {n : Nat} {Q : Post} {s : Slots} {h : Heap} {c : Code} (I : Slots → Heap → Prop) (hi : I s h) (hh : ∀ s h, I s h → awp P ow wf n c Q s h) : awp P ow wf n c Q s h := hh _ _ hi
theorem pms_scal (l : List Pm) : ∀ r ∈ pmRows l, ∀ p ∈ r, ∃ v, p = PV.sc v := by
 intro r hr p hp
 simp only [pmRows, List.mem_map] at hr
 obtain ⟨x, _, rfl⟩ := hr
 simp only [pmRow, List.mem_cons, List.not_mem_nil, or_false] at hp
 rcases hp with rfl | rfl
 ·exact ⟨_, rfl⟩
 ·exact ⟨_, rfl⟩
theorem pms_frzP {h : Heap} {id0 : Nat} {p : PV} {l : List Pm} (t : Tl h id0 2 p (pmRows l)) : FrzTo id0 h (.imm 2 (pmRows l)) p := t.frz (pms_scal l)
end Go.Proofs.Ytjlkapgpjamnkaa
namespace Go.Proofs.Ytjlkapgpjamnkaa
open Go.AM
set_option maxHeartbeats 2000000
set_option maxRecDepth 20000
theorem cloneS_c {l : List ByteArray} (hl : l.length ≤ 1099511627776) (h : Heap) : PCall Try.prog 139 [.imm 1 (strRows l)] h fun r h' => Grow h h' ∧ Tl h' h.next 1 r (strRows l) := by
 have hll := strRows_len l
 cases l with
 | nil =>
  have e0 : strRows [] = [] := rfl
  rw [e0]
  refine PCall.nil1 fun a cap => ?_
  cases a with
  | none =>
   refine pcall_body (ow := fun _ => false) (wf := fun _ => false) Ty.mixed Try.func139 rfl Ty.hb_139 (by rw [Try.ntmps139]; simp) ?_
   rw [Try.ntmps139, Try.results139]
   repeat' (first | refine a_seq fun K hK => ?_ | ((first | refine a_regionS ?_ | refine a_ret ?_); simp (maxSteps := 2000000) only [Ty.w, simprocAttr, peq_none]) | (refine hK _ _ ?_; clear hK; try simp only [pst0, simprocAttr]))
   exact ⟨Grow.refl _, Tl.nil⟩
  | some x =>
   refine pcall_body (ow := fun _ => false) (wf := fun _ => false) Ty.mixed Try.func139 rfl Ty.hb_139 (by rw [Try.ntmps139]; simp) ?_
   rw [Try.ntmps139, Try.results139]
   repeat' (first | refine a_seq fun K hK => ?_ | ((first | refine a_regionS ?_ | refine a_ret ?_); simp (maxSteps := 2000000) only [Ty.w, simprocAttr, peq_some, view_some, zOk_some]) | (refine a_skip ?_; try simp only [pst0, simprocAttr]) | (refine a_cond _ (by (try simp (maxSteps := 2000000) only [Ty.w, simprocAttr, peq_some, view_some, zOk_some]); rfl) (fun hb => ?_) (fun hb => ?_) <;> (try simp only [hb0, decide_eq_true_eq, decide_eq_false_iff_not, simprocAttr] at hb) <;> (try (exfalso; omega))) | (refine hK _ _ ?_; clear hK; try simp only [pst0, simprocAttr]))
   exact ⟨(Grow.refl h).new _, Tl.grow (Nat.le_refl _) rfl⟩
 | cons x l =>
  have h0 : (0 < (strRows (x :: l)).length) = True := by rw [hll]; simp
  have hb : ((x :: l).length) * 16 ≤ 140737488355328 := by omega
  have hz : 0 + (strRows (x :: l)).length = (x :: l).length := by omega
  generalize strRows (x :: l) = R at hll h0 hz
  refine pcall_body (ow := fun _ => false) (wf := fun _ => false) Ty.mixed Try.func139 rfl Ty.hb_139 (by rw [Try.ntmps139]; simp) ?_
  rw [Try.ntmps139, Try.results139]
  repeat' (first | refine a_seq fun K hK => ?_ | ((first | refine a_regionS ?_ | refine a_ret ?_); simp (maxSteps := 2000000) only [Ty.w, simprocAttr, h0, hll, hb]) | (refine a_skip ?_; try simp only [pst0, simprocAttr]) | (refine a_cond _ (by (try simp (maxSteps := 2000000) only [Ty.w, simprocAttr, h0, hll, hb]); rfl) (fun hb => ?_) (fun hb => ?_) <;> (try simp only [hb0, decide_eq_true_eq, decide_eq_false_iff_not, simprocAttr] at hb) <;> (try (exfalso; omega))) | (refine hK _ _ ?_; clear hK; try simp only [pst0, simprocAttr]) | (rw [if_pos]; rotate_left 1; omega; simp (maxSteps := 2000000) only [Ty.w, simprocAttr, h0, hll, hb]))
  exact ⟨(Grow.refl h).new _, Tl.grow (Nat.le_refl _) (by simp [hll])⟩
theorem cloneP_c {l : List Pm} (hl : l.length ≤ 1099511627776) (h : Heap) : PCall Try.prog 100 [.imm 2 (pmRows l)] h fun r h' => Grow h h' ∧ Tl h' h.next 2 r (pmRows l) := by
 have hll := pmRows_len l
 cases l with
 | nil =>
  have e0 : pmRows [] = [] := rfl
  rw [e0]
  refine PCall.nil1 fun a cap => ?_
  cases a with
  | none =>
   refine pcall_body (ow := fun _ => false) (wf := fun _ => false) Ty.mixed Try.func100 rfl Ty.hb_100 (by rw [Try.ntmps100]; simp) ?_
   rw [Try.ntmps100, Try.results100]
   repeat' (first | refine a_seq fun K hK => ?_ | ((first | refine a_regionS ?_ | refine a_ret ?_); simp (maxSteps := 2000000) only [Ty.w, simprocAttr, peq_none]) | (refine hK _ _ ?_; clear hK; try simp only [pst0, simprocAttr]))
   exact ⟨Grow.refl _, Tl.nil⟩
  | some x =>
   refine pcall_body (ow := fun _ => false) (wf := fun _ => false) Ty.mixed Try.func100 rfl Ty.hb_100 (by rw [Try.ntmps100]; simp) ?_
   rw [Try.ntmps100, Try.results100]
   repeat' (first | refine a_seq fun K hK => ?_ | ((first | refine a_regionS ?_ | refine a_ret ?_); simp (maxSteps := 2000000) only [Ty.w, simprocAttr, peq_some, view_some, zOk_some]) | (refine a_skip ?_; try simp only [pst0, simprocAttr]) | (refine a_cond _ (by (try simp (maxSteps := 2000000) only [Ty.w, simprocAttr, peq_some, view_some, zOk_some]); rfl) (fun hb => ?_) (fun hb => ?_) <;> (try simp only [hb0, decide_eq_true_eq, decide_eq_false_iff_not, simprocAttr] at hb) <;> (try (exfalso; omega))) | (refine hK _ _ ?_; clear hK; try simp only [pst0, simprocAttr]))
   exact ⟨(Grow.refl h).new _, Tl.grow (Nat.le_refl _) rfl⟩
 | cons x l =>
  have h0 : (0 < (pmRows (x :: l)).length) = True := by rw [hll]; simp
  have hb : ((x :: l).length) * 32 ≤ 140737488355328 := by omega
  have hz : 0 + (pmRows (x :: l)).length = (x :: l).length := by omega
  generalize pmRows (x :: l) = R at hll h0 hz
  refine pcall_body (ow := fun _ => false) (wf := fun _ => false) Ty.mixed Try.func100 rfl Ty.hb_100 (by rw [Try.ntmps100]; simp) ?_
  rw [Try.ntmps100, Try.results100]
  repeat' (first | refine a_seq fun K hK => ?_ | ((first | refine a_regionS ?_ | refine a_ret ?_); simp (maxSteps := 2000000) only [Ty.w, simprocAttr, h0, hll, hb]) | (refine a_skip ?_; try simp only [pst0, simprocAttr]) | (refine a_cond _ (by (try simp (maxSteps := 2000000) only [Ty.w, simprocAttr, h0, hll, hb]); rfl) (fun hb => ?_) (fun hb => ?_) <;> (try simp only [hb0, decide_eq_true_eq, decide_eq_false_iff_not, simprocAttr] at hb) <;> (try (exfalso; omega))) | (refine hK _ _ ?_; clear hK; try simp only [pst0, simprocAttr]) | (rw [if_pos]; rotate_left 1; omega; simp (maxSteps := 2000000) only [Ty.w, simprocAttr, h0, hll, hb]))
  exact ⟨(Grow.refl h).new _, Tl.grow (Nat.le_refl _) (by simp [hll])⟩
theorem cloneP_q {l : List Pm} (hl : l.length ≤ 1099511627776) (h : Heap) : PCall Try.prog 100 [.imm 2 (pmRows l)] h fun r h' => r = .imm 2 (pmRows l) ∧ h' = h := by
 refine PCall.frz Ty.hb_100 ((cloneP_c hl h).mono ?_)
 rintro r h' ⟨hg, tl⟩
 exact ⟨pms_frzP tl, hg⟩
theorem cloneE_c {l : List Ex} (hl : l.length ≤ 1099511627776) (h : Heap) : PCall Try.prog 127 [.imm 5 (Ex.rows l)] h fun r h' => Grow h h' ∧ Tl h' h.next 5 r (Ex.rows l) := by
 have hll := Ex.rows_len l
 cases l with
 | nil =>
  have e0 : Ex.rows [] = [] := rfl
  rw [e0]
  refine PCall.nil1 fun a cap => ?_
  cases a with
  | none =>
   refine pcall_body (ow := fun _ => false) (wf := fun _ => false) Ty.mixed Try.func127 rfl Ty.hb_127 (by rw [Try.ntmps127]; simp) ?_
   rw [Try.ntmps127, Try.results127]
   repeat' (first | refine a_seq fun K hK => ?_ | ((first | refine a_regionS ?_ | refine a_ret ?_); simp (maxSteps := 2000000) only [Ty.w, simprocAttr, peq_none]) | (refine hK _ _ ?_; clear hK; try simp only [pst0, simprocAttr]))
   exact ⟨Grow.refl _, Tl.nil⟩
  | some x =>
   refine pcall_body (ow := fun _ => false) (wf := fun _ => false) Ty.mixed Try.func127 rfl Ty.hb_127 (by rw [Try.ntmps127]; simp) ?_
   rw [Try.ntmps127, Try.results127]
   repeat' (first | refine a_seq fun K hK => ?_ | ((first | refine a_regionS ?_ | refine a_ret ?_); simp (maxSteps := 2000000) only [Ty.w, simprocAttr, peq_some, view_some, zOk_some]) | (refine a_skip ?_; try simp only [pst0, simprocAttr]) | (refine a_cond _ (by (try simp (maxSteps := 2000000) only [Ty.w, simprocAttr, peq_some, view_some, zOk_some]); rfl) (fun hb => ?_) (fun hb => ?_) <;> (try simp only [hb0, decide_eq_true_eq, decide_eq_false_iff_not, simprocAttr] at hb) <;> (try (exfalso; omega))) | (refine hK _ _ ?_; clear hK; try simp only [pst0, simprocAttr]))
   exact ⟨(Grow.refl h).new _, Tl.grow (Nat.le_refl _) rfl⟩
 | cons x l =>
  have h0 : (0 < (Ex.rows (x :: l)).length) = True := by rw [hll]; simp
  have hb : ((x :: l).length) * 88 ≤ 140737488355328 := by omega
  have hz : 0 + (Ex.rows (x :: l)).length = (x :: l).length := by omega
  generalize Ex.rows (x :: l) = R at hll h0 hz
  refine pcall_body (ow := fun _ => false) (wf := fun _ => false) Ty.mixed Try.func127 rfl Ty.hb_127 (by rw [Try.ntmps127]; simp) ?_
  rw [Try.ntmps127, Try.results127]
  repeat' (first | refine a_seq fun K hK => ?_ | ((first | refine a_regionS ?_ | refine a_ret ?_); simp (maxSteps := 2000000) only [Ty.w, simprocAttr, h0, hll, hb]) | (refine a_skip ?_; try simp only [pst0, simprocAttr]) | (refine a_cond _ (by (try simp (maxSteps := 2000000) only [Ty.w, simprocAttr, h0, hll, hb]); rfl) (fun hb => ?_) (fun hb => ?_) <;> (try simp only [hb0, decide_eq_true_eq, decide_eq_false_iff_not, simprocAttr] at hb) <;> (try (exfalso; omega))) | (refine hK _ _ ?_; clear hK; try simp only [pst0, simprocAttr]) | (rw [if_pos]; rotate_left 1; omega; simp (maxSteps := 2000000) only [Ty.w, simprocAttr, h0, hll, hb]))
  exact ⟨(Grow.refl h).new _, Tl.grow (Nat.le_refl _) (by simp [hll])⟩
theorem cloneE_q {l : List Ex} (hl : l.length ≤ 1099511627776) (h : Heap) : PCall Try.prog 127 [.imm 5 (Ex.rows l)] h fun r h' => r = .imm 5 (Ex.rows l) ∧ h' = h := by
 refine PCall.frz Ty.hb_127 ((cloneE_c hl h).mono ?_)
 rintro r h' ⟨hg, tl⟩
 exact ⟨tl_frzE (Nat.le_refl _) tl, hg⟩
theorem cloneF_c {l : List Fm} (hl : l.length ≤ 1099511627776) (h : Heap) : PCall Try.prog 128 [.imm 6 (Fm.rows l)] h fun r h' => Grow h h' ∧ Tl h' h.next 6 r (Fm.rows l) := by
 have hll := Fm.rows_len l
 cases l with
 | nil =>
  have e0 : Fm.rows [] = [] := rfl
  rw [e0]
  refine PCall.nil1 fun a cap => ?_
  cases a with
  | none =>
   refine pcall_body (ow := fun _ => false) (wf := fun _ => false) Ty.mixed Try.func128 rfl Ty.hb_128 (by rw [Try.ntmps128]; simp) ?_
   rw [Try.ntmps128, Try.results128]
   repeat' (first | refine a_seq fun K hK => ?_ | ((first | refine a_regionS ?_ | refine a_ret ?_); simp (maxSteps := 2000000) only [Ty.w, simprocAttr, peq_none]) | (refine hK _ _ ?_; clear hK; try simp only [pst0, simprocAttr]))
   exact ⟨Grow.refl _, Tl.nil⟩
  | some x =>
   refine pcall_body (ow := fun _ => false) (wf := fun _ => false) Ty.mixed Try.func128 rfl Ty.hb_128 (by rw [Try.ntmps128]; simp) ?_
   rw [Try.ntmps128, Try.results128]
   repeat' (first | refine a_seq fun K hK => ?_ | ((first | refine a_regionS ?_ | refine a_ret ?_); simp (maxSteps := 2000000) only [Ty.w, simprocAttr, peq_some, view_some, zOk_some]) | (refine a_skip ?_; try simp only [pst0, simprocAttr]) | (refine a_cond _ (by (try simp (maxSteps := 2000000) only [Ty.w, simprocAttr, peq_some, view_some, zOk_some]); rfl) (fun hb => ?_) (fun hb => ?_) <;> (try simp only [hb0, decide_eq_true_eq, decide_eq_false_iff_not, simprocAttr] at hb) <;> (try (exfalso; omega))) | (refine hK _ _ ?_; clear hK; try simp only [pst0, simprocAttr]))
   exact ⟨(Grow.refl h).new _, Tl.grow (Nat.le_refl _) rfl⟩
 | cons x l =>
  have h0 : (0 < (Fm.rows (x :: l)).length) = True := by rw [hll]; simp
  have hb : ((x :: l).length) * 128 ≤ 140737488355328 := by omega
  have hz : 0 + (Fm.rows (x :: l)).length = (x :: l).length := by omega
  generalize Fm.rows (x :: l) = R at hll h0 hz
  refine pcall_body (ow := fun _ => false) (wf := fun _ => false) Ty.mixed Try.func128 rfl Ty.hb_128 (by rw [Try.ntmps128]; simp) ?_
  rw [Try.ntmps128, Try.results128]
  repeat' (first | refine a_seq fun K hK => ?_ | ((first | refine a_regionS ?_ | refine a_ret ?_); simp (maxSteps := 2000000) only [Ty.w, simprocAttr, h0, hll, hb]) | (refine a_skip ?_; try simp only [pst0, simprocAttr]) | (refine a_cond _ (by (try simp (maxSteps := 2000000) only [Ty.w, simprocAttr, h0, hll, hb]); rfl) (fun hb => ?_) (fun hb => ?_) <;> (try simp only [hb0, decide_eq_true_eq, decide_eq_false_iff_not, simprocAttr] at hb) <;> (try (exfalso; omega))) | (refine hK _ _ ?_; clear hK; try simp only [pst0, simprocAttr]) | (rw [if_pos]; rotate_left 1; omega; simp (maxSteps := 2000000) only [Ty.w, simprocAttr, h0, hll, hb]))
  exact ⟨(Grow.refl h).new _, Tl.grow (Nat.le_refl _) (by simp [hll])⟩
theorem cloneF_q {l : List Fm} (hl : l.length ≤ 1099511627776) (h : Heap) : PCall Try.prog 128 [.imm 6 (Fm.rows l)] h fun r h' => r = .imm 6 (Fm.rows l) ∧ h' = h := by
 refine PCall.frz Ty.hb_128 ((cloneF_c hl h).mono ?_)
 rintro r h' ⟨hg, tl⟩
 exact ⟨tl_frzF (Nat.le_refl _) tl, hg⟩
end Go.Proofs.Ytjlkapgpjamnkaa
namespace Go.AM
def Cl (h : Heap) (id0 z : Nat) (p : PV) (rows : List (List PV)) : Prop :=
 (rows = [] ∧ p = .imm z []) ∨ ∃ id, id0 ≤ id ∧ id < h.next ∧ p = .own id 0 rows.length ∧ h.obj id = some (.arr z rows)
variable {h : Heap} {id0 z : Nat} {p : PV} {rows : List (List PV)}
theorem Cl.sl (t : Cl h id0 z p rows) : Sl h z p rows := by
 rcases t with ⟨rfl, rfl⟩ | ⟨id, _, _, rfl, ho⟩
 ·exact Sl.imm _
 ·exact Sl.own0 ho
theorem Cl.up {h' : Heap} (t : Cl h id0 z p rows) (hn : h.next ≤ h'.next) (ho : ∀ j, id0 ≤ j → j < h.next → h'.obj j = h.obj j) : Cl h' id0 z p rows := by
 rcases t with ht | ⟨id, h1, h2, rfl, h3⟩
 ·exact .inl ht
 ·exact .inr ⟨id, h1, by omega, rfl, by rw [ho id h1 h2]; exact h3⟩
theorem Cl.keep {h' : Heap} (t : Cl h id0 z p rows) (hn : h.next ≤ h'.next) (ho : ∀ j, p = .own j 0 rows.length → j < h.next → h'.obj j = h.obj j) : Cl h' id0 z p rows := by
 rcases t with ht | ⟨id, h1, h2, rfl, h3⟩
 ·exact .inl ht
 ·exact .inr ⟨id, h1, by omega, rfl, by rw [ho id rfl h2]; exact h3⟩
theorem Cl.low {a : Nat} (t : Cl h a z p rows) (hab : id0 ≤ a) : Cl h id0 z p rows := by
 rcases t with ht | ⟨id, h1, h2, h3, h4⟩
 ·exact .inl ht
 ·exact .inr ⟨id, by omega, h2, h3, h4⟩
theorem Cl.grow {H : Heap} {len : Nat} (hn : id0 ≤ H.next) (hl : len = rows.length) : Cl (H.new (.arr z rows)) id0 z (.own H.next 0 len) rows :=
 .inr ⟨H.next, hn, Nat.lt_succ_self _, by rw [hl], by rw [new_obj, if_pos rfl]⟩
theorem Cl.pc (t : Cl h id0 z p rows) : p.cells = [p] ∧ oneC p = true := by
 rcases t with ⟨_, rfl⟩ | ⟨_, _, _, rfl, _⟩ <;> exact ⟨rfl, rfl⟩
theorem Cl.frz {n : Nat} (t : Cl h id0 z p rows) (hf : Tl h id0 z p rows → FrzTo n h (.imm z rows) p) : FrzTo n h (.imm z rows) p := by
 rcases t with ⟨rfl, rfl⟩ | ht
 ·simp only [FrzTo]
  exact .inl ⟨trivial, by simp only [inNR]⟩
 ·exact hf (.inr ht)
end Go.AM
namespace Go.Proofs.Ytjlkapgpjamnkaa
open Go.AM
set_option maxHeartbeats 2000000
set_option maxRecDepth 20000
theorem cloneP_d {l : List Pm} (hl : l.length ≤ 1099511627776) (h : Heap) : ∃ v h1, (PCall Try.prog 100 [.imm 2 (pmRows l)] h fun r h' => r = v ∧ h' = h1) ∧ Grow h h1 ∧ h1.next ≤ h.next + 1 ∧ Cl h1 h.next 2 v (pmRows l) := by
 have hll := pmRows_len l
 cases l with
 | nil => exact ⟨_, _, cloneP_q hl h, Grow.refl _, by omega, .inl ⟨rfl, rfl⟩⟩
 | cons x l =>
  refine ⟨.own h.next 0 (pmRows (x :: l)).length, h.new (.arr 2 (pmRows (x :: l))), ?_, (Grow.refl h).new _, Nat.le_refl _, Cl.grow (Nat.le_refl _) rfl⟩
  have h0 : (0 < (pmRows (x :: l)).length) = True := by rw [hll]; simp
  have hb : ((x :: l).length) * 32 ≤ 140737488355328 := by omega
  have hz : 0 + (pmRows (x :: l)).length = (x :: l).length := by omega
  generalize pmRows (x :: l) = R at hll h0 hz
  refine pcall_body (ow := fun _ => false) (wf := fun _ => false) Ty.mixed Try.func100 rfl Ty.hb_100 (by rw [Try.ntmps100]; simp) ?_
  rw [Try.ntmps100, Try.results100]
  repeat' (first | refine a_seq fun K hK => ?_ | ((first | refine a_regionS ?_ | refine a_ret ?_); simp (maxSteps := 2000000) only [Ty.w, simprocAttr, h0, hll, hb]) | (refine a_skip ?_; try simp only [pst0, simprocAttr]) | (refine a_cond _ (by (try simp (maxSteps := 2000000) only [Ty.w, simprocAttr, h0, hll, hb]); rfl) (fun hb => ?_) (fun hb => ?_) <;> (try simp only [hb0, decide_eq_true_eq, decide_eq_false_iff_not, simprocAttr] at hb) <;> (try (exfalso; omega))) | (refine hK _ _ ?_; clear hK; try simp only [pst0, simprocAttr]) | (rw [if_pos]; rotate_left 1; omega; simp (maxSteps := 2000000) only [Ty.w, simprocAttr, h0, hll, hb]))
  all_goals first | done | exact ⟨rfl, rfl⟩ | (rw [hll])
theorem cloneE_d {l : List Ex} (hl : l.length ≤ 1099511627776) (h : Heap) : ∃ v h1, (PCall Try.prog 127 [.imm 5 (Ex.rows l)] h fun r h' => r = v ∧ h' = h1) ∧ Grow h h1 ∧ h1.next ≤ h.next + 1 ∧ Cl h1 h.next 5 v (Ex.rows l) := by
 have hll := Ex.rows_len l
 cases l with
 | nil => exact ⟨_, _, cloneE_q hl h, Grow.refl _, by omega, .inl ⟨rfl, rfl⟩⟩
 | cons x l =>
  refine ⟨.own h.next 0 (Ex.rows (x :: l)).length, h.new (.arr 5 (Ex.rows (x :: l))), ?_, (Grow.refl h).new _, Nat.le_refl _, Cl.grow (Nat.le_refl _) rfl⟩
  have h0 : (0 < (Ex.rows (x :: l)).length) = True := by rw [hll]; simp
  have hb : ((x :: l).length) * 88 ≤ 140737488355328 := by omega
  have hz : 0 + (Ex.rows (x :: l)).length = (x :: l).length := by omega
  generalize Ex.rows (x :: l) = R at hll h0 hz
  refine pcall_body (ow := fun _ => false) (wf := fun _ => false) Ty.mixed Try.func127 rfl Ty.hb_127 (by rw [Try.ntmps127]; simp) ?_
  rw [Try.ntmps127, Try.results127]
  repeat' (first | refine a_seq fun K hK => ?_ | ((first | refine a_regionS ?_ | refine a_ret ?_); simp (maxSteps := 2000000) only [Ty.w, simprocAttr, h0, hll, hb]) | (refine a_skip ?_; try simp only [pst0, simprocAttr]) | (refine a_cond _ (by (try simp (maxSteps := 2000000) only [Ty.w, simprocAttr, h0, hll, hb]); rfl) (fun hb => ?_) (fun hb => ?_) <;> (try simp only [hb0, decide_eq_true_eq, decide_eq_false_iff_not, simprocAttr] at hb) <;> (try (exfalso; omega))) | (refine hK _ _ ?_; clear hK; try simp only [pst0, simprocAttr]) | (rw [if_pos]; rotate_left 1; omega; simp (maxSteps := 2000000) only [Ty.w, simprocAttr, h0, hll, hb]))
  all_goals first | done | exact ⟨rfl, rfl⟩ | (rw [hll])
theorem cloneF_d {l : List Fm} (hl : l.length ≤ 1099511627776) (h : Heap) : ∃ v h1, (PCall Try.prog 128 [.imm 6 (Fm.rows l)] h fun r h' => r = v ∧ h' = h1) ∧ Grow h h1 ∧ h1.next ≤ h.next + 1 ∧ Cl h1 h.next 6 v (Fm.rows l) := by
 have hll := Fm.rows_len l
 cases l with
 | nil => exact ⟨_, _, cloneF_q hl h, Grow.refl _, by omega, .inl ⟨rfl, rfl⟩⟩
 | cons x l =>
  refine ⟨.own h.next 0 (Fm.rows (x :: l)).length, h.new (.arr 6 (Fm.rows (x :: l))), ?_, (Grow.refl h).new _, Nat.le_refl _, Cl.grow (Nat.le_refl _) rfl⟩
  have h0 : (0 < (Fm.rows (x :: l)).length) = True := by rw [hll]; simp
  have hb : ((x :: l).length) * 128 ≤ 140737488355328 := by omega
  have hz : 0 + (Fm.rows (x :: l)).length = (x :: l).length := by omega
  generalize Fm.rows (x :: l) = R at hll h0 hz
  refine pcall_body (ow := fun _ => false) (wf := fun _ => false) Ty.mixed Try.func128 rfl Ty.hb_128 (by rw [Try.ntmps128]; simp) ?_
  rw [Try.ntmps128, Try.results128]
  repeat' (first | refine a_seq fun K hK => ?_ | ((first | refine a_regionS ?_ | refine a_ret ?_); simp (maxSteps := 2000000) only [Ty.w, simprocAttr, h0, hll, hb]) | (refine a_skip ?_; try simp only [pst0, simprocAttr]) | (refine a_cond _ (by (try simp (maxSteps := 2000000) only [Ty.w, simprocAttr, h0, hll, hb]); rfl) (fun hb => ?_) (fun hb => ?_) <;> (try simp only [hb0, decide_eq_true_eq, decide_eq_false_iff_not, simprocAttr] at hb) <;> (try (exfalso; omega))) | (refine hK _ _ ?_; clear hK; try simp only [pst0, simprocAttr]) | (rw [if_pos]; rotate_left 1; omega; simp (maxSteps := 2000000) only [Ty.w, simprocAttr, h0, hll, hb]))
  all_goals first | done | exact ⟨rfl, rfl⟩ | (rw [hll])
end Go.Proofs.Ytjlkapgpjamnkaa
namespace Go.AM
def toE (m : List (ByteArray × ByteArray)) : List (Value × PV) := m.map fun p => (.string p.1, sPV p.2)
def lookE : List (ByteArray × ByteArray) → ByteArray → Option ByteArray
 | [], _ => none
 | (k, v) :: m, s => if (s == k) = true then some v else lookE m s
theorem mfind_E (s : ByteArray) : ∀ m : List (ByteArray × ByteArray), mfind (.string s) (toE m) = some ((lookE m s).map sPV)
 | [] => rfl
 | (k, v) :: m => by
  have ih := mfind_E s m
  simp only [toE, List.map_cons, mfind, keyEq, lookE] at ih ⊢
  cases h : s == k with
  | true => rfl
  | false => simpa using ih
def MapAt (h : Heap) (T : PV) (to : ByteArray → Option ByteArray) : Prop := (∃ m, mview h T = some (toE m) ∧ ∀ s, to s = lookE m s) ∧ ∀ id, T = .mp id → id < h.next
theorem MapAt.grow {h h' : Heap} {T : PV} {to : ByteArray → Option ByteArray} (hm : MapAt h T to) (g : Grow h h') : MapAt h' T to := by
 obtain ⟨⟨m, h1, h2⟩, h3⟩ := hm
 refine ⟨⟨m, ?_, h2⟩, fun id e => Nat.lt_of_lt_of_le (h3 id e) g.le⟩
 cases T with
 | mp id => simp only [mview] at h1 ⊢; rw [g.old id (h3 id rfl)]; exact h1
 | sc v => cases v <;> first | exact h1 | (rename_i r; cases r <;> exact h1)
 | _ => exact h1
theorem MapAt.nil (h : Heap) : MapAt h (.sc (.map none)) fun _ => none := ⟨⟨[], rfl, fun _ => rfl⟩, fun id e => by simp at e⟩
theorem pcall_weakA {P : Program} {f : FuncId} {xs ys : List PV} {h : Heap} {K : PV → Heap → Prop} (hab : ∀ (β : Env) (n : Nat) (F : Nat → Prop) (w : World) (vals : List Value), RepL β n F w xs vals → RepL β n F w ys vals) (hc : PCall P f ys h K) : PCall P f xs h K :=
 fun β w vals sm hr => hc β w vals sm (hab _ _ _ _ _ hr)
theorem repl_nil_imm {β : Env} {n : Nat} {F : Nat → Prop} {w : World} {z : Nat} : ∀ {pre post : List PV} {vals : List Value}, RepL β n F w (pre ++ .sc (.slice none 0 0) :: post) vals → RepL β n F w (pre ++ .imm z [] :: post) vals
 | [], post, [], h => by simp [RepL] at h
 | [], post, v :: vals, h => by
  simp only [List.nil_append, RepL, Rep] at h ⊢
  exact ⟨⟨none, 0, h.1, Nat.le_refl _, Nat.zero_le _, .inl trivial⟩, h.2⟩
 | p :: pre, post, [], h => by simp [RepL] at h
 | p :: pre, post, v :: vals, h => by
  simp only [List.cons_append, RepL] at h ⊢
  exact ⟨h.1, repl_nil_imm h.2⟩
theorem PCall.nil_imm {P : Program} {f : FuncId} {z : Nat} {pre post : List PV} {h : Heap} {K : PV → Heap → Prop} (hc : PCall P f (pre ++ .imm z [] :: post) h K) : PCall P f (pre ++ .sc (.slice none 0 0) :: post) h K :=
 pcall_weakA (fun _ _ _ _ _ hr => repl_nil_imm hr) hc
end Go.AM
namespace Go.Proofs.Ytjlkapgpjamnkaa
open Go.AM
set_option maxHeartbeats 4000000
set_option maxRecDepth 20000
theorem memB_any (l : List ByteArray) (s : ByteArray) : (l.any fun w => bEq s w) = memB l s := by
 unfold memB
 congr 1
 funext w
 exact BEq.comm
theorem strRows_set (l : List ByteArray) (k : Nat) (s : ByteArray) : (strRows l).set k [sPV s] = strRows (l.set k s) := by simp [strRows, List.map_set]
theorem mix_get {g : ByteArray → ByteArray} {l : List ByteArray} {k : Nat} {s : ByteArray} (h : l[k]? = some s) : ((l.take k).map g ++ l.drop k)[k]? = some s ∧ ((l.take k).map g ++ l.drop k).set k (g s) = (l.take (k + 1)).map g ++ l.drop (k + 1) := by
 have hk : k < l.length := (List.getElem?_eq_some_iff.1 h).1
 have h1 : ((l.take k).map g).length = k := by simp; omega
 have h2 : l.drop k = s :: l.drop (k + 1) := by
  obtain ⟨_, h4⟩ := List.getElem?_eq_some_iff.1 h
  rw [List.drop_eq_getElem_cons hk, h4]
 constructor
 ·rw [List.getElem?_append_right (by omega), h1, h2]; simp
 ·rw [List.set_append_right _ _ (by omega), h1, h2, List.take_add_one, h]; simp
theorem set_same {α : Type} {l : List α} {k : Nat} {a : α} (h : l[k]? = some a) : l.set k a = l := by
 apply List.ext_getElem?
 intro i
 rw [List.getElem?_set]
 split
 ·rename_i e
  subst e
  have := (List.getElem?_eq_some_iff.1 h).1
  rw [if_pos this, h]
 ·rfl
theorem mix_id {g : ByteArray → ByteArray} {l : List ByteArray} {k : Nat} {s : ByteArray} (h : l[k]? = some s) (hg : g s = s) : (l.take k).map g ++ l.drop k = (l.take (k + 1)).map g ++ l.drop (k + 1) := by
 have h1 := (mix_get (g := g) h).2
 have h2 := (mix_get (g := g) h).1
 rw [hg] at h1
 rw [← h1]
 exact (set_same h2).symm
theorem replaced_c {l bound : List ByteArray} {T : PV} {to : ByteArray → Option ByteArray} (hl : l.length ≤ 1048576) (hb : bound.length ≤ bigN) {h : Heap} (hT : MapAt h T to) :
  PCall Try.prog 126 [.imm 1 (strRows l), T, .imm 1 (strRows bound)] h fun r h' => r = .imm 1 (strRows (l.map (replS to bound))) ∧ h' = h := by
 refine PCall.frz Ty.hb_126 ?_
 have hb' : bound.length ≤ 9223372036854775807 := by unfold bigN at hb; omega
 refine pcall_body (ow := fun _ => false) (wf := fun _ => false) Ty.mixed Try.func126 rfl Ty.hb_126 (by rw [Try.ntmps126]; simp) ?_
 rw [Try.ntmps126, Try.results126]
 repeat' (first | refine a_seq fun K hK => ?_ | (refine a_regionS ?_; simp (maxSteps := 2000000) only [Ty.w, simprocAttr]) | (refine hK _ _ ?_; clear hK; try simp only [pst0, simprocAttr]))
 refine owp_useL (cloneS_c (l := l) (by omega) _) (by (try simp only [Ty.w, simprocAttr]); try rfl) ?_
 rintro r h1 ⟨hg1, tl1⟩
 simp (maxSteps := 2000000) only [Ty.w, simprocAttr, Ty.all]
 have hsl := tl1.sl
 have hlo := hsl.len
 have hlk := hsl.lk
 rw [strRows_len] at hlo
 have hpc : r.cells = [r] ∧ oneC r = true := by
  rcases tl1 with ⟨_, rfl | rfl⟩ | ⟨_, _, _, rfl, _⟩ <;> exact ⟨rfl, rfl⟩
 repeat' (first | refine a_seq fun K hK => ?_ | (refine a_block ?_) | (refine a_regionS ?_; simp (maxSteps := 2000000) only [Ty.w, simprocAttr, hlo, hlk]) | (refine hK _ _ ?_; clear hK; try simp only [pst0, simprocAttr]))
 refine a_loop (fun m S h' => S 1 = T ∧ S 2 = .imm 1 (strRows bound) ∧ S 7 = r ∧ S 14 = r ∧ S 15 = .sc (.int .i64 l.length) ∧ ∃ k : Nat, S 16 = .sc (.int .i64 k) ∧ k ≤ l.length ∧ m = l.length - k ∧ Grow h h' ∧ Tl h' h.next 1 r (strRows ((l.take k).map (replS to bound) ++ l.drop k))) l.length ?_ ?_
 ·simp only [Ty.w, simprocAttr]
  exact ⟨0, rfl, by omega, rfl, hg1, by simpa using tl1⟩
 ·clear hg1 tl1 hsl hlo hlk
  rintro m S h' ⟨g1, g2, g7, g14, g15, k, g16, hk, rfl, hg, tl⟩
  by_cases hlt : k < l.length
  ·have hd : decide ((k : Int) < (l.length : Int)) = true := by simp; omega
   have w7 : IntKind.i64.wrap ((k : Int) + 1) = k + 1 := by rw [wrap64 (by omega) (by omega)]
   obtain ⟨s, hx⟩ : ∃ s, l[k]? = some s := ⟨_, List.getElem?_eq_getElem hlt⟩
   obtain ⟨m1, m2⟩ := mix_get (g := replS to bound) hx
   have m3 := mix_id (g := replS to bound) hx
   have hlen : ((l.take k).map (replS to bound) ++ l.drop k).length = l.length := by simp; omega
   have hlen2 : ((l.take (k + 1)).map (replS to bound) ++ l.drop (k + 1)).length = l.length := by simp; omega
   obtain ⟨⟨mm, hv, hto⟩, _⟩ := hT.grow hg
   have hmf := mfind_E s mm
   rw [← hto] at hmf
   have hr := strRows_get m1
   have hc := fun h : Heap => contains_c (h := h) (l := bound) (s := s) hb'
   have hrep : replS to bound s = (match to s with | some t => if memB bound s = true then s else t | none => s) := rfl
   rw [memB_any] at hc
   obtain ⟨id, i1, i2, rfl, i4⟩ : ∃ id, h.next ≤ id ∧ id < h'.next ∧ r = .own id 0 l.length ∧ h'.obj id = some (.arr 1 (strRows ((l.take k).map (replS to bound) ++ l.drop k))) := by
    rcases tl with ⟨hn, _⟩ | ⟨id, i1, i2, i3, i4⟩
    ·have := congrArg List.length hn
     rw [strRows_len, hlen] at this
     simp only [List.length_nil] at this; omega
    ·rw [strRows_len, hlen] at i3; exact ⟨id, i1, i2, i3, i4⟩
   clear tl
   have keep : ∀ (hq : replS to bound s = s), Tl h' h.next 1 (.own id 0 l.length) (strRows ((l.take (k + 1)).map (replS to bound) ++ l.drop (k + 1))) := fun hq => by
    rw [m3 hq] at i4
    exact .inr ⟨id, i1, i2, by rw [strRows_len, hlen2], i4⟩
   have put : ∀ t, replS to bound s = t → Tl (h'.set id (.arr 1 ((strRows ((l.take k).map (replS to bound) ++ l.drop k)).set k [sPV t]))) h.next 1 (.own id 0 l.length) (strRows ((l.take (k + 1)).map (replS to bound) ++ l.drop (k + 1))) := fun t ht => by
    rw [strRows_set, ← ht, m2]
    exact .inr ⟨id, i1, i2, by rw [strRows_len, hlen2], by simp [Heap.set]⟩
   cases q : to s with
   | none =>
    rw [q] at hmf hrep
    simp only [Option.map_none] at hmf
    have fin2 := keep hrep
    generalize strRows ((l.take k).map (replS to bound) ++ l.drop k) = R at i4 hr
    repeat' (first | refine a_seq fun K hK => ?_ | (refine a_block ?_) | (refine a_regionS ?_; simp (maxSteps := 2000000) only [Ty.w, simprocAttr, g1, g2, g7, g14, g15, g16, hd, i4, hr, hlt, hv, hmf, w7]) | (refine a_skip ?_; try simp only [pst0, simprocAttr]) | (refine a_cond _ (by (try simp (maxSteps := 2000000) only [Ty.w, simprocAttr, g1, g2, g7, g14, g15, g16, hd, i4, hr, hlt, hv, hmf, w7]); rfl) (fun hb => ?_) (fun hb => ?_) <;> (try simp only [hb0, decide_eq_true_eq, decide_eq_false_iff_not, simprocAttr] at hb) <;> (try (exfalso; omega))) | (refine hK _ _ ?_; clear hK; try simp only [pst0, simprocAttr]))
    exact ⟨l.length - (k + 1), by omega, k + 1, by simp, by omega, rfl, hg, fin2⟩
   | some t =>
    rw [q] at hmf hrep
    simp only [Option.map_some] at hmf
    cases q2 : memB bound s with
    | true =>
     rw [q2] at hrep hc
     simp only [if_true] at hrep
     have fin2 := keep hrep
     generalize strRows ((l.take k).map (replS to bound) ++ l.drop k) = R at i4 hr
     repeat' (first | refine a_seq fun K hK => ?_ | (refine a_regionS ?_; simp (maxSteps := 2000000) only [Ty.w, simprocAttr, g1, g2, g7, g14, g15, g16, hd, i4, hr, hlt, hv, hmf]) | (refine a_skip ?_; try simp only [pst0, simprocAttr]) | (refine a_cond _ (by (try simp (maxSteps := 2000000) only [Ty.w, simprocAttr, g1, g2, g7, g14, g15, g16, hd, i4, hr, hlt, hv, hmf]); rfl) (fun hb => ?_) (fun hb => ?_) <;> (try simp only [hb0, decide_eq_true_eq, decide_eq_false_iff_not, simprocAttr] at hb) <;> (try (exfalso; omega))) | (refine hK _ _ ?_; clear hK; try simp only [pst0, simprocAttr]))
     refine owp_useQ (hc _) (by (try simp only [Ty.w, simprocAttr, g1, g2, g7, g14, g15, g16, Bool.not_true]); try rfl) ?_; simp (maxSteps := 2000000) only [Ty.w, simprocAttr, g1, g2, g7, g14, g15, g16, Bool.not_true]
     repeat' (first | (refine a_block ?_) | (refine a_regionS ?_; simp (maxSteps := 2000000) only [Ty.w, simprocAttr, g1, g2, g7, g14, g15, g16, w7, Bool.not_true]) | (refine a_skip ?_; try simp only [pst0, simprocAttr]) | (refine hK _ _ ?_; clear hK; try simp only [pst0, simprocAttr]))
     exact ⟨l.length - (k + 1), by omega, k + 1, by simp, by omega, rfl, hg, fin2⟩
    | false =>
     rw [q2] at hrep hc
     simp only [Bool.false_eq_true, if_false] at hrep
     have fin2 := put t hrep
     generalize strRows ((l.take k).map (replS to bound) ++ l.drop k) = R at i4 hr fin2
     repeat' (first | refine a_seq fun K hK => ?_ | (refine a_regionS ?_; simp (maxSteps := 2000000) only [Ty.w, simprocAttr, g1, g2, g7, g14, g15, g16, hd, i4, hr, hlt, hv, hmf]) | (refine a_skip ?_; try simp only [pst0, simprocAttr]) | (refine a_cond _ (by (try simp (maxSteps := 2000000) only [Ty.w, simprocAttr, g1, g2, g7, g14, g15, g16, hd, i4, hr, hlt, hv, hmf]); rfl) (fun hb => ?_) (fun hb => ?_) <;> (try simp only [hb0, decide_eq_true_eq, decide_eq_false_iff_not, simprocAttr] at hb) <;> (try (exfalso; omega))) | (refine hK _ _ ?_; clear hK; try simp only [pst0, simprocAttr]))
     refine owp_useQ (hc _) (by (try simp only [Ty.w, simprocAttr, g1, g2, g7, g14, g15, g16, Bool.not_false]); try rfl) ?_; simp (maxSteps := 2000000) only [Ty.w, simprocAttr, g1, g2, g7, g14, g15, g16, Bool.not_false]
     repeat' (first | (refine a_block ?_) | ((first | refine a_regionS ?_ | refine a_region (fun K hK => ?_)); simp (maxSteps := 2000000) only [Ty.w, simprocAttr, g1, g2, g7, g14, g15, g16, w7, i4, hr, hlt, putC, Bool.not_false]) | (refine hK _ _ ?_; clear hK; try simp only [pst0, simprocAttr]))
     exact ⟨l.length - (k + 1), by omega, k + 1, by simp, by omega, rfl, hg.set i1 _, fin2⟩
  ·have hd : decide ((k : Int) < (l.length : Int)) = false := by simp; omega
   have hke : k = l.length := by omega
   subst hke
   rw [List.take_length, List.drop_length, List.append_nil] at tl
   repeat' (first | refine a_seq fun K hK => ?_ | ((first | refine a_regionS ?_ | refine a_ret ?_); simp (maxSteps := 2000000) only [Ty.w, simprocAttr, g1, g2, g7, g14, g15, g16, hd]) | (refine a_exit ?_; try simp only [pst0, simprocAttr]) | (refine a_cond _ (by (try simp (maxSteps := 2000000) only [Ty.w, simprocAttr, g1, g2, g7, g14, g15, g16, hd]); rfl) (fun hb => ?_) (fun hb => ?_) <;> (try simp only [hb0, decide_eq_true_eq, decide_eq_false_iff_not, simprocAttr] at hb) <;> (try (exfalso; omega))) | ((first | refine hK _ _ ?_ | (clear hK; refine hK _ _ ?_)); clear hK; try simp only [pst0, simprocAttr]))
   exact ⟨tl_frzS tl, hg⟩
theorem inner_g {a b : ByteArray} {c e f : PV} {params : List Pm} {bound : List ByteArray} (hc : c.cells = [c] ∧ oneC c = true) (he : e.cells = [e] ∧ oneC e = true) (hf : f.cells = [f] ∧ oneC f = true) (hb : bound.length + params.length ≤ 1099511627776) (h : Heap) :
  PCall Try.prog 129 [.agg [sPV a, sPV b, c, .imm 2 (pmRows params), e, f], .imm 1 (strRows bound)] h fun r h' => r = .imm 1 (strRows (bound ++ params.map Pm.name)) ∧ h' = h := by
 refine PCall.frz Ty.hb_129 ?_
 have hlP := pmRows_len params
 refine pcall_body (ow := fun _ => false) (wf := fun _ => false) Ty.mixed Try.func129 rfl Ty.hb_129 (by rw [Try.ntmps129]; simp) ?_
 rw [Try.ntmps129, Try.results129]
 obtain ⟨hc1, hc2⟩ := hc
 obtain ⟨he1, he2⟩ := he
 obtain ⟨hf1, hf2⟩ := hf
 repeat' (first | refine a_seq fun K hK => ?_ | (refine a_regionS ?_; simp (maxSteps := 2000000) only [Ty.w, simprocAttr, hc1, hc2, he1, he2, hf1, hf2]) | (refine hK _ _ ?_; clear hK; try simp only [pst0, simprocAttr]))
 refine owp_useL (cloneS_c (l := bound) (by omega) _) (by (try simp only [Ty.w, simprocAttr]); try rfl) ?_
 rintro r h1 ⟨hg1, tl1⟩
 simp (maxSteps := 2000000) only [Ty.w, simprocAttr, Ty.all]
 repeat' (first | refine a_seq fun K hK => ?_ | (refine a_block ?_) | (refine a_regionS ?_; simp (maxSteps := 2000000) only [Ty.w, simprocAttr, hlP]) | (refine hK _ _ ?_; clear hK; try simp only [pst0, simprocAttr]))
 refine a_loop (fun m S h' => S 11 = .imm 2 (pmRows params) ∧ S 12 = .sc (.int .i64 params.length) ∧ ∃ (k : Nat) (o : PV), S 13 = .sc (.int .i64 k) ∧ S 5 = o ∧ k ≤ params.length ∧ m = params.length - k ∧ Grow h h' ∧ Tl h' h.next 1 o (strRows (bound ++ (params.take k).map Pm.name))) params.length ?_ ?_
 ·simp only [Ty.w, simprocAttr]
  exact ⟨0, r, rfl, rfl, by omega, rfl, hg1, by simpa using tl1⟩
 ·clear hg1 tl1
  rintro m S h' ⟨g11, g12, k, o, g13, g5, hk, rfl, hg, tl⟩
  by_cases hlt : k < params.length
  ·have hd : decide ((k : Int) < (params.length : Int)) = true := by simp; omega
   have w7 : IntKind.i64.wrap ((k : Int) + 1) = k + 1 := by rw [wrap64 (by omega) (by omega)]
   obtain ⟨p, hx⟩ : ∃ p, params[k]? = some p := ⟨_, List.getElem?_eq_getElem hlt⟩
   have hr := pmRows_get hx
   have hR : strRows (bound ++ (params.take (k + 1)).map Pm.name) = strRows (bound ++ (params.take k).map Pm.name) ++ [[sPV p.name]] := by
    rw [List.take_add_one, hx]; simp [strRows]
   have hlen : (strRows (bound ++ (params.take k).map Pm.name)).length = bound.length + k := by rw [strRows_len]; simp; omega
   have tl2 := tl.up (h' := (h'.new (.arr 2 [[.sc (.string ⟨#[]⟩), .sc (.string ⟨#[]⟩)]])).set h'.next (.arr 2 [[sPV p.name, sPV p.type]])) (by simp [Heap.new, Heap.set]) (fun j _ hj => by simp only [Heap.new, Heap.set]; rw [if_neg (by omega), if_neg (by omega)])
   have hg2 : Grow h ((h'.new (.arr 2 [[.sc (.string ⟨#[]⟩), .sc (.string ⟨#[]⟩)]])).set h'.next (.arr 2 [[sPV p.name, sPV p.type]])) := (hg.new _).set hg.le _
   generalize strRows (bound ++ (params.take k).map Pm.name) = R at tl tl2 hR hlen
   obtain ⟨H, t1, t2, t3, t4, t5⟩ := tl2.tail
   have hbb : (bound.length + k + 1) * 16 ≤ 140737488355328 := by omega
   repeat' (first | refine a_seq fun K hK => ?_ | ((first | refine a_regionS ?_ | refine a_region (fun K hK => ?_)); simp (maxSteps := 2000000) only [Ty.w, simprocAttr, g11, g12, g13, g5, hd, hr, hlP]) | (refine a_skip ?_; try simp only [pst0, simprocAttr]) | (refine a_cond _ (by (try simp (maxSteps := 2000000) only [Ty.w, simprocAttr, g11, g12, g13, g5, hd, hr, hlP]); rfl) (fun hb => ?_) (fun hb => ?_) <;> (try simp only [hb0, decide_eq_true_eq, decide_eq_false_iff_not, simprocAttr] at hb) <;> (try (exfalso; omega))) | (refine hK _ _ ?_; clear hK; try simp only [pst0, simprocAttr]))
   repeat' (first | (refine a_regionS ?_; simp (maxSteps := 2000000) only [Ty.w, simprocAttr, g11, g12, g13, g5, w7, t1, t2, hlen, hbb, nsucc]) | (refine hK _ _ ?_; clear hK; try simp only [pst0, simprocAttr]) | (rw [if_pos]; rotate_left 1; omega; simp (maxSteps := 2000000) only [Ty.w, simprocAttr, g11, g12, g13, g5, w7, t1, t2, hlen, hbb, nsucc]))
   have hkp := t5 h ⟨hg2.le, hg2.old⟩ (Nat.le_refl _)
   have hgH : Grow h H := ⟨hkp.1, hkp.2⟩
   have t3' : H.next = h'.next + 1 := by rw [t3]; simp [Heap.new, Heap.set]
   rw [← hR]
   exact ⟨params.length - (k + 1), by omega, k + 1, .own H.next 0 (bound.length + k + 1), by simp, by first | rfl | rw [t3'], by omega, rfl, hgH.new _, Tl.grow hkp.1 (by rw [strRows_len]; simp; omega)⟩
  ·have hd : decide ((k : Int) < (params.length : Int)) = false := by simp; omega
   have hke : k = params.length := by omega
   subst hke
   rw [List.take_length] at tl
   repeat' (first | refine a_seq fun K hK => ?_ | ((first | refine a_regionS ?_ | refine a_ret ?_); simp (maxSteps := 2000000) only [Ty.w, simprocAttr, g11, g12, g13, g5, hd]) | (refine a_exit ?_; try simp only [pst0, simprocAttr]) | (refine a_cond _ (by (try simp (maxSteps := 2000000) only [Ty.w, simprocAttr, g11, g12, g13, g5, hd]); rfl) (fun hb => ?_) (fun hb => ?_) <;> (try simp only [hb0, decide_eq_true_eq, decide_eq_false_iff_not, simprocAttr] at hb) <;> (try (exfalso; omega))) | ((first | refine hK _ _ ?_ | (clear hK; refine hK _ _ ?_)); clear hK; try simp only [pst0, simprocAttr]))
   exact ⟨tl_frzS tl, hg⟩
theorem inner_c {op name : ByteArray} {args : List ByteArray} {params : List Pm} {exprs : List Ex} {kids : List Fm} {bound : List ByteArray} (hb : bound.length + params.length ≤ 1099511627776) (h : Heap) :
  PCall Try.prog 129 [.agg (Fm.mk op name args params exprs kids).cells, .imm 1 (strRows bound)] h fun r h' => r = .imm 1 (strRows (bound ++ params.map Pm.name)) ∧ h' = h := inner_g ⟨rfl, rfl⟩ ⟨rfl, rfl⟩ ⟨rfl, rfl⟩ hb h
end Go.Proofs.Ytjlkapgpjamnkaa
namespace Go.Proofs.Ytjlkapgpjamnkaa
open Go.AM
set_option maxHeartbeats 4000000
set_option maxRecDepth 20000
def exprs2 : List Sx → List Ex × Int
 | [a, b] => (match exprP a with
  | (ea, ca) => bif ca == 0 then (match exprP b with
   | (eb, cb) => bif cb == 0 then ([ea, eb], 0) else ([], cb)) else ([], ca))
 | _ => ([], 2)
theorem frz_agg {n : Nat} {H : Heap} {a b : List PV} (h : FrzL n H a b) : FrzTo n H (.agg a) (.agg b) := by
 unfold FrzTo
 exact ⟨_, rfl, h⟩
theorem frz_nilslice {n z : Nat} {H : Heap} : FrzTo n H (.imm z []) (.sc (.slice none 0 0)) := by
 unfold FrzTo; exact .inr (.inl ⟨rfl, .inr rfl⟩)
end Go.Proofs.Ytjlkapgpjamnkaa
namespace Go.Proofs.Ytjlkapgpjamnkaa
open Go.AM
set_option maxHeartbeats 4000000
set_option maxRecDepth 20000
theorem mixG_get {α : Type} {g : α → α} {l : List α} {k : Nat} {s : α} (h : l[k]? = some s) : ((l.take k).map g ++ l.drop k)[k]? = some s ∧ ((l.take k).map g ++ l.drop k).set k (g s) = (l.take (k + 1)).map g ++ l.drop (k + 1) := by
 have hk : k < l.length := (List.getElem?_eq_some_iff.1 h).1
 have h1 : ((l.take k).map g).length = k := by simp; omega
 have h2 : l.drop k = s :: l.drop (k + 1) := by
  obtain ⟨_, h4⟩ := List.getElem?_eq_some_iff.1 h
  rw [List.drop_eq_getElem_cons hk, h4]
 constructor
 ·rw [List.getElem?_append_right (by omega), h1, h2]; simp
 ·rw [List.set_append_right _ _ (by omega), h1, h2, List.take_add_one, h]; simp
theorem exRows_set (l : List Ex) (k : Nat) (e : Ex) : (Ex.rows l).set k e.cells = Ex.rows (l.set k e) := by simp [Ex.rows_map, List.map_set]
theorem shapedE_len {op name : ByteArray} {v : Int} {args : List ByteArray} {kids : List Ex} (h : shapedE (.mk op name v args kids) = true) : kids.length ≤ 2 := by
 unfold shapedE at h
 split at h
 ·simp only [Bool.and_eq_true, List.isEmpty_iff] at h
  rw [h.1.2]; simp
 ·split at h
  ·simp only [Bool.and_eq_true, List.isEmpty_iff] at h
   rw [h.1.1.2]; simp
  ·split at h
   ·simp only [Bool.and_eq_true] at h
    obtain ⟨_, h⟩ := h
    split at h
    ·simp
    ·simp at h
   ·simp at h
theorem bindE_c : ∀ e : Ex, e.small → shapedE e = true → ∀ {bound : List ByteArray} {T : PV} {to : ByteArray → Option ByteArray}, bound.length ≤ bigN → ∀ {h : Heap}, MapAt h T to →
  PCall Try.prog 83 [.agg e.cells, T, .imm 1 (strRows bound)] h fun r h' => r = .agg (bindEx to bound e).cells ∧ h' = h := by
 refine Ex.ind ?_
 intro op name v args kids ih hsm hsh bound T to hb h hT
 simp only [Ex.small] at hsm
 obtain ⟨hal, hks⟩ := hsm
 rw [Ex.smalls_iff] at hks
 have hkl := shapedE_len hsh
 have hke := shapedE_kid hsh
 have hlK := Ex.rows_len kids
 refine PCall.frz Ty.hb_83 ?_
 have hrp := fun {H : Heap} (hg : Grow h H) => replaced_c (l := args) (bound := bound) hal hb (hT.grow hg)
 have hB : bindEx to bound (.mk op name v args kids) = .mk op name v (args.map (replS to bound)) (kids.map (bindEx to bound)) := by simp only [bindEx, bindExs_map]
 rw [hB]
 clear hB
 generalize args.map (replS to bound) = args2 at hrp
 simp only [Ex.cells]
 refine pcall_body (ow := fun t => t == 3) (wf := fun _ => false) Ty.mixed Try.func83 rfl Ty.hb_83 (by rw [Try.ntmps83]; simp) ?_
 rw [Try.ntmps83, Try.results83]
 repeat' (first | refine a_seq fun K hK => ?_ | (refine a_regionS ?_; simp (maxSteps := 2000000) only [Ty.w, simprocAttr, nsucc]) | (refine hK _ _ ?_; clear hK; try simp only [pst0, simprocAttr]))
 refine owp_useQ (hrp (((Grow.refl h).new _).new _)) (by (try simp only [Ty.w, simprocAttr, nsucc]); try rfl) ?_; simp (maxSteps := 2000000) only [Ty.w, simprocAttr, nsucc]
 repeat' (first | refine a_seq fun K hK => ?_ | (refine a_regionS ?_; simp (maxSteps := 2000000) only [Ty.w, simprocAttr, nsucc]) | (refine hK _ _ ?_; clear hK; try simp only [pst0, simprocAttr]))
 refine owp_useL (cloneE_c (l := kids) (by omega) _) (by (try simp only [Ty.w, simprocAttr, nsucc]); try rfl) ?_
 rintro r h1 ⟨hg1, tl1⟩
 have k0 : h1.obj h.next = some (.arr 5 [[sPV op, sPV name, .sc (.int .i64 v), .imm 1 (strRows args2), .imm 5 (Ex.rows kids)]]) := by
  rw [hg1.old _ (by simp [Heap.new, Heap.set]; omega)]; simp [Heap.new, Heap.set]
 have k1 : h1.obj (h.next + 1) = some (.arr 5 [[.sc (.string ⟨#[]⟩), .sc (.string ⟨#[]⟩), .sc (.int .i64 0), .sc (.slice none 0 0), .sc (.slice none 0 0)]]) := by
  rw [hg1.old _ (by simp [Heap.new, Heap.set])]; simp [Heap.new, Heap.set]
 have hn1 : h.next + 2 ≤ h1.next := by have := hg1.le; simp [Heap.new, Heap.set] at this; omega
 have hgA : Grow h h1 := ((((Grow.refl h).new _).new _).set (Nat.le_refl _) _).trans hg1
 have tlA : Tl h1 (h.next + 2) 5 r (Ex.rows kids) := Tl.low tl1 (by simp [Heap.new, Heap.set])
 clear hg1 tl1 hrp
 have hpc : r.cells = [r] ∧ oneC r = true := by
  rcases tlA with ⟨_, rfl | rfl⟩ | ⟨_, _, _, rfl, _⟩ <;> exact ⟨rfl, rfl⟩
 have hsl := tlA.sl
 have hlo : ∀ H, lenP H r = some kids.length := fun H => by rw [lenP_sl hsl H, hlK]
 have hlk := hsl.lk
 obtain ⟨hp1, hp2⟩ := hpc
 simp (maxSteps := 2000000) only [Ty.w, simprocAttr, Ty.all, k0, nsucc, hp1, hp2, putC, hlo, hlk]
 repeat' (first | refine a_seq fun K hK => ?_ | (refine a_block ?_) | (refine a_regionS ?_; simp (maxSteps := 2000000) only [Ty.w, simprocAttr, k0, hp1, hp2, hlo, hlk, putC]) | (refine hK _ _ ?_; clear hK; try simp only [pst0, simprocAttr]))
 refine a_loop (fun m S h' => S 1 = T ∧ S 2 = .imm 1 (strRows bound) ∧ S 3 = .ptr h.next 0 0 ∧ S 6 = .ptr (h.next + 1) 0 0 ∧ S 20 = r ∧ S 21 = .sc (.int .i64 kids.length) ∧ ∃ k : Nat, S 22 = .sc (.int .i64 k) ∧ k ≤ kids.length ∧ m = kids.length - k ∧ Grow h h' ∧ h.next + 2 ≤ h'.next ∧
  h'.obj h.next = some (.arr 5 [[sPV op, sPV name, .sc (.int .i64 v), .imm 1 (strRows args2), r]]) ∧ h'.obj (h.next + 1) = some (.arr 5 [[.sc (.string ⟨#[]⟩), .sc (.string ⟨#[]⟩), .sc (.int .i64 0), .sc (.slice none 0 0), .sc (.slice none 0 0)]]) ∧
  Tl h' (h.next + 2) 5 r (Ex.rows ((kids.take k).map (bindEx to bound) ++ kids.drop k))) kids.length ?_ ?_
 ·simp only [Ty.w, simprocAttr]
  refine ⟨0, rfl, by omega, rfl, hgA.set (Nat.le_refl _) _, hn1, ?_, ?_⟩
  ·first | exact k1 | (rw [if_neg (by omega)]; exact k1)
  ·simpa using tlA.up (h' := h1.set h.next _) (Nat.le_refl _) fun j hj _ => by simp only [Heap.set]; rw [if_neg (by omega)]
 ·clear hgA hn1 k0 k1 tlA hsl hlo hlk
  rintro m S h' ⟨g1, g2, g3, g6, g20, g21, k, g22, hk, rfl, hg, hn, o1, o2, tl⟩
  by_cases hlt : k < kids.length
  ·have hd : decide ((k : Int) < (kids.length : Int)) = true := by simp; omega
   have w7 : IntKind.i64.wrap ((k : Int) + 1) = k + 1 := by rw [wrap64 (by omega) (by omega)]
   obtain ⟨x, hx⟩ : ∃ x, kids[k]? = some x := ⟨_, List.getElem?_eq_getElem hlt⟩
   have hmem := List.mem_of_getElem? hx
   have hc := fun {H : Heap} (hgH : Grow h H) => ih x hmem (hks x hmem) (hke x hmem) hb (hT.grow hgH)
   obtain ⟨m1, m2⟩ := mixG_get (g := bindEx to bound) hx
   have hlen : ((kids.take k).map (bindEx to bound) ++ kids.drop k).length = kids.length := by simp; omega
   have hlen2 : ((kids.take (k + 1)).map (bindEx to bound) ++ kids.drop (k + 1)).length = kids.length := by simp; omega
   have hr := Ex.rows_get m1
   obtain ⟨id, i1, i2, rfl, i4⟩ : ∃ id, h.next + 2 ≤ id ∧ id < h'.next ∧ r = .own id 0 kids.length ∧ h'.obj id = some (.arr 5 (Ex.rows ((kids.take k).map (bindEx to bound) ++ kids.drop k))) := by
    rcases tl with ⟨hn0, _⟩ | ⟨id, i1, i2, i3, i4⟩
    ·have := congrArg List.length hn0
     rw [Ex.rows_len, hlen] at this
     simp only [List.length_nil] at this; omega
    ·rw [Ex.rows_len, hlen] at i3; exact ⟨id, i1, i2, i3, i4⟩
   clear tl hp1 hp2
   have hset : (Ex.rows ((kids.take k).map (bindEx to bound) ++ kids.drop k)).set k (bindEx to bound x).cells = Ex.rows ((kids.take (k + 1)).map (bindEx to bound) ++ kids.drop (k + 1)) := by rw [exRows_set, m2]
   have hrl : (Ex.rows ((kids.take (k + 1)).map (bindEx to bound) ++ kids.drop (k + 1))).length = kids.length := by rw [Ex.rows_len, hlen2]
   generalize Ex.rows ((kids.take k).map (bindEx to bound) ++ kids.drop k) = R at i4 hr hset
   generalize bindEx to bound x = y at hc hset
   obtain ⟨xo, xn, xv, xa, xk⟩ := x
   obtain ⟨yo, yn, yv, ya, yk⟩ := y
   simp only [Ex.cells] at hr hc hset
   have e1 : (h.next = h'.next) = False := by simp; omega
   have e2 : (id = h'.next) = False := by simp; omega
   have hgX : ∀ o o2, Grow h ((h'.new o).set h'.next o2) := fun o o2 => (hg.new _).set hg.le _
   have W := And.intro g1 (And.intro g2 (And.intro g3 (And.intro g6 (And.intro g20 (And.intro g21 (And.intro g22 (And.intro i4 (And.intro hr (And.intro hlt (And.intro o1 (And.intro e1 e2)))))))))))
   repeat' (first | refine a_seq fun K hK => ?_ | ((first | refine a_regionS ?_ | refine a_draw (by decide +kernel) (fun K hK => ?_)); simp (maxSteps := 2000000) only [Ty.w, simprocAttr, W, hd]) | (refine a_skip ?_; try simp only [pst0, simprocAttr]) | (refine a_cond _ (by (try simp (maxSteps := 2000000) only [Ty.w, simprocAttr, W, hd]); rfl) (fun hb => ?_) (fun hb => ?_) <;> (try simp only [hb0, decide_eq_true_eq, decide_eq_false_iff_not, simprocAttr] at hb) <;> (try (exfalso; omega))) | (refine hK _ _ ?_; clear hK; try simp only [pst0, simprocAttr]))
   (first | refine a_dcall0 (hc (hgX _ _)) (by (try simp only [Ty.w, simprocAttr, W]); try rfl) ?_ | refine a_dcallA (hc (hgX _ _)) (by (try simp only [Ty.w, simprocAttr, W]); try rfl) (by simp only [Ty.w, simprocAttr, W]; try trivial) ?_); simp (maxSteps := 2000000) only [Ty.w, simprocAttr, W, Option.getD_some]
   repeat' (first | (refine a_regionS ?_; simp (maxSteps := 2000000) only [Ty.w, simprocAttr, W, w7, putC, hset]) | (refine hK _ _ ?_; clear hK; try simp only [pst0, simprocAttr]) | (with_reducible refine a_past2 (by simp only [List.forall_mem_cons, Ty.w, simprocAttr, g1, g2, g3, g6, g20, g21, g22, i4, hr, hlt, o1, e1, e2, w7, putC, hset]; (repeat' apply And.intro) <;> first | trivial | exact .inl (by decide +kernel)) ?_; try simp (maxSteps := 2000000) only [Ty.w, simprocAttr, W, w7, putC, hset]))
   refine ⟨kids.length - (k + 1), by omega, k + 1, by simp, by omega, rfl, (hgX _ _).set (by omega) _, by first | omega | (simp [Heap.new, Heap.set]; omega), ?_, ?_, ?_⟩
   ·rw [if_neg (by omega)]
   ·rw [if_neg (by omega), if_neg (by omega), if_neg (by omega)]; exact o2
   ·exact .inr ⟨id, i1, by first | omega | (simp [Heap.new, Heap.set]; omega), by rw [hrl], by simp [Heap.set]⟩
  ·have hd : decide ((k : Int) < (kids.length : Int)) = false := by simp; omega
   have hke2 : k = kids.length := by omega
   subst hke2
   rw [List.take_length, List.drop_length, List.append_nil] at tl
   repeat' (first | refine a_seq fun K hK => ?_ | ((first | refine a_regionS ?_ | refine a_ret ?_); simp (maxSteps := 2000000) only [Ty.w, simprocAttr, g1, g2, g3, g6, g20, g21, g22, hd, o1, o2, hp1, hp2]) | (refine a_exit ?_; try simp only [pst0, simprocAttr]) | (refine a_cond _ (by (try simp (maxSteps := 2000000) only [Ty.w, simprocAttr, g1, g2, g3, g6, g20, g21, g22, hd, o1, o2, hp1, hp2]); rfl) (fun hb => ?_) (fun hb => ?_) <;> (try simp only [hb0, decide_eq_true_eq, decide_eq_false_iff_not, simprocAttr] at hb) <;> (try (exfalso; omega))) | ((first | refine hK _ _ ?_ | (clear hK; refine hK _ _ ?_)); clear hK; try simp only [pst0, simprocAttr]))
   refine ⟨frz_agg ?_, hg.set (by omega) _⟩
   have tl3 : Tl (h'.set (h.next + 1) (.arr 5 [[sPV op, sPV name, .sc (.int .i64 v), .imm 1 (strRows args2), r]])) (h.next + 2) 5 r (Ex.rows (kids.map (bindEx to bound))) := tl.up (Nat.le_refl _) fun j hj _ => by simp only [Heap.set]; rw [if_neg (by omega)]
   have h1 := tl_frzE (show h.next ≤ h.next + 2 by omega) tl3
   unfold FrzL; refine ⟨by simp only [FrzTo], ?_⟩
   unfold FrzL; refine ⟨by simp only [FrzTo], ?_⟩
   unfold FrzL; refine ⟨by simp only [FrzTo], ?_⟩
   unfold FrzL; refine ⟨by simp only [FrzTo]; exact .inl ⟨trivial, strs_in _ _⟩, ?_⟩
   unfold FrzL; refine ⟨h1, ?_⟩
   simp only [FrzL]
end Go.Proofs.Ytjlkapgpjamnkaa
namespace Go.AM
open Go.ChangeShapes Go.WideShapes
def partsT (P : Program) (t : TypeId) : List (Nat × TypeId) := match P.underlying t with
  | some (.struct fs) => fs.toList.map fun f => (f.offset, f.type)
  | some (.array n e) => (List.range n).map fun i => (i * P.cellsOf e, e)
  | _ => []
def inRow (P : Program) (e : Nat) : Nat → List (Nat × TypeId) → Bool
  | o, [] => o == e
  | o, p :: l => p.1 == o && inRow P e (o + P.cellsOf p.2) l
def covB (P : Program) : Nat → TypeId → Bool
  | 0, _ => false
  | f + 1, t => match P.underlying t with
    | some .bool => true
    | some (.int _) => true
    | some .string => true
    | some (.slice e) => decide (0 < P.cellsOf e) && covB P f e
    | some (.struct _) => inRow P (P.cellsOf t) 0 (partsT P t) && (partsT P t).all fun p => covB P f p.2
    | some (.array _ _) => inRow P (P.cellsOf t) 0 (partsT P t) && (partsT P t).all fun p => covB P f p.2
    | _ => false
def Arg (P : Program) : Nat → TypeId → List PV → Prop
  | 0, _, _ => False
  | f + 1, t, ps => match P.underlying t with
    | some .bool => ∃ b, ps = [.sc (.bool b)]
    | some (.int k) => ∃ n, (Lit.int k n).wf = true ∧ ps = [.sc (.int k n)]
    | some .string => ∃ s : ByteArray, s.size ≤ reachBytes ∧ ps = [.sc (.string s)]
    | some (.slice e) => ∃ rows, ps = [.imm (P.cellsOf e) rows] ∧ rows.length * P.bytesOf e ≤ reachBytes ∧ rows.length ≤ maxLen ∧ ∀ r ∈ rows, r.length = P.cellsOf e ∧ Arg P f e r
    | some (.struct _) => ps.length = P.cellsOf t ∧ ∀ p ∈ partsT P t, Arg P f p.2 ((ps.drop p.1).take (P.cellsOf p.2))
    | some (.array _ _) => ps.length = P.cellsOf t ∧ ∀ p ∈ partsT P t, Arg P f p.2 ((ps.drop p.1).take (P.cellsOf p.2))
    | _ => False
section
variable {H : Type} {enc : TypeId × Value → H} {P : Program} {w : World} {sp : Nat → Bool} {held : Bool}
def RA (w : World) (ps : List PV) (cs : List Value) : Prop := (∀ v ∈ cs, v.oneCell' = true) ∧ ∀ β n, RepL β n (fun b => b < w.heap.size) w ps cs
theorem RA.len {ps : List PV} {cs : List Value} (h : RA w ps cs) : ps.length = cs.length := (h.2 ⟨fun _ => ⟨none, 0, 0, 0⟩, fun _ => False⟩ 0).len
theorem RA.append {ps ps' : List PV} {cs cs' : List Value} (h : RA w ps cs) (k : RA w ps' cs') : RA w (ps ++ ps') (cs ++ cs') :=
  ⟨fun v hv => by exact (List.mem_append.1 hv).elim (h.1 v) (k.1 v), fun β n => (h.2 β n).append (k.2 β n)⟩
theorem inRow_le {e : Nat} : (l : List (Nat × TypeId)) → (o : Nat) → inRow P e o l = true → o ≤ e ∧ ∀ p ∈ l, o ≤ p.1 ∧ p.1 + P.cellsOf p.2 ≤ e
  | [], o, h => by simp [inRow] at h; simp [h]
  | p :: l, o, h => by
    simp only [inRow, Bool.and_eq_true, beq_iff_eq] at h
    obtain ⟨h1, h2⟩ := inRow_le l _ h.2
    refine ⟨by omega, fun q hq => ?_⟩
    rcases List.mem_cons.1 hq with rfl | hq
    · omega
    · have := h2 q hq; omega
theorem parts_rep {c : Nat} {cs : List Value} : (l : List (Nat × TypeId)) → (o : Nat) → inRow P cs.length o l = true →
    (∀ p ∈ l, ∃ ps, Arg P c p.2 ps ∧ RA w ps ((cs.drop p.1).take (P.cellsOf p.2))) →
    ∃ ps, RA w ps (cs.drop o) ∧ ∀ p ∈ l, Arg P c p.2 ((ps.drop (p.1 - o)).take (P.cellsOf p.2))
  | [], o, h, _ => by
    simp [inRow] at h
    refine ⟨[], ⟨?_, fun β n => ?_⟩, by simp⟩
    · rw [List.drop_of_length_le (by omega)]; simp
    · rw [List.drop_of_length_le (by omega)]; simp [RepL]
  | p :: l, o, h, hp => by
    have hle := (inRow_le (p :: l) o h).2 p (by simp)
    simp only [inRow, Bool.and_eq_true, beq_iff_eq] at h
    obtain ⟨ps, h1, h2⟩ := parts_rep l _ h.2 (fun q hq => hp q (by simp [hq]))
    obtain ⟨ps0, h3, h4⟩ := hp p (by simp)
    have hl2 := (inRow_le l _ h.2).2
    have e0 : p.1 = o := h.1
    have l0 : ps0.length = P.cellsOf p.2 := by rw [h4.len, List.length_take, List.length_drop]; omega
    refine ⟨ps0 ++ ps, ?_, fun q hq => ?_⟩
    · have : cs.drop o = (cs.drop p.1).take (P.cellsOf p.2) ++ cs.drop (o + P.cellsOf p.2) := by
        rw [e0, ← List.drop_drop, List.take_append_drop]
      rw [this]
      exact h4.append h1
    · rcases List.mem_cons.1 hq with rfl | hq
      · rw [e0, Nat.sub_self, List.drop_zero, List.take_append_of_le_length (by omega), List.take_of_length_le (by omega)]
        exact h3
      · have h5 := hl2 q hq
        have : q.1 - o = ps0.length + (q.1 - (o + P.cellsOf p.2)) := by omega
        rw [this, ← List.drop_drop, List.drop_left]
        exact h2 q hq
theorem exists_list {α : Type} {R : Nat → α → Prop} : (n : Nat) → (∀ i, i < n → ∃ x, R i x) → ∃ l : List α, l.length = n ∧ ∀ i x, l[i]? = some x → R i x
  | 0, _ => ⟨[], rfl, by simp⟩
  | n + 1, h => by
    obtain ⟨l, h1, h2⟩ := exists_list n (fun i hi => h i (by omega))
    obtain ⟨x, hx⟩ := h n (by omega)
    refine ⟨l ++ [x], by simp [h1], fun i y hy => ?_⟩
    rw [List.getElem?_append] at hy
    split at hy
    · exact h2 i y hy
    · rename_i hi
      have : i = n := by
        have := (List.getElem?_eq_some_iff.1 hy).1
        simp at this; omega
      subst this
      rw [h1] at hy
      simp at hy
      subst hy; exact hx
theorem weightsAll_mem {e : TypeId} {n : Nat} : {ds : List (DataW H)} → {i : Nat} → {d : DataW H} → ds[i]? = some d → n ∈ d.weights P e → n ∈ DataW.weightsAll P e ds
  | [], _, _, h, _ => by simp at h
  | d0 :: ds, 0, d, h, hn => by
    simp at h; subst h
    simp only [DataW.weightsAll, List.mem_append]; exact .inl hn
  | d0 :: ds, i + 1, d, h, hn => by
    simp at h
    simp only [DataW.weightsAll, List.mem_append]; exact .inr (weightsAll_mem h hn)
theorem sc_RA {v : Value} (h : v.oneCell' = true) : RA w [.sc v] [v] :=
  ⟨fun u hu => by simp at hu; subst hu; exact h, fun β n => by simp only [RepL, Rep]; exact ⟨trivial, trivial⟩⟩
theorem arg_of : ∀ (c : Nat) (t : TypeId), covB P c t = true → ∀ (fuel : Nat) (cs : List Value) (x : DataW H × List MemPlace), DataW.trod enc P w 0 sp held fuel t cs = some x → (∀ n ∈ x.1.weights P t, n ≤ reachBytes) →
    ∃ ps, Arg P c t ps ∧ RA w ps cs
  | 0, _, h, _, _, _, _, _ => by simp [covB] at h
  | c + 1, t, h, fuel, cs, x, hx, hw => by
    unfold covB at h
    split at h
    · rename_i hu
      obtain ⟨b, rfl, rfl⟩ := DataW.trod_bool hu hx
      refine ⟨[.sc (.bool b)], ?_, sc_RA rfl⟩
      unfold Arg; rw [hu]; exact ⟨b, rfl⟩
    · rename_i k hu
      obtain ⟨n, rfl, rfl, hwf⟩ := DataW.trod_int hu hx
      refine ⟨[.sc (.int k n)], ?_, sc_RA rfl⟩
      unfold Arg; rw [hu]; exact ⟨n, hwf, rfl⟩
    · rename_i hu
      obtain ⟨s, rfl, rfl, hs⟩ := DataW.trod_string hu hx
      refine ⟨[.sc (.string s)], ?_, sc_RA rfl⟩
      unfold Arg; rw [hu]
      refine ⟨s, ?_, rfl⟩
      have := hw s.data.toList.length (by simp [DataW.weights])
      simpa using this
    · rename_i e hu
      simp only [Bool.and_eq_true, decide_eq_true_eq] at h
      obtain ⟨hpos, hcov⟩ := h
      rcases DataW.trod_slice hu hx with ⟨rfl, rfl⟩ | ⟨a, len, cap, elems, rest, n, rfl, rfl, rfl, hb, hl, hm, hlen, hel, hsp, hns⟩
      · refine ⟨[.imm (P.cellsOf e) []], ?_, fun v hv => ?_, fun β n => ?_⟩
        · unfold Arg; rw [hu]; exact ⟨[], rfl, by simp, by simp, by simp⟩
        · simp at hv; subst hv; rfl
        · simp only [RepL, Rep]
          exact ⟨⟨none, 0, rfl, Nat.le_refl _, Nat.zero_le _, .inl (by trivial)⟩, trivial⟩
      · have each : ∀ i, i < len → ∃ r : List PV, (r.length = P.cellsOf e ∧ Arg P c e r) ∧ ∃ ci, RA w r ci ∧ ci.length = P.cellsOf e ∧ ∀ j, j < P.cellsOf e → w.cell? ((a.add (i * P.cellsOf e)).add j) = ci[j]? := by
          intro i hi
          have h1 := hel i hi
          have h2 : elems[i]? = some (elems[i]'(by omega)) := List.getElem?_eq_getElem _
          rw [h2, Option.bind_eq_some_iff] at h1
          obtain ⟨ci, h3, h4⟩ := h1
          obtain ⟨_, h5, h6⟩ := World.cells?_some h3
          obtain ⟨r, h7, h8⟩ := arg_of c e hcov n ci _ h4 (fun m hm => hw m (by
            simp only [DataW.weights, hu, List.mem_cons, List.mem_append]
            exact .inr (.inl (weightsAll_mem (i := i) (by rw [List.getElem?_map, h2]; try rfl) hm))))
          exact ⟨r, ⟨by rw [h8.len, h5], h7⟩, ci, h8, h5, h6⟩
        obtain ⟨rows, hrl, hrows⟩ := exists_list len each
        refine ⟨[.imm (P.cellsOf e) rows], ?_, fun v hv => ?_, fun β m => ?_⟩
        · unfold Arg; rw [hu]
          refine ⟨rows, rfl, ?_, by omega, fun r hr => ?_⟩
          · have := hw ((elems.map (·.1)).length * P.bytesOf e + (rest.map (·.1)).length * P.bytesOf e) (by
              simp only [DataW.weights, hu, List.mem_cons, Nat.add_mul, true_or])
            have h9 : rows.length = (elems.map (·.1)).length := by simp [hrl, hlen]
            rw [h9]
            exact Nat.le_trans (Nat.le_add_right _ _) this
          · obtain ⟨i, hi⟩ := List.getElem?_of_mem hr
            exact (hrows i r hi).1
        · simp at hv; subst hv; rfl
        · simp only [RepL, Rep]
          refine ⟨⟨some a, cap, by rw [hrl], by omega, hm, ?_⟩, trivial⟩
          by_cases h0 : len = 0
          · left; exact List.length_eq_zero_iff.1 (by omega)
          · right
            obtain ⟨_, _, c0, _, hc0, hcell0⟩ := each 0 (by omega)
            have h10 := hcell0 0 hpos
            rw [List.getElem?_eq_getElem (by omega)] at h10
            simp only [Nat.zero_mul, Addr.add, if_true] at h10
            have hs : a.spot = none := by
              unfold World.cell? at h10
              split at h10
              · split at h10
                · simp at h10
                · rename_i hsp; simpa using hsp
              · simp at h10
            have hblk : a.block < w.heap.size := by
              unfold World.cell? at h10
              split at h10
              · rename_i hh; exact (Array.getElem?_eq_some_iff.1 hh).1
              · simp at h10
            refine ⟨a.block, a.off, hblk, by cases a; simp only at hs; subst hs; rfl, ?_⟩
            rw [RepR_iff]
            intro i r hr
            obtain ⟨⟨g1, _⟩, ci, g2, g3, g4⟩ := hrows i r hr
            refine ⟨g1, ?_⟩
            rw [RepS_iff]
            intro j p hp
            obtain ⟨v, hv, hrep⟩ := (g2.2 β m).get hp
            have hj : j < P.cellsOf e := by rw [← g3]; exact (List.getElem?_eq_some_iff.1 hv).1
            refine ⟨v, ?_, g2.1 v (List.mem_of_getElem? hv), hrep⟩
            rw [← hv, ← g4 j hj]
            congr 1
            cases a
            simp only at hs; subst hs
            simp only [Addr.add]
            split <;> split <;> simp_all <;> omega
    · rename_i fs hu
      simp only [Bool.and_eq_true, List.all_eq_true] at h
      obtain ⟨xs, n, rfl, rfl, hcl, hxl, hp⟩ := DataW.trod_struct hu hx
      have hpt : partsT P t = fs.toList.map fun f => (f.offset, f.type) := by unfold partsT; rw [hu]
      obtain ⟨ps, h1, h2⟩ := parts_rep (w := w) (c := c) (cs := cs) (partsT P t) 0 (by rw [hcl]; exact h.1) (fun p hpm => by
        have hcv := h.2 p hpm
        rw [hpt] at hpm
        obtain ⟨i, hi⟩ := List.getElem?_of_mem hpm
        rw [List.getElem?_map, Option.map_eq_some_iff] at hi
        obtain ⟨f, hf, rfl⟩ := hi
        have hf' : fs[i]? = some f := by simpa using hf
        have hi' : i < xs.length := by
          rw [hxl]
          exact (Array.getElem?_eq_some_iff.1 hf').1
        have h3 := hp i f hf'
        rw [List.getElem?_eq_getElem hi'] at h3
        exact arg_of c f.type hcv n _ _ h3 (fun m hm => hw m (by
          simp only [DataW.weights, hu]
          exact DataW.weights_mem_each (j := i) (t := f.type) (d := xs[i].1) (by rw [List.getElem?_map, hf]; try rfl) (by rw [List.getElem?_map, List.getElem?_eq_getElem hi']; try rfl) m hm)))
      refine ⟨ps, ?_, by simpa using h1⟩
      unfold Arg; rw [hu]
      exact ⟨by rw [h1.len, List.drop_zero, hcl], fun p hpm => by simpa using h2 p hpm⟩
    · rename_i k e hu
      simp only [Bool.and_eq_true, List.all_eq_true] at h
      obtain ⟨xs, n, rfl, rfl, hcl, hxl, hp⟩ := DataW.trod_array hu hx
      have hpt : partsT P t = (List.range k).map fun i => (i * P.cellsOf e, e) := by unfold partsT; rw [hu]
      obtain ⟨ps, h1, h2⟩ := parts_rep (w := w) (c := c) (cs := cs) (partsT P t) 0 (by rw [hcl]; exact h.1) (fun p hpm => by
        have hcv := h.2 p hpm
        rw [hpt] at hpm
        obtain ⟨i, hi, rfl⟩ := List.mem_map.1 hpm
        have hi' : i < xs.length := by rw [hxl]; simpa using hi
        have h3 := hp i (by simpa using hi)
        rw [List.getElem?_eq_getElem hi'] at h3
        exact arg_of c e hcv n _ _ h3 (fun m hm => hw m (by
          simp only [DataW.weights, hu]
          exact weightsAll_mem (i := i) (d := xs[i].1) (by rw [List.getElem?_map, List.getElem?_eq_getElem hi']; try rfl) hm)))
      refine ⟨ps, ?_, by simpa using h1⟩
      unfold Arg; rw [hu]
      exact ⟨by rw [h1.len, List.drop_zero, hcl], fun p hpm => by simpa using h2 p hpm⟩
    · simp at h
def ArgV (P : Program) (c : Nat) (t : TypeId) (p : PV) : Prop := match P.underlying t with
  | some (.struct _) => ∃ ps, p = .agg ps ∧ Arg P c t ps
  | some (.array _ _) => ∃ ps, p = .agg ps ∧ Arg P c t ps
  | _ => Arg P c t [p]
theorem arg_value {c : Nat} {t : TypeId} (hc : covB P c t = true) {v : Value} {d : DataW H} {pl : List MemPlace} (h : DataW.Trod enc P w 0 sp held t v d pl) (hv : ∃ base, Value.okWide P w .any base t v)
    (hw : ∀ n ∈ d.weights P t, n ≤ reachBytes) : ∃ p, ArgV P c t p ∧ ∀ β n, Rep β n (fun b => b < w.heap.size) w p v := by
  obtain ⟨fuel, hf⟩ := h
  obtain ⟨ps, h1, h2⟩ := arg_of c t hc fuel _ _ hf hw
  obtain ⟨base, hv⟩ := hv
  unfold Value.okWide at hv
  cases c with
  | zero => simp [covB] at hc
  | succ c =>
    unfold covB at hc
    unfold ArgV
    have one : (∃ q, ps = [q]) → (∃ u, v.cells.toList = [u] ∧ v = u) → ∃ p, Arg P (c + 1) t [p] ∧ ∀ β n, Rep β n (fun b => b < w.heap.size) w p v := by
      rintro ⟨q, rfl⟩ ⟨u, hu, rfl⟩
      refine ⟨q, h1, fun β n => ?_⟩
      have := h2.2 β n
      rw [hu] at this
      simp only [RepL] at this
      exact this.1
    have agg : (∃ cs, v = .agg cs) → ∃ p, (∃ ps, p = .agg ps ∧ Arg P (c + 1) t ps) ∧ ∀ β n, Rep β n (fun b => b < w.heap.size) w p v := by
      rintro ⟨cs, rfl⟩
      refine ⟨.agg ps, ⟨ps, rfl, h1⟩, fun β n => ?_⟩
      simp only [Rep]
      exact ⟨cs.toList, by simp, h2.1, h2.2 β n⟩
    split at hc
    · rename_i hu
      obtain ⟨b, hb, _⟩ := DataW.trod_bool hu hf
      simp only [hu] at hv ⊢
      refine one ?_ ⟨_, hb, ?_⟩
      · unfold Arg at h1; rw [hu] at h1; obtain ⟨b, rfl⟩ := h1; exact ⟨_, rfl⟩
      · obtain ⟨b', rfl⟩ := okWide_bool hu (r := .any) (base := base) (v := v) (w := w) (by unfold Value.okWide; rw [hu]; exact hv)
        simpa [Value.cells] using hb
    · rename_i k hu
      obtain ⟨n, hb, _⟩ := DataW.trod_int hu hf
      simp only [hu] at hv ⊢
      refine one ?_ ⟨_, hb, ?_⟩
      · unfold Arg at h1; rw [hu] at h1; obtain ⟨n, _, rfl⟩ := h1; exact ⟨_, rfl⟩
      · obtain ⟨b', rfl⟩ := okWide_int hu (r := .any) (base := base) (v := v) (w := w) (by unfold Value.okWide; rw [hu]; exact hv)
        simpa [Value.cells] using hb
    · rename_i hu
      obtain ⟨n, hb, _⟩ := DataW.trod_string hu hf
      simp only [hu] at hv ⊢
      refine one ?_ ⟨_, hb, ?_⟩
      · unfold Arg at h1; rw [hu] at h1; obtain ⟨n, _, rfl⟩ := h1; exact ⟨_, rfl⟩
      · obtain ⟨b', rfl⟩ := okWide_string hu (r := .any) (base := base) (v := v) (w := w) (by unfold Value.okWide; rw [hu]; exact hv)
        simpa [Value.cells] using hb
    · rename_i e hu
      simp only [hu] at hv ⊢
      obtain ⟨a, len, cap, rfl⟩ := okWide_slice hu (r := .any) (base := base) (v := v) (w := w) (by unfold Value.okWide; rw [hu]; exact hv)
      refine one ?_ ⟨_, rfl, rfl⟩
      unfold Arg at h1; rw [hu] at h1; obtain ⟨n, rfl, _⟩ := h1; exact ⟨_, rfl⟩
    · rename_i fs hu
      simp only [hu] at hv ⊢
      obtain ⟨cs, rfl, _⟩ := hv
      exact agg ⟨_, rfl⟩
    · rename_i n e hu
      simp only [hu] at hv ⊢
      obtain ⟨cs, rfl, _⟩ := hv
      exact agg ⟨_, rfl⟩
    · simp at hc
end
end Go.AM
namespace Go.AM
open Go.ChangeShapes Go.WideShapes
section
variable {H : Type} {enc : TypeId × Value → H} {P : Program} {w : World} {sp : Nat → Bool} {held : Bool}
def covC (P : Program) (Ts : List TypeId) : Bool := Ts.all fun t => match P.underlying t with
  | some .bool => true
  | some (.int _) => true
  | some .string => true
  | some (.slice e) => decide (0 < P.cellsOf e) && Ts.contains e
  | some (.struct _) => inRow P (P.cellsOf t) 0 (partsT P t) && (partsT P t).all fun p => Ts.contains p.2
  | some (.array _ _) => inRow P (P.cellsOf t) 0 (partsT P t) && (partsT P t).all fun p => Ts.contains p.2
  | _ => false
end
end Go.AM
