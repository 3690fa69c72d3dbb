/- What the claim rests on, part 5: the abstract machine, contracts of the functions, plain data. -/
import Derived.OpenShut
import Derived.ChangeShapes
import Derived.SizedLaws
import Derived.Test.YtjlkapgpjamnkaaRows
import Derived.Test.YtjlkapgpjamnkaaZb4
set_option linter.unusedVariables false
set_option linter.unusedSimpArgs false
set_option linter.unusedSectionVars false
namespace Go.Proofs.Ytjlkapgpjamnkaa
open Go.AM
theorem nameW {s : ByteArray} (h : nameB s = true) : wordR s = true := by rw [← word_same]; exact name_word h
theorem varW {s : ByteArray} (h : varB s = true) : wordR s = true := by rw [← word_same]; exact (var_word h).1
theorem term_word {s : ByteArray} (h : termB s = true) : wordR s = true := by
 simp only [termB, Bool.or_eq_true] at h
 exact h.elim nameW varW
theorem ss_word {s : ByteArray} (h : wordR s = true) : shapedS (wordM s) = true := by simp [wordM, shapedS, h]
theorem shapedSs_iff : ∀ {l : List Sx}, (shapedSs l = true ↔ ∀ k ∈ l, shapedS k = true)
 | [] => by simp [shapedSs]
 | k :: l => by simp [shapedSs, shapedSs_iff (l := l)]
theorem ss_list {l : List Sx} (h : ∀ k ∈ l, shapedS k = true) : shapedS (listM l) = true := by
 unfold listM shapedS
 rw [if_neg (by decide), if_neg (by decide), if_pos rfl, shapedSs_iff.2 h]; try rfl
theorem ss_words {first : ByteArray} {l : List ByteArray} (h0 : wordR first = true) (h : l.all termB = true) : shapedS (wordsM first l) = true := by
 refine ss_list fun k hk => ?_
 simp only [List.map_cons, List.mem_cons, List.mem_map] at hk
 rcases hk with rfl | ⟨s, hs, rfl⟩
 ·exact ss_word h0
 ·exact ss_word (term_word (List.all_eq_true.1 h s hs))
theorem exW_ss : ∀ e : Ex, shapedE e = true → shapedS (exW e) = true := by
 refine Ex.ind ?_
 intro op name n args kids ih h
 unfold shapedE at h
 unfold exW
 split at h
 ·rename_i c
  rw [if_pos c]
  simp only [Bool.and_eq_true] at h
  have := h.2
  simp only [inNum, Bool.and_eq_true, decide_eq_true_eq] at this
  simp [shapedS, this.1, this.2]
 ·rename_i c
  rw [if_neg c]
  split at h
  ·rename_i c2
   rw [if_pos c2]
   simp only [Bool.and_eq_true] at h
   exact ss_words (nameW h.1.2) h.2
  ·rename_i c2
   rw [if_neg c2]
   split at h
   case isFalse => simp at h
   rename_i c3
   simp only [Bool.and_eq_true] at h
   obtain ⟨_, h4⟩ := h
   split at h4
   case h_2 => simp at h4
   rename_i a b
   simp only [Bool.and_eq_true] at h4
   have hop : wordR op = true := by
    simp only [Bool.or_eq_true] at c3
    rcases c3 with (h | h) | h <;> rw [bEq_eq h] <;> decide
   refine ss_list fun k hk => ?_
   simp only [List.mem_cons, List.not_mem_nil, or_false] at hk
   rcases hk with rfl | rfl | rfl
   ·exact ss_word hop
   ·exact ih a (by simp) h4.1
   ·exact ih b (by simp) h4.2
theorem params_ss : ∀ l : List Pm, l.all pmOk = true → ∀ k ∈ paramsW l, shapedS k = true
 | [], _ => by simp [paramsW]
 | p :: l, h => by
  simp only [List.all_cons, Bool.and_eq_true, pmOk] at h
  obtain ⟨⟨h1, h2⟩, h3⟩ := h
  have ht : wordR p.type = true := by
   simp only [typedB, Bool.or_eq_true] at h2
   rcases h2 with h2 | h2
   ·exact nameW h2
   ·rw [bEq_eq h2]; decide
  intro k hk
  simp only [paramsW, List.mem_cons] at hk
  rcases hk with rfl | rfl | rfl | hk
  ·exact ss_word (varW h1)
  ·exact ss_word (by decide)
  ·exact ss_word ht
  ·exact params_ss l h3 k hk
theorem fmW_ss : ∀ f : Fm, shapedF f = true → shapedS (fmW f) = true := by
 refine sf_ind ?_ ?_ ?_ ?_ ?_ ?_ ?_
 ·intro name args h1 h2
  exact ss_words (nameW h1) h2
 ·intro args _ h2
  exact ss_words (by decide) h2
 ·intro op a b ho ha hb
  have e : fmW (.mk op ⟨#[]⟩ [] [] [a, b] []) = listM [wordM op, exW a, exW b] := by rcases ho with rfl | rfl | rfl <;> rfl
  have hop : wordR op = true := by rcases ho with rfl | rfl | rfl <;> decide
  rw [e]
  refine ss_list fun k hk => ?_
  simp only [List.mem_cons, List.not_mem_nil, or_false] at hk
  rcases hk with rfl | rfl | rfl
  ·exact ss_word hop
  ·exact exW_ss a ha
  ·exact exW_ss b hb
 ·intro op kids ho _ ih
  have e : ∃ pre, (∀ k ∈ pre, shapedS k = true) ∧ fmW (.mk op ⟨#[]⟩ [] [] [] kids) = listM (pre ++ kids.map fmW) := by
   have hop : wordR op = true := by rcases ho with rfl | rfl <;> decide
   have hx : fmW (.mk op ⟨#[]⟩ [] [] [] kids) = listM ((if (bEq op opAnd && kids.isEmpty) = true then [] else [wordM op]) ++ kids.map fmW) := by
    unfold fmW
    rw [fmWs_map]
    rcases ho with rfl | rfl
    ·rw [if_neg (by decide), if_neg (by decide), if_neg (by decide), if_neg (show ¬ isQ opAnd = true by decide), List.append_nil]
    ·rw [if_neg (by decide), if_neg (by decide), if_neg (by decide), if_neg (show ¬ isQ opOr = true by decide), List.append_nil]
   refine ⟨_, ?_, hx⟩
   intro k hk
   split at hk
   ·simp at hk
   ·simp only [List.mem_singleton] at hk; subst hk; exact ss_word hop
  obtain ⟨pre, hp, e⟩ := e
  rw [e]
  refine ss_list fun k hk => ?_
  rcases List.mem_append.1 hk with hk | hk
  ·exact hp k hk
  ·obtain ⟨y, hy, rfl⟩ := List.mem_map.1 hk; exact ih y hy
 ·intro k _ ih
  exact ss_list (l := [wordM opNot, fmW k]) fun y hy => by
   simp only [List.mem_cons, List.not_mem_nil, or_false] at hy
   rcases hy with rfl | rfl
   ·exact ss_word (by decide)
   ·exact ih
 ·intro a b _ _ iha ihb
  exact ss_list (l := [wordM opImp, fmW a, fmW b]) fun y hy => by
   simp only [List.mem_cons, List.not_mem_nil, or_false] at hy
   rcases hy with rfl | rfl | rfl
   ·exact ss_word (by decide)
   ·exact iha
   ·exact ihb
 ·intro op params k ho hp _ ih
  have e : fmW (.mk op ⟨#[]⟩ [] params [] [k]) = listM [wordM op, listM (paramsW params), fmW k] := by rcases ho with rfl | rfl <;> rfl
  have hop : wordR op = true := by rcases ho with rfl | rfl <;> decide
  rw [e]
  refine ss_list fun y hy => ?_
  simp only [List.mem_cons, List.not_mem_nil, or_false] at hy
  rcases hy with rfl | rfl | rfl
  ·exact ss_word hop
  ·exact ss_list (params_ss params hp)
  ·exact ih
theorem validF_iff {f : Fm} : validF f = true ↔ shapedF f = true ∧ (fmW f).depth ≤ 32 ∧ (fmW f).nodes ≤ 4096 := by
 constructor
 ·intro h
  have hs : shapedF f = true := by
   unfold validF at h
   simp only [Bool.and_eq_true] at h
   exact shapedM_F f 0 0 h.1
  unfold validF at h
  simp only [Bool.and_eq_true] at h
  have := (svalid_iff (fmW f) 0 0 (by omega) (by omega)).1.1 h.2
  exact ⟨hs, by omega, by omega⟩
 ·rintro ⟨hs, hd, hn⟩
  unfold validF
  rw [(shaped_of f hs 0 0 (by omega) (by omega)).1, (svalid_iff (fmW f) 0 0 (by omega) (by omega)).1.2 ⟨fmW_ss f hs, by omega, by omega⟩]; try rfl
end Go.Proofs.Ytjlkapgpjamnkaa
namespace Go.Proofs.Ytjlkapgpjamnkaa
open Go.AM
def lookR : List ByteArray → List ByteArray → ByteArray → Option ByteArray
 | n :: ns, a :: aa, s => if bEq s n = true then some a else lookR ns aa s
 | _, _, _ => none
def filtR (p : ByteArray → Bool) : List ByteArray → List ByteArray → List ByteArray × List ByteArray
 | n :: ns, a :: aa => if p n = true then (n :: (filtR p ns aa).1, a :: (filtR p ns aa).2) else filtR p ns aa
 | _, _ => ([], [])
theorem look_filt (p : ByteArray → Bool) (s : ByteArray) : ∀ n a : List ByteArray, lookR (filtR p n a).1 (filtR p n a).2 s = if p s = true then lookR n a s else none
 | [], _ => by simp [filtR, lookR]
 | _ :: _, [] => by simp [filtR, lookR]
 | n :: ns, a :: aa => by
  have ih := look_filt p s ns aa
  simp only [filtR]
  by_cases hp : p n = true
  ·rw [if_pos hp]
   simp only [lookR]
   by_cases hs : bEq s n = true
   ·rw [if_pos hs, if_pos hs, bEq_eq hs, if_pos hp]
   ·rw [if_neg hs, if_neg hs, ih]
  ·rw [if_neg hp, ih]
   by_cases hs : bEq s n = true
   ·rw [bEq_eq hs, if_neg hp, if_neg hp]
   ·simp only [lookR]; rw [if_neg hs]
def replR (n a : List ByteArray) (s : ByteArray) : ByteArray := (lookR n a s).getD s
mutual
def bindExR (n a : List ByteArray) : Ex → Ex
 | .mk op name v args kids => .mk op name v (args.map (replR n a)) (bindExsR n a kids)
def bindExsR (n a : List ByteArray) : List Ex → List Ex
 | [] => []
 | k :: l => bindExR n a k :: bindExsR n a l
end
def keepR (params : List Pm) (x : ByteArray) : Bool := varB x && !memB (params.map Pm.name) x
mutual
def bindR : Fm → List ByteArray → List ByteArray → Fm
 | .mk op name args params exprs kids, n, a => .mk op name (args.map (replR (filtR (keepR params) n a).1 (filtR (keepR params) n a).2)) params (bindExsR (filtR (keepR params) n a).1 (filtR (keepR params) n a).2 exprs) (bindsR kids (filtR (keepR params) n a).1 (filtR (keepR params) n a).2)
def bindsR : List Fm → List ByteArray → List ByteArray → List Fm
 | [], _, _ => []
 | k :: l, n, a => bindR k n a :: bindsR l n a
end
def toM (n a : List ByteArray) (s : ByteArray) : Option ByteArray := lookR (filtR varB n a).1 (filtR varB n a).2 s
section
variable {to : ByteArray → Option ByteArray}
mutual
theorem bindEx_eqR {bound n a : List ByteArray} (h : ∀ s, replS to bound s = replR n a s) : ∀ e : Ex, bindEx to bound e = bindExR n a e
 | .mk _ _ _ args kids => by
  simp only [bindEx, bindExR, bindExs_eqR h kids]
  rw [show replS to bound = replR n a from funext h]
theorem bindExs_eqR {bound n a : List ByteArray} (h : ∀ s, replS to bound s = replR n a s) : ∀ l : List Ex, bindExs to bound l = bindExsR n a l
 | [] => rfl
 | k :: l => by simp only [bindExs, bindExsR, bindEx_eqR h k, bindExs_eqR h l]
end
theorem keep_mem {params : List Pm} {s : ByteArray} : keepR params s = true ↔ varB s = true ∧ s ∉ params.map Pm.name := by
 simp only [keepR, Bool.and_eq_true, Bool.not_eq_true', ← memB_iff]
 simp
theorem look_step {bound n a : List ByteArray} {params : List Pm} (h : ∀ s, lookR (filtR varB n a).1 (filtR varB n a).2 s = if memB bound s = true then none else to s) (s : ByteArray) :
  lookR (filtR (keepR params) n a).1 (filtR (keepR params) n a).2 s = if memB (bound ++ params.map Pm.name) s = true then none else to s := by
 have h1 := h s
 rw [look_filt] at h1 ⊢
 have hm : memB (bound ++ params.map Pm.name) s = true ↔ memB bound s = true ∨ s ∈ params.map Pm.name := by rw [memB_iff, memB_iff, List.mem_append]
 by_cases hp : s ∈ params.map Pm.name
 ·rw [if_neg (fun hk => (keep_mem.1 hk).2 hp), if_pos (hm.2 (.inr hp))]
 ·by_cases hv : varB s = true
  ·rw [if_pos (keep_mem.2 ⟨hv, hp⟩)]
   rw [if_pos hv] at h1
   rw [h1]
   by_cases hb : memB bound s = true
   ·rw [if_pos hb, if_pos (hm.2 (.inl hb))]
   ·rw [if_neg hb, if_neg (fun hh => (hm.1 hh).elim hb hp)]
  ·rw [if_neg (fun hk => hv (keep_mem.1 hk).1)]
   rw [if_neg hv] at h1
   by_cases hb : memB bound s = true
   ·rw [if_pos (hm.2 (.inl hb))]
   ·rw [if_neg (fun hh => (hm.1 hh).elim hb hp), h1, if_neg hb]
theorem repl_of_look {bound n a : List ByteArray} (h : ∀ s, lookR n a s = if memB bound s = true then none else to s) (s : ByteArray) : replS to bound s = replR n a s := by
 unfold replR replS
 rw [h s]
 by_cases hb : memB bound s = true
 ·rw [if_pos hb]
  cases to s with
  | none => rfl
  | some t => simp only; rw [if_pos hb]; try rfl
 ·rw [if_neg hb]
  cases to s with
  | none => rfl
  | some t => simp only; rw [if_neg hb]; try rfl
theorem bindFm_eqR : ∀ f, shapedF f = true → ∀ bound n a : List ByteArray, (∀ s, lookR (filtR varB n a).1 (filtR varB n a).2 s = if memB bound s = true then none else to s) → bindFm to f bound = bindR f n a := by
 refine Fm.ind (C := fun f => shapedF f = true → ∀ bound n a : List ByteArray, (∀ s, lookR (filtR varB n a).1 (filtR varB n a).2 s = if memB bound s = true then none else to s) → bindFm to f bound = bindR f n a) ?_
 intro op name args params exprs kids ih hs bound n a h
 have hl := look_step (params := params) h
 have hks : ∀ k ∈ kids, shapedF k = true := sf_kids hs
 -- what lies within
 have hk : bindFms to kids (bound ++ params.map Pm.name) = bindsR kids (filtR (keepR params) n a).1 (filtR (keepR params) n a).2 := by
  have hn : ∀ s, lookR (filtR varB (filtR (keepR params) n a).1 (filtR (keepR params) n a).2).1 (filtR varB (filtR (keepR params) n a).1 (filtR (keepR params) n a).2).2 s = if memB (bound ++ params.map Pm.name) s = true then none else to s := by
   intro s
   rw [look_filt, ← hl s]
   by_cases hv : varB s = true
   ·rw [if_pos hv]
   ·rw [if_neg hv, look_filt, if_neg fun hk => hv (keep_mem.1 hk).1]
  generalize (filtR (keepR params) n a).1 = n' at hn ⊢
  generalize (filtR (keepR params) n a).2 = a' at hn ⊢
  clear hs hl
  induction kids with
  | nil => rfl
  | cons k l ihl =>
   simp only [bindFms, bindsR]
   rw [ih k (by simp) (hks k (by simp)) _ _ _ hn, ihl (fun q hq => ih q (by simp [hq])) fun q hq => hks q (by simp [hq])]
 -- its own terms: there are none where there are parameters
 have hp : params = [] ∨ (args = [] ∧ exprs = []) := by
  simp only [shapedF, Bool.and_eq_true] at hs
  rcases partsOk_cases hs.1.1 with ⟨_, _, _, h, _⟩ | ⟨_, _, _, _, h, _⟩ | ⟨_, _, _, h, _⟩ | ⟨_, _, _, h, _⟩ | ⟨_, _, h1, h2, _⟩
  ·exact .inl h
  ·exact .inl h
  ·exact .inl h
  ·exact .inl h
  ·exact .inr ⟨h1, List.eq_nil_of_length_eq_zero h2⟩
 simp only [bindFm, bindR, hk]
 rcases hp with rfl | ⟨rfl, rfl⟩
 ·have hr := repl_of_look (to := to) (bound := bound) (n := (filtR (keepR []) n a).1) (a := (filtR (keepR []) n a).2) (by simpa using hl)
  rw [bindExs_eqR hr, show replS to bound = replR _ _ from funext hr]
 ·rfl
end
theorem bind_same {f : Fm} (hf : shapedF f = true) (n a : List ByteArray) : bindFm (toM n a) f [] = bindR f n a :=
 bindFm_eqR f hf [] n a fun s => by simp [memB, toM]
end Go.Proofs.Ytjlkapgpjamnkaa
namespace Go.AM
section
variable {P : Program} {f : FuncId} {z : Nat} {h : Heap} {K : PV → Heap → Prop}
theorem RepL.nil_split {β : Env} {n : Nat} {F : Nat → Prop} {w : World} {z : Nat} : ∀ {pre post : List PV} {vals : List Value}, RepL β n F w (pre ++ .imm z [] :: post) vals → ∃ a cap, RepL β n F w (pre ++ .sc (.slice a 0 cap) :: post) vals
  | [], post, [], h => by simp [RepL] at h
  | [], post, v :: vals, h => by
    simp only [List.nil_append, RepL, Rep] at h ⊢
    obtain ⟨⟨a, cap, hv, _⟩, h2⟩ := h
    exact ⟨a, cap, by simpa using hv, h2⟩
  | p :: pre, post, [], h => by simp [RepL] at h
  | p :: pre, post, v :: vals, h => by
    simp only [List.cons_append, RepL] at h ⊢
    obtain ⟨a, cap, hx⟩ := RepL.nil_split h.2
    exact ⟨a, cap, h.1, hx⟩
theorem PCall.nil_split {pre post : List PV} (h0 : ∀ a cap, PCall P f (pre ++ .sc (.slice a 0 cap) :: post) h K) : PCall P f (pre ++ .imm z [] :: post) h K := by
  intro β w vals sm hr
  obtain ⟨a, cap, hx⟩ := RepL.nil_split hr
  exact h0 a cap β w vals sm hx
theorem PCall.nil1 (h0 : ∀ a cap, PCall P f [.sc (.slice a 0 cap)] h K) : PCall P f [.imm z []] h K := PCall.nil_split (pre := []) (post := []) h0
theorem peq_none (c : Bool) (cap : Nat) : peq 5 c (.sc (.slice none 0 cap)) (.sc (.slice none 0 0)) = some true := rfl
theorem peq_some (c : Bool) (x : Addr) (cap : Nat) : peq 5 c (.sc (.slice (some x) 0 cap)) (.sc (.slice none 0 0)) = some false := rfl
theorem view_some (h : Heap) (x : Option Addr) (cap : Nat) : view h (.sc (.slice x 0 cap)) = some [] := by
  unfold view
  split <;> first | rfl | (simp_all; done) | (simp_all)
theorem zOk_some (h : Heap) (z : Nat) (x : Option Addr) (cap : Nat) : zOk h z (.sc (.slice x 0 cap)) = true := by
  unfold zOk
  split <;> first | rfl | (simp_all; done) | (simp_all)
end
end Go.AM
namespace Go.Proofs.Ytjlkapgpjamnkaa
open Go.AM
set_option maxHeartbeats 4000000
set_option maxRecDepth 20000
theorem pms_in (n : Nat) (l : List Pm) : inNR n (pmRows l) := by
 induction l with
 | nil => simp only [pmRows, List.map_nil, inNR]
 | cons a l ih => simp only [pmRows, List.map_cons, inNR, pmRow, inNL, inN, and_true, true_and] at ih ⊢; exact ih
theorem exs_in (n : Nat) : ∀ l : List Ex, inNR n (Ex.rows l)
 | [] => by simp only [Ex.rows, inNR]
 | k :: ks => by simp only [Ex.rows, inNR]; exact ⟨ex_in n k, exs_in n ks⟩
theorem fm_in (n : Nat) : ∀ f : Fm, inNL n f.cells := by
 refine Fm.ind ?_
 intro op name args params exprs kids ih
 have : inNR n (Fm.rows kids) := by
  clear op name args params exprs
  induction kids with
  | nil => simp only [Fm.rows, inNR]
  | cons k ks ih2 =>
   simp only [Fm.rows, inNR]
   exact ⟨ih k (by simp), ih2 fun q hq => ih q (by simp [hq])⟩
 simp only [Fm.cells, inNL, inN, and_true, true_and]
 exact ⟨strs_in n args, pms_in n params, exs_in n exprs, this⟩
theorem fm_frz (n : Nat) (h : Heap) (f : Fm) : FrzL n h f.cells f.cells := by
 have hi := fm_in n f
 obtain ⟨op, name, args, params, exprs, kids⟩ := f
 simp only [Fm.cells, inNL, inN, and_true, true_and] at hi
 simp only [Fm.cells, FrzL, FrzTo, and_true, true_and]
 exact ⟨.inl hi.1, .inl hi.2.1, .inl hi.2.2.1, .inl hi.2.2.2⟩
theorem fms_frz (n : Nat) (h : Heap) : ∀ l : List Fm, FrzR n h (Fm.rows l) (Fm.rows l)
 | [] => by simp only [Fm.rows, FrzR]
 | k :: ks => by simp only [Fm.rows, FrzR]; exact ⟨fm_frz n h k, fms_frz n h ks⟩
theorem tl_frzF {h : Heap} {id0 n : Nat} {p : PV} {l : List Fm} (hn : n ≤ id0) (t : Tl h id0 6 p (Fm.rows l)) : FrzTo n h (.imm 6 (Fm.rows l)) p := by
 simp only [FrzTo]
 rcases t with ⟨h1, h2⟩ | ⟨id, h1, h2, rfl, ho⟩
 ·exact .inr (.inl ⟨h1, h2.symm⟩)
 ·refine .inr (.inr ⟨id, 0, _, _, rfl, by omega, ho, by omega, ?_⟩)
  rw [List.drop_zero, List.take_of_length_le (by omega)]
  exact fms_frz _ _ _
end Go.Proofs.Ytjlkapgpjamnkaa
namespace Go.Proofs.Ytjlkapgpjamnkaa
open Go.AM
set_option maxHeartbeats 4000000
set_option maxRecDepth 20000
theorem a_gen {P : Program} {ow : Nat → Bool} {wf : FuncId → Bool} {n : Nat} {Q : Post} {s : Slots} {h : Heap} {c : Code} (I : Slots → Heap → Prop) (hi : I s h) (hh : ∀ s h, I s h → awp P ow wf n c Q s h) : awp P ow wf n c Q s h := hh _ _ hi
theorem pms_scal (l : List Pm) : ∀ r ∈ pmRows l, ∀ p ∈ r, ∃ v, p = PV.sc v := by
 intro r hr p hp
 simp only [pmRows, List.mem_map] at hr
 obtain ⟨x, _, rfl⟩ := hr
 simp only [pmRow, List.mem_cons, List.not_mem_nil, or_false] at hp
 rcases hp with rfl | rfl
 ·exact ⟨_, rfl⟩
 ·exact ⟨_, rfl⟩
theorem pms_frzP {h : Heap} {id0 : Nat} {p : PV} {l : List Pm} (t : Tl h id0 2 p (pmRows l)) : FrzTo id0 h (.imm 2 (pmRows l)) p := t.frz (pms_scal l)
end Go.Proofs.Ytjlkapgpjamnkaa
namespace Go.Proofs.Ytjlkapgpjamnkaa
open Go.AM
set_option maxHeartbeats 2000000
set_option maxRecDepth 20000
theorem cloneS_c {l : List ByteArray} (hl : l.length ≤ 1099511627776) (h : Heap) : PCall Try.prog 139 [.imm 1 (strRows l)] h fun r h' => Grow h h' ∧ Tl h' h.next 1 r (strRows l) := by
 have hll := strRows_len l
 cases l with
 | nil =>
  have e0 : strRows [] = [] := rfl
  rw [e0]
  refine PCall.nil1 fun a cap => ?_
  cases a with
  | none =>
   refine pcall_body (ow := fun _ => false) (wf := fun _ => false) Ty.mixed Try.func139 rfl Ty.hb_139 (by rw [Try.ntmps139]; simp) ?_
   rw [Try.ntmps139, Try.results139]
   repeat' (first | refine a_seq fun K hK => ?_ | ((first | refine a_regionS ?_ | refine a_ret ?_); simp (maxSteps := 2000000) only [Ty.w, simprocAttr, peq_none]) | (refine hK _ _ ?_; clear hK; try simp only [pst0, simprocAttr]))
   exact ⟨Grow.refl _, Tl.nil⟩
  | some x =>
   refine pcall_body (ow := fun _ => false) (wf := fun _ => false) Ty.mixed Try.func139 rfl Ty.hb_139 (by rw [Try.ntmps139]; simp) ?_
   rw [Try.ntmps139, Try.results139]
   repeat' (first | refine a_seq fun K hK => ?_ | ((first | refine a_regionS ?_ | refine a_ret ?_); simp (maxSteps := 2000000) only [Ty.w, simprocAttr, peq_some, view_some, zOk_some]) | (refine a_skip ?_; try simp only [pst0, simprocAttr]) | (refine a_cond _ (by (try simp (maxSteps := 2000000) only [Ty.w, simprocAttr, peq_some, view_some, zOk_some]); rfl) (fun hb => ?_) (fun hb => ?_) <;> (try simp only [hb0, decide_eq_true_eq, decide_eq_false_iff_not, simprocAttr] at hb) <;> (try (exfalso; omega))) | (refine hK _ _ ?_; clear hK; try simp only [pst0, simprocAttr]))
   exact ⟨(Grow.refl h).new _, Tl.grow (Nat.le_refl _) rfl⟩
 | cons x l =>
  have h0 : (0 < (strRows (x :: l)).length) = True := by rw [hll]; simp
  have hb : ((x :: l).length) * 16 ≤ 140737488355328 := by omega
  have hz : 0 + (strRows (x :: l)).length = (x :: l).length := by omega
  generalize strRows (x :: l) = R at hll h0 hz
  refine pcall_body (ow := fun _ => false) (wf := fun _ => false) Ty.mixed Try.func139 rfl Ty.hb_139 (by rw [Try.ntmps139]; simp) ?_
  rw [Try.ntmps139, Try.results139]
  repeat' (first | refine a_seq fun K hK => ?_ | ((first | refine a_regionS ?_ | refine a_ret ?_); simp (maxSteps := 2000000) only [Ty.w, simprocAttr, h0, hll, hb]) | (refine a_skip ?_; try simp only [pst0, simprocAttr]) | (refine a_cond _ (by (try simp (maxSteps := 2000000) only [Ty.w, simprocAttr, h0, hll, hb]); rfl) (fun hb => ?_) (fun hb => ?_) <;> (try simp only [hb0, decide_eq_true_eq, decide_eq_false_iff_not, simprocAttr] at hb) <;> (try (exfalso; omega))) | (refine hK _ _ ?_; clear hK; try simp only [pst0, simprocAttr]) | (rw [if_pos]; rotate_left 1; omega; simp (maxSteps := 2000000) only [Ty.w, simprocAttr, h0, hll, hb]))
  exact ⟨(Grow.refl h).new _, Tl.grow (Nat.le_refl _) (by simp [hll])⟩
theorem cloneP_c {l : List Pm} (hl : l.length ≤ 1099511627776) (h : Heap) : PCall Try.prog 100 [.imm 2 (pmRows l)] h fun r h' => Grow h h' ∧ Tl h' h.next 2 r (pmRows l) := by
 have hll := pmRows_len l
 cases l with
 | nil =>
  have e0 : pmRows [] = [] := rfl
  rw [e0]
  refine PCall.nil1 fun a cap => ?_
  cases a with
  | none =>
   refine pcall_body (ow := fun _ => false) (wf := fun _ => false) Ty.mixed Try.func100 rfl Ty.hb_100 (by rw [Try.ntmps100]; simp) ?_
   rw [Try.ntmps100, Try.results100]
   repeat' (first | refine a_seq fun K hK => ?_ | ((first | refine a_regionS ?_ | refine a_ret ?_); simp (maxSteps := 2000000) only [Ty.w, simprocAttr, peq_none]) | (refine hK _ _ ?_; clear hK; try simp only [pst0, simprocAttr]))
   exact ⟨Grow.refl _, Tl.nil⟩
  | some x =>
   refine pcall_body (ow := fun _ => false) (wf := fun _ => false) Ty.mixed Try.func100 rfl Ty.hb_100 (by rw [Try.ntmps100]; simp) ?_
   rw [Try.ntmps100, Try.results100]
   repeat' (first | refine a_seq fun K hK => ?_ | ((first | refine a_regionS ?_ | refine a_ret ?_); simp (maxSteps := 2000000) only [Ty.w, simprocAttr, peq_some, view_some, zOk_some]) | (refine a_skip ?_; try simp only [pst0, simprocAttr]) | (refine a_cond _ (by (try simp (maxSteps := 2000000) only [Ty.w, simprocAttr, peq_some, view_some, zOk_some]); rfl) (fun hb => ?_) (fun hb => ?_) <;> (try simp only [hb0, decide_eq_true_eq, decide_eq_false_iff_not, simprocAttr] at hb) <;> (try (exfalso; omega))) | (refine hK _ _ ?_; clear hK; try simp only [pst0, simprocAttr]))
   exact ⟨(Grow.refl h).new _, Tl.grow (Nat.le_refl _) rfl⟩
 | cons x l =>
  have h0 : (0 < (pmRows (x :: l)).length) = True := by rw [hll]; simp
  have hb : ((x :: l).length) * 32 ≤ 140737488355328 := by omega
  have hz : 0 + (pmRows (x :: l)).length = (x :: l).length := by omega
  generalize pmRows (x :: l) = R at hll h0 hz
  refine pcall_body (ow := fun _ => false) (wf := fun _ => false) Ty.mixed Try.func100 rfl Ty.hb_100 (by rw [Try.ntmps100]; simp) ?_
  rw [Try.ntmps100, Try.results100]
  repeat' (first | refine a_seq fun K hK => ?_ | ((first | refine a_regionS ?_ | refine a_ret ?_); simp (maxSteps := 2000000) only [Ty.w, simprocAttr, h0, hll, hb]) | (refine a_skip ?_; try simp only [pst0, simprocAttr]) | (refine a_cond _ (by (try simp (maxSteps := 2000000) only [Ty.w, simprocAttr, h0, hll, hb]); rfl) (fun hb => ?_) (fun hb => ?_) <;> (try simp only [hb0, decide_eq_true_eq, decide_eq_false_iff_not, simprocAttr] at hb) <;> (try (exfalso; omega))) | (refine hK _ _ ?_; clear hK; try simp only [pst0, simprocAttr]) | (rw [if_pos]; rotate_left 1; omega; simp (maxSteps := 2000000) only [Ty.w, simprocAttr, h0, hll, hb]))
  exact ⟨(Grow.refl h).new _, Tl.grow (Nat.le_refl _) (by simp [hll])⟩
theorem cloneP_q {l : List Pm} (hl : l.length ≤ 1099511627776) (h : Heap) : PCall Try.prog 100 [.imm 2 (pmRows l)] h fun r h' => r = .imm 2 (pmRows l) ∧ h' = h := by
 refine PCall.frz Ty.hb_100 ((cloneP_c hl h).mono ?_)
 rintro r h' ⟨hg, tl⟩
 exact ⟨pms_frzP tl, hg⟩
theorem cloneE_c {l : List Ex} (hl : l.length ≤ 1099511627776) (h : Heap) : PCall Try.prog 127 [.imm 5 (Ex.rows l)] h fun r h' => Grow h h' ∧ Tl h' h.next 5 r (Ex.rows l) := by
 have hll := Ex.rows_len l
 cases l with
 | nil =>
  have e0 : Ex.rows [] = [] := rfl
  rw [e0]
  refine PCall.nil1 fun a cap => ?_
  cases a with
  | none =>
   refine pcall_body (ow := fun _ => false) (wf := fun _ => false) Ty.mixed Try.func127 rfl Ty.hb_127 (by rw [Try.ntmps127]; simp) ?_
   rw [Try.ntmps127, Try.results127]
   repeat' (first | refine a_seq fun K hK => ?_ | ((first | refine a_regionS ?_ | refine a_ret ?_); simp (maxSteps := 2000000) only [Ty.w, simprocAttr, peq_none]) | (refine hK _ _ ?_; clear hK; try simp only [pst0, simprocAttr]))
   exact ⟨Grow.refl _, Tl.nil⟩
  | some x =>
   refine pcall_body (ow := fun _ => false) (wf := fun _ => false) Ty.mixed Try.func127 rfl Ty.hb_127 (by rw [Try.ntmps127]; simp) ?_
   rw [Try.ntmps127, Try.results127]
   repeat' (first | refine a_seq fun K hK => ?_ | ((first | refine a_regionS ?_ | refine a_ret ?_); simp (maxSteps := 2000000) only [Ty.w, simprocAttr, peq_some, view_some, zOk_some]) | (refine a_skip ?_; try simp only [pst0, simprocAttr]) | (refine a_cond _ (by (try simp (maxSteps := 2000000) only [Ty.w, simprocAttr, peq_some, view_some, zOk_some]); rfl) (fun hb => ?_) (fun hb => ?_) <;> (try simp only [hb0, decide_eq_true_eq, decide_eq_false_iff_not, simprocAttr] at hb) <;> (try (exfalso; omega))) | (refine hK _ _ ?_; clear hK; try simp only [pst0, simprocAttr]))
   exact ⟨(Grow.refl h).new _, Tl.grow (Nat.le_refl _) rfl⟩
 | cons x l =>
  have h0 : (0 < (Ex.rows (x :: l)).length) = True := by rw [hll]; simp
  have hb : ((x :: l).length) * 88 ≤ 140737488355328 := by omega
  have hz : 0 + (Ex.rows (x :: l)).length = (x :: l).length := by omega
  generalize Ex.rows (x :: l) = R at hll h0 hz
  refine pcall_body (ow := fun _ => false) (wf := fun _ => false) Ty.mixed Try.func127 rfl Ty.hb_127 (by rw [Try.ntmps127]; simp) ?_
  rw [Try.ntmps127, Try.results127]
  repeat' (first | refine a_seq fun K hK => ?_ | ((first | refine a_regionS ?_ | refine a_ret ?_); simp (maxSteps := 2000000) only [Ty.w, simprocAttr, h0, hll, hb]) | (refine a_skip ?_; try simp only [pst0, simprocAttr]) | (refine a_cond _ (by (try simp (maxSteps := 2000000) only [Ty.w, simprocAttr, h0, hll, hb]); rfl) (fun hb => ?_) (fun hb => ?_) <;> (try simp only [hb0, decide_eq_true_eq, decide_eq_false_iff_not, simprocAttr] at hb) <;> (try (exfalso; omega))) | (refine hK _ _ ?_; clear hK; try simp only [pst0, simprocAttr]) | (rw [if_pos]; rotate_left 1; omega; simp (maxSteps := 2000000) only [Ty.w, simprocAttr, h0, hll, hb]))
  exact ⟨(Grow.refl h).new _, Tl.grow (Nat.le_refl _) (by simp [hll])⟩
theorem cloneE_q {l : List Ex} (hl : l.length ≤ 1099511627776) (h : Heap) : PCall Try.prog 127 [.imm 5 (Ex.rows l)] h fun r h' => r = .imm 5 (Ex.rows l) ∧ h' = h := by
 refine PCall.frz Ty.hb_127 ((cloneE_c hl h).mono ?_)
 rintro r h' ⟨hg, tl⟩
 exact ⟨tl_frzE (Nat.le_refl _) tl, hg⟩
theorem cloneF_c {l : List Fm} (hl : l.length ≤ 1099511627776) (h : Heap) : PCall Try.prog 128 [.imm 6 (Fm.rows l)] h fun r h' => Grow h h' ∧ Tl h' h.next 6 r (Fm.rows l) := by
 have hll := Fm.rows_len l
 cases l with
 | nil =>
  have e0 : Fm.rows [] = [] := rfl
  rw [e0]
  refine PCall.nil1 fun a cap => ?_
  cases a with
  | none =>
   refine pcall_body (ow := fun _ => false) (wf := fun _ => false) Ty.mixed Try.func128 rfl Ty.hb_128 (by rw [Try.ntmps128]; simp) ?_
   rw [Try.ntmps128, Try.results128]
   repeat' (first | refine a_seq fun K hK => ?_ | ((first | refine a_regionS ?_ | refine a_ret ?_); simp (maxSteps := 2000000) only [Ty.w, simprocAttr, peq_none]) | (refine hK _ _ ?_; clear hK; try simp only [pst0, simprocAttr]))
   exact ⟨Grow.refl _, Tl.nil⟩
  | some x =>
   refine pcall_body (ow := fun _ => false) (wf := fun _ => false) Ty.mixed Try.func128 rfl Ty.hb_128 (by rw [Try.ntmps128]; simp) ?_
   rw [Try.ntmps128, Try.results128]
   repeat' (first | refine a_seq fun K hK => ?_ | ((first | refine a_regionS ?_ | refine a_ret ?_); simp (maxSteps := 2000000) only [Ty.w, simprocAttr, peq_some, view_some, zOk_some]) | (refine a_skip ?_; try simp only [pst0, simprocAttr]) | (refine a_cond _ (by (try simp (maxSteps := 2000000) only [Ty.w, simprocAttr, peq_some, view_some, zOk_some]); rfl) (fun hb => ?_) (fun hb => ?_) <;> (try simp only [hb0, decide_eq_true_eq, decide_eq_false_iff_not, simprocAttr] at hb) <;> (try (exfalso; omega))) | (refine hK _ _ ?_; clear hK; try simp only [pst0, simprocAttr]))
   exact ⟨(Grow.refl h).new _, Tl.grow (Nat.le_refl _) rfl⟩
 | cons x l =>
  have h0 : (0 < (Fm.rows (x :: l)).length) = True := by rw [hll]; simp
  have hb : ((x :: l).length) * 128 ≤ 140737488355328 := by omega
  have hz : 0 + (Fm.rows (x :: l)).length = (x :: l).length := by omega
  generalize Fm.rows (x :: l) = R at hll h0 hz
  refine pcall_body (ow := fun _ => false) (wf := fun _ => false) Ty.mixed Try.func128 rfl Ty.hb_128 (by rw [Try.ntmps128]; simp) ?_
  rw [Try.ntmps128, Try.results128]
  repeat' (first | refine a_seq fun K hK => ?_ | ((first | refine a_regionS ?_ | refine a_ret ?_); simp (maxSteps := 2000000) only [Ty.w, simprocAttr, h0, hll, hb]) | (refine a_skip ?_; try simp only [pst0, simprocAttr]) | (refine a_cond _ (by (try simp (maxSteps := 2000000) only [Ty.w, simprocAttr, h0, hll, hb]); rfl) (fun hb => ?_) (fun hb => ?_) <;> (try simp only [hb0, decide_eq_true_eq, decide_eq_false_iff_not, simprocAttr] at hb) <;> (try (exfalso; omega))) | (refine hK _ _ ?_; clear hK; try simp only [pst0, simprocAttr]) | (rw [if_pos]; rotate_left 1; omega; simp (maxSteps := 2000000) only [Ty.w, simprocAttr, h0, hll, hb]))
  exact ⟨(Grow.refl h).new _, Tl.grow (Nat.le_refl _) (by simp [hll])⟩
theorem cloneF_q {l : List Fm} (hl : l.length ≤ 1099511627776) (h : Heap) : PCall Try.prog 128 [.imm 6 (Fm.rows l)] h fun r h' => r = .imm 6 (Fm.rows l) ∧ h' = h := by
 refine PCall.frz Ty.hb_128 ((cloneF_c hl h).mono ?_)
 rintro r h' ⟨hg, tl⟩
 exact ⟨tl_frzF (Nat.le_refl _) tl, hg⟩
end Go.Proofs.Ytjlkapgpjamnkaa
namespace Go.AM
def Cl (h : Heap) (id0 z : Nat) (p : PV) (rows : List (List PV)) : Prop :=
 (rows = [] ∧ p = .imm z []) ∨ ∃ id, id0 ≤ id ∧ id < h.next ∧ p = .own id 0 rows.length ∧ h.obj id = some (.arr z rows)
variable {h : Heap} {id0 z : Nat} {p : PV} {rows : List (List PV)}
theorem Cl.sl (t : Cl h id0 z p rows) : Sl h z p rows := by
 rcases t with ⟨rfl, rfl⟩ | ⟨id, _, _, rfl, ho⟩
 ·exact Sl.imm _
 ·exact Sl.own0 ho
theorem Cl.up {h' : Heap} (t : Cl h id0 z p rows) (hn : h.next ≤ h'.next) (ho : ∀ j, id0 ≤ j → j < h.next → h'.obj j = h.obj j) : Cl h' id0 z p rows := by
 rcases t with ht | ⟨id, h1, h2, rfl, h3⟩
 ·exact .inl ht
 ·exact .inr ⟨id, h1, by omega, rfl, by rw [ho id h1 h2]; exact h3⟩
theorem Cl.keep {h' : Heap} (t : Cl h id0 z p rows) (hn : h.next ≤ h'.next) (ho : ∀ j, p = .own j 0 rows.length → j < h.next → h'.obj j = h.obj j) : Cl h' id0 z p rows := by
 rcases t with ht | ⟨id, h1, h2, rfl, h3⟩
 ·exact .inl ht
 ·exact .inr ⟨id, h1, by omega, rfl, by rw [ho id rfl h2]; exact h3⟩
theorem Cl.low {a : Nat} (t : Cl h a z p rows) (hab : id0 ≤ a) : Cl h id0 z p rows := by
 rcases t with ht | ⟨id, h1, h2, h3, h4⟩
 ·exact .inl ht
 ·exact .inr ⟨id, by omega, h2, h3, h4⟩
theorem Cl.grow {H : Heap} {len : Nat} (hn : id0 ≤ H.next) (hl : len = rows.length) : Cl (H.new (.arr z rows)) id0 z (.own H.next 0 len) rows :=
 .inr ⟨H.next, hn, Nat.lt_succ_self _, by rw [hl], by rw [new_obj, if_pos rfl]⟩
theorem Cl.pc (t : Cl h id0 z p rows) : p.cells = [p] ∧ oneC p = true := by
 rcases t with ⟨_, rfl⟩ | ⟨_, _, _, rfl, _⟩ <;> exact ⟨rfl, rfl⟩
theorem Cl.frz {n : Nat} (t : Cl h id0 z p rows) (hf : Tl h id0 z p rows → FrzTo n h (.imm z rows) p) : FrzTo n h (.imm z rows) p := by
 rcases t with ⟨rfl, rfl⟩ | ht
 ·simp only [FrzTo]
  exact .inl ⟨trivial, by simp only [inNR]⟩
 ·exact hf (.inr ht)
end Go.AM
namespace Go.Proofs.Ytjlkapgpjamnkaa
open Go.AM
set_option maxHeartbeats 2000000
set_option maxRecDepth 20000
theorem cloneE_d {l : List Ex} (hl : l.length ≤ 1099511627776) (h : Heap) : ∃ v h1, (PCall Try.prog 127 [.imm 5 (Ex.rows l)] h fun r h' => r = v ∧ h' = h1) ∧ Grow h h1 ∧ h1.next ≤ h.next + 1 ∧ Cl h1 h.next 5 v (Ex.rows l) := by
 have hll := Ex.rows_len l
 cases l with
 | nil => exact ⟨_, _, cloneE_q hl h, Grow.refl _, by omega, .inl ⟨rfl, rfl⟩⟩
 | cons x l =>
  refine ⟨.own h.next 0 (Ex.rows (x :: l)).length, h.new (.arr 5 (Ex.rows (x :: l))), ?_, (Grow.refl h).new _, Nat.le_refl _, Cl.grow (Nat.le_refl _) rfl⟩
  have h0 : (0 < (Ex.rows (x :: l)).length) = True := by rw [hll]; simp
  have hb : ((x :: l).length) * 88 ≤ 140737488355328 := by omega
  have hz : 0 + (Ex.rows (x :: l)).length = (x :: l).length := by omega
  generalize Ex.rows (x :: l) = R at hll h0 hz
  refine pcall_body (ow := fun _ => false) (wf := fun _ => false) Ty.mixed Try.func127 rfl Ty.hb_127 (by rw [Try.ntmps127]; simp) ?_
  rw [Try.ntmps127, Try.results127]
  repeat' (first | refine a_seq fun K hK => ?_ | ((first | refine a_regionS ?_ | refine a_ret ?_); simp (maxSteps := 2000000) only [Ty.w, simprocAttr, h0, hll, hb]) | (refine a_skip ?_; try simp only [pst0, simprocAttr]) | (refine a_cond _ (by (try simp (maxSteps := 2000000) only [Ty.w, simprocAttr, h0, hll, hb]); rfl) (fun hb => ?_) (fun hb => ?_) <;> (try simp only [hb0, decide_eq_true_eq, decide_eq_false_iff_not, simprocAttr] at hb) <;> (try (exfalso; omega))) | (refine hK _ _ ?_; clear hK; try simp only [pst0, simprocAttr]) | (rw [if_pos]; rotate_left 1; omega; simp (maxSteps := 2000000) only [Ty.w, simprocAttr, h0, hll, hb]))
  all_goals first | done | exact ⟨rfl, rfl⟩ | (rw [hll])
theorem cloneF_d {l : List Fm} (hl : l.length ≤ 1099511627776) (h : Heap) : ∃ v h1, (PCall Try.prog 128 [.imm 6 (Fm.rows l)] h fun r h' => r = v ∧ h' = h1) ∧ Grow h h1 ∧ h1.next ≤ h.next + 1 ∧ Cl h1 h.next 6 v (Fm.rows l) := by
 have hll := Fm.rows_len l
 cases l with
 | nil => exact ⟨_, _, cloneF_q hl h, Grow.refl _, by omega, .inl ⟨rfl, rfl⟩⟩
 | cons x l =>
  refine ⟨.own h.next 0 (Fm.rows (x :: l)).length, h.new (.arr 6 (Fm.rows (x :: l))), ?_, (Grow.refl h).new _, Nat.le_refl _, Cl.grow (Nat.le_refl _) rfl⟩
  have h0 : (0 < (Fm.rows (x :: l)).length) = True := by rw [hll]; simp
  have hb : ((x :: l).length) * 128 ≤ 140737488355328 := by omega
  have hz : 0 + (Fm.rows (x :: l)).length = (x :: l).length := by omega
  generalize Fm.rows (x :: l) = R at hll h0 hz
  refine pcall_body (ow := fun _ => false) (wf := fun _ => false) Ty.mixed Try.func128 rfl Ty.hb_128 (by rw [Try.ntmps128]; simp) ?_
  rw [Try.ntmps128, Try.results128]
  repeat' (first | refine a_seq fun K hK => ?_ | ((first | refine a_regionS ?_ | refine a_ret ?_); simp (maxSteps := 2000000) only [Ty.w, simprocAttr, h0, hll, hb]) | (refine a_skip ?_; try simp only [pst0, simprocAttr]) | (refine a_cond _ (by (try simp (maxSteps := 2000000) only [Ty.w, simprocAttr, h0, hll, hb]); rfl) (fun hb => ?_) (fun hb => ?_) <;> (try simp only [hb0, decide_eq_true_eq, decide_eq_false_iff_not, simprocAttr] at hb) <;> (try (exfalso; omega))) | (refine hK _ _ ?_; clear hK; try simp only [pst0, simprocAttr]) | (rw [if_pos]; rotate_left 1; omega; simp (maxSteps := 2000000) only [Ty.w, simprocAttr, h0, hll, hb]))
  all_goals first | done | exact ⟨rfl, rfl⟩ | (rw [hll])
end Go.Proofs.Ytjlkapgpjamnkaa
namespace Go.AM
def toE (m : List (ByteArray × ByteArray)) : List (Value × PV) := m.map fun p => (.string p.1, sPV p.2)
def lookE : List (ByteArray × ByteArray) → ByteArray → Option ByteArray
 | [], _ => none
 | (k, v) :: m, s => if (s == k) = true then some v else lookE m s
theorem mfind_E (s : ByteArray) : ∀ m : List (ByteArray × ByteArray), mfind (.string s) (toE m) = some ((lookE m s).map sPV)
 | [] => rfl
 | (k, v) :: m => by
  have ih := mfind_E s m
  simp only [toE, List.map_cons, mfind, keyEq, lookE] at ih ⊢
  cases h : s == k with
  | true => rfl
  | false => simpa using ih
def MapAt (h : Heap) (T : PV) (to : ByteArray → Option ByteArray) : Prop := (∃ m, mview h T = some (toE m) ∧ ∀ s, to s = lookE m s) ∧ ∀ id, T = .mp id → id < h.next
theorem MapAt.grow {h h' : Heap} {T : PV} {to : ByteArray → Option ByteArray} (hm : MapAt h T to) (g : Grow h h') : MapAt h' T to := by
 obtain ⟨⟨m, h1, h2⟩, h3⟩ := hm
 refine ⟨⟨m, ?_, h2⟩, fun id e => Nat.lt_of_lt_of_le (h3 id e) g.le⟩
 cases T with
 | mp id => simp only [mview] at h1 ⊢; rw [g.old id (h3 id rfl)]; exact h1
 | sc v => cases v <;> first | exact h1 | (rename_i r; cases r <;> exact h1)
 | _ => exact h1
theorem pcall_weakA {P : Program} {f : FuncId} {xs ys : List PV} {h : Heap} {K : PV → Heap → Prop} (hab : ∀ (β : Env) (n : Nat) (F : Nat → Prop) (w : World) (vals : List Value), RepL β n F w xs vals → RepL β n F w ys vals) (hc : PCall P f ys h K) : PCall P f xs h K :=
 fun β w vals sm hr => hc β w vals sm (hab _ _ _ _ _ hr)
theorem repl_nil_imm {β : Env} {n : Nat} {F : Nat → Prop} {w : World} {z : Nat} : ∀ {pre post : List PV} {vals : List Value}, RepL β n F w (pre ++ .sc (.slice none 0 0) :: post) vals → RepL β n F w (pre ++ .imm z [] :: post) vals
 | [], post, [], h => by simp [RepL] at h
 | [], post, v :: vals, h => by
  simp only [List.nil_append, RepL, Rep] at h ⊢
  exact ⟨⟨none, 0, h.1, Nat.le_refl _, Nat.zero_le _, .inl trivial⟩, h.2⟩
 | p :: pre, post, [], h => by simp [RepL] at h
 | p :: pre, post, v :: vals, h => by
  simp only [List.cons_append, RepL] at h ⊢
  exact ⟨h.1, repl_nil_imm h.2⟩
theorem PCall.nil_imm {P : Program} {f : FuncId} {z : Nat} {pre post : List PV} {h : Heap} {K : PV → Heap → Prop} (hc : PCall P f (pre ++ .imm z [] :: post) h K) : PCall P f (pre ++ .sc (.slice none 0 0) :: post) h K :=
 pcall_weakA (fun _ _ _ _ _ hr => repl_nil_imm hr) hc
end Go.AM
namespace Go.Proofs.Ytjlkapgpjamnkaa
open Go.AM
set_option maxHeartbeats 4000000
set_option maxRecDepth 20000
theorem memB_any (l : List ByteArray) (s : ByteArray) : (l.any fun w => bEq s w) = memB l s := by
 unfold memB
 congr 1
 funext w
 exact BEq.comm
theorem strRows_set (l : List ByteArray) (k : Nat) (s : ByteArray) : (strRows l).set k [sPV s] = strRows (l.set k s) := by simp [strRows, List.map_set]
theorem mix_get {g : ByteArray → ByteArray} {l : List ByteArray} {k : Nat} {s : ByteArray} (h : l[k]? = some s) : ((l.take k).map g ++ l.drop k)[k]? = some s ∧ ((l.take k).map g ++ l.drop k).set k (g s) = (l.take (k + 1)).map g ++ l.drop (k + 1) := by
 have hk : k < l.length := (List.getElem?_eq_some_iff.1 h).1
 have h1 : ((l.take k).map g).length = k := by simp; omega
 have h2 : l.drop k = s :: l.drop (k + 1) := by
  obtain ⟨_, h4⟩ := List.getElem?_eq_some_iff.1 h
  rw [List.drop_eq_getElem_cons hk, h4]
 constructor
 ·rw [List.getElem?_append_right (by omega), h1, h2]; simp
 ·rw [List.set_append_right _ _ (by omega), h1, h2, List.take_add_one, h]; simp
theorem set_same {α : Type} {l : List α} {k : Nat} {a : α} (h : l[k]? = some a) : l.set k a = l := by
 apply List.ext_getElem?
 intro i
 rw [List.getElem?_set]
 split
 ·rename_i e
  subst e
  have := (List.getElem?_eq_some_iff.1 h).1
  rw [if_pos this, h]
 ·rfl
theorem mix_id {g : ByteArray → ByteArray} {l : List ByteArray} {k : Nat} {s : ByteArray} (h : l[k]? = some s) (hg : g s = s) : (l.take k).map g ++ l.drop k = (l.take (k + 1)).map g ++ l.drop (k + 1) := by
 have h1 := (mix_get (g := g) h).2
 have h2 := (mix_get (g := g) h).1
 rw [hg] at h1
 rw [← h1]
 exact (set_same h2).symm
theorem replaced_c {l bound : List ByteArray} {T : PV} {to : ByteArray → Option ByteArray} (hl : l.length ≤ 1048576) (hb : bound.length ≤ bigN) {h : Heap} (hT : MapAt h T to) :
  PCall Try.prog 126 [.imm 1 (strRows l), T, .imm 1 (strRows bound)] h fun r h' => r = .imm 1 (strRows (l.map (replS to bound))) ∧ h' = h := by
 refine PCall.frz Ty.hb_126 ?_
 have hb' : bound.length ≤ 9223372036854775807 := by unfold bigN at hb; omega
 refine pcall_body (ow := fun _ => false) (wf := fun _ => false) Ty.mixed Try.func126 rfl Ty.hb_126 (by rw [Try.ntmps126]; simp) ?_
 rw [Try.ntmps126, Try.results126]
 repeat' (first | refine a_seq fun K hK => ?_ | (refine a_regionS ?_; simp (maxSteps := 2000000) only [Ty.w, simprocAttr]) | (refine hK _ _ ?_; clear hK; try simp only [pst0, simprocAttr]))
 refine owp_useL (cloneS_c (l := l) (by omega) _) (by (try simp only [Ty.w, simprocAttr]); try rfl) ?_
 rintro r h1 ⟨hg1, tl1⟩
 simp (maxSteps := 2000000) only [Ty.w, simprocAttr, Ty.all]
 have hsl := tl1.sl
 have hlo := hsl.len
 have hlk := hsl.lk
 rw [strRows_len] at hlo
 have hpc : r.cells = [r] ∧ oneC r = true := by
  rcases tl1 with ⟨_, rfl | rfl⟩ | ⟨_, _, _, rfl, _⟩ <;> exact ⟨rfl, rfl⟩
 repeat' (first | refine a_seq fun K hK => ?_ | (refine a_block ?_) | (refine a_regionS ?_; simp (maxSteps := 2000000) only [Ty.w, simprocAttr, hlo, hlk]) | (refine hK _ _ ?_; clear hK; try simp only [pst0, simprocAttr]))
 refine a_loop (fun m S h' => S 1 = T ∧ S 2 = .imm 1 (strRows bound) ∧ S 7 = r ∧ S 14 = r ∧ S 15 = .sc (.int .i64 l.length) ∧ ∃ k : Nat, S 16 = .sc (.int .i64 k) ∧ k ≤ l.length ∧ m = l.length - k ∧ Grow h h' ∧ Tl h' h.next 1 r (strRows ((l.take k).map (replS to bound) ++ l.drop k))) l.length ?_ ?_
 ·simp only [Ty.w, simprocAttr]
  exact ⟨0, rfl, by omega, rfl, hg1, by simpa using tl1⟩
 ·clear hg1 tl1 hsl hlo hlk
  rintro m S h' ⟨g1, g2, g7, g14, g15, k, g16, hk, rfl, hg, tl⟩
  by_cases hlt : k < l.length
  ·have hd : decide ((k : Int) < (l.length : Int)) = true := by simp; omega
   have w7 : IntKind.i64.wrap ((k : Int) + 1) = k + 1 := by rw [wrap64 (by omega) (by omega)]
   obtain ⟨s, hx⟩ : ∃ s, l[k]? = some s := ⟨_, List.getElem?_eq_getElem hlt⟩
   obtain ⟨m1, m2⟩ := mix_get (g := replS to bound) hx
   have m3 := mix_id (g := replS to bound) hx
   have hlen : ((l.take k).map (replS to bound) ++ l.drop k).length = l.length := by simp; omega
   have hlen2 : ((l.take (k + 1)).map (replS to bound) ++ l.drop (k + 1)).length = l.length := by simp; omega
   obtain ⟨⟨mm, hv, hto⟩, _⟩ := hT.grow hg
   have hmf := mfind_E s mm
   rw [← hto] at hmf
   have hr := strRows_get m1
   have hc := fun h : Heap => contains_c (h := h) (l := bound) (s := s) hb'
   have hrep : replS to bound s = (match to s with | some t => if memB bound s = true then s else t | none => s) := rfl
   rw [memB_any] at hc
   obtain ⟨id, i1, i2, rfl, i4⟩ : ∃ id, h.next ≤ id ∧ id < h'.next ∧ r = .own id 0 l.length ∧ h'.obj id = some (.arr 1 (strRows ((l.take k).map (replS to bound) ++ l.drop k))) := by
    rcases tl with ⟨hn, _⟩ | ⟨id, i1, i2, i3, i4⟩
    ·have := congrArg List.length hn
     rw [strRows_len, hlen] at this
     simp only [List.length_nil] at this; omega
    ·rw [strRows_len, hlen] at i3; exact ⟨id, i1, i2, i3, i4⟩
   clear tl
   have keep : ∀ (hq : replS to bound s = s), Tl h' h.next 1 (.own id 0 l.length) (strRows ((l.take (k + 1)).map (replS to bound) ++ l.drop (k + 1))) := fun hq => by
    rw [m3 hq] at i4
    exact .inr ⟨id, i1, i2, by rw [strRows_len, hlen2], i4⟩
   have put : ∀ t, replS to bound s = t → Tl (h'.set id (.arr 1 ((strRows ((l.take k).map (replS to bound) ++ l.drop k)).set k [sPV t]))) h.next 1 (.own id 0 l.length) (strRows ((l.take (k + 1)).map (replS to bound) ++ l.drop (k + 1))) := fun t ht => by
    rw [strRows_set, ← ht, m2]
    exact .inr ⟨id, i1, i2, by rw [strRows_len, hlen2], by simp [Heap.set]⟩
   cases q : to s with
   | none =>
    rw [q] at hmf hrep
    simp only [Option.map_none] at hmf
    have fin2 := keep hrep
    generalize strRows ((l.take k).map (replS to bound) ++ l.drop k) = R at i4 hr
    repeat' (first | refine a_seq fun K hK => ?_ | (refine a_block ?_) | (refine a_regionS ?_; simp (maxSteps := 2000000) only [Ty.w, simprocAttr, g1, g2, g7, g14, g15, g16, hd, i4, hr, hlt, hv, hmf, w7]) | (refine a_skip ?_; try simp only [pst0, simprocAttr]) | (refine a_cond _ (by (try simp (maxSteps := 2000000) only [Ty.w, simprocAttr, g1, g2, g7, g14, g15, g16, hd, i4, hr, hlt, hv, hmf, w7]); rfl) (fun hb => ?_) (fun hb => ?_) <;> (try simp only [hb0, decide_eq_true_eq, decide_eq_false_iff_not, simprocAttr] at hb) <;> (try (exfalso; omega))) | (refine hK _ _ ?_; clear hK; try simp only [pst0, simprocAttr]))
    exact ⟨l.length - (k + 1), by omega, k + 1, by simp, by omega, rfl, hg, fin2⟩
   | some t =>
    rw [q] at hmf hrep
    simp only [Option.map_some] at hmf
    cases q2 : memB bound s with
    | true =>
     rw [q2] at hrep hc
     simp only [if_true] at hrep
     have fin2 := keep hrep
     generalize strRows ((l.take k).map (replS to bound) ++ l.drop k) = R at i4 hr
     repeat' (first | refine a_seq fun K hK => ?_ | (refine a_regionS ?_; simp (maxSteps := 2000000) only [Ty.w, simprocAttr, g1, g2, g7, g14, g15, g16, hd, i4, hr, hlt, hv, hmf]) | (refine a_skip ?_; try simp only [pst0, simprocAttr]) | (refine a_cond _ (by (try simp (maxSteps := 2000000) only [Ty.w, simprocAttr, g1, g2, g7, g14, g15, g16, hd, i4, hr, hlt, hv, hmf]); rfl) (fun hb => ?_) (fun hb => ?_) <;> (try simp only [hb0, decide_eq_true_eq, decide_eq_false_iff_not, simprocAttr] at hb) <;> (try (exfalso; omega))) | (refine hK _ _ ?_; clear hK; try simp only [pst0, simprocAttr]))
     refine owp_useQ (hc _) (by (try simp only [Ty.w, simprocAttr, g1, g2, g7, g14, g15, g16, Bool.not_true]); try rfl) ?_; simp (maxSteps := 2000000) only [Ty.w, simprocAttr, g1, g2, g7, g14, g15, g16, Bool.not_true]
     repeat' (first | (refine a_block ?_) | (refine a_regionS ?_; simp (maxSteps := 2000000) only [Ty.w, simprocAttr, g1, g2, g7, g14, g15, g16, w7, Bool.not_true]) | (refine a_skip ?_; try simp only [pst0, simprocAttr]) | (refine hK _ _ ?_; clear hK; try simp only [pst0, simprocAttr]))
     exact ⟨l.length - (k + 1), by omega, k + 1, by simp, by omega, rfl, hg, fin2⟩
    | false =>
     rw [q2] at hrep hc
     simp only [Bool.false_eq_true, if_false] at hrep
     have fin2 := put t hrep
     generalize strRows ((l.take k).map (replS to bound) ++ l.drop k) = R at i4 hr fin2
     repeat' (first | refine a_seq fun K hK => ?_ | (refine a_regionS ?_; simp (maxSteps := 2000000) only [Ty.w, simprocAttr, g1, g2, g7, g14, g15, g16, hd, i4, hr, hlt, hv, hmf]) | (refine a_skip ?_; try simp only [pst0, simprocAttr]) | (refine a_cond _ (by (try simp (maxSteps := 2000000) only [Ty.w, simprocAttr, g1, g2, g7, g14, g15, g16, hd, i4, hr, hlt, hv, hmf]); rfl) (fun hb => ?_) (fun hb => ?_) <;> (try simp only [hb0, decide_eq_true_eq, decide_eq_false_iff_not, simprocAttr] at hb) <;> (try (exfalso; omega))) | (refine hK _ _ ?_; clear hK; try simp only [pst0, simprocAttr]))
     refine owp_useQ (hc _) (by (try simp only [Ty.w, simprocAttr, g1, g2, g7, g14, g15, g16, Bool.not_false]); try rfl) ?_; simp (maxSteps := 2000000) only [Ty.w, simprocAttr, g1, g2, g7, g14, g15, g16, Bool.not_false]
     repeat' (first | (refine a_block ?_) | ((first | refine a_regionS ?_ | refine a_region (fun K hK => ?_)); simp (maxSteps := 2000000) only [Ty.w, simprocAttr, g1, g2, g7, g14, g15, g16, w7, i4, hr, hlt, putC, Bool.not_false]) | (refine hK _ _ ?_; clear hK; try simp only [pst0, simprocAttr]))
     exact ⟨l.length - (k + 1), by omega, k + 1, by simp, by omega, rfl, hg.set i1 _, fin2⟩
  ·have hd : decide ((k : Int) < (l.length : Int)) = false := by simp; omega
   have hke : k = l.length := by omega
   subst hke
   rw [List.take_length, List.drop_length, List.append_nil] at tl
   repeat' (first | refine a_seq fun K hK => ?_ | ((first | refine a_regionS ?_ | refine a_ret ?_); simp (maxSteps := 2000000) only [Ty.w, simprocAttr, g1, g2, g7, g14, g15, g16, hd]) | (refine a_exit ?_; try simp only [pst0, simprocAttr]) | (refine a_cond _ (by (try simp (maxSteps := 2000000) only [Ty.w, simprocAttr, g1, g2, g7, g14, g15, g16, hd]); rfl) (fun hb => ?_) (fun hb => ?_) <;> (try simp only [hb0, decide_eq_true_eq, decide_eq_false_iff_not, simprocAttr] at hb) <;> (try (exfalso; omega))) | ((first | refine hK _ _ ?_ | (clear hK; refine hK _ _ ?_)); clear hK; try simp only [pst0, simprocAttr]))
   exact ⟨tl_frzS tl, hg⟩
theorem inner_g {a b : ByteArray} {c e f : PV} {params : List Pm} {bound : List ByteArray} (hc : c.cells = [c] ∧ oneC c = true) (he : e.cells = [e] ∧ oneC e = true) (hf : f.cells = [f] ∧ oneC f = true) (hb : bound.length + params.length ≤ 1099511627776) (h : Heap) :
  PCall Try.prog 129 [.agg [sPV a, sPV b, c, .imm 2 (pmRows params), e, f], .imm 1 (strRows bound)] h fun r h' => r = .imm 1 (strRows (bound ++ params.map Pm.name)) ∧ h' = h := by
 refine PCall.frz Ty.hb_129 ?_
 have hlP := pmRows_len params
 refine pcall_body (ow := fun _ => false) (wf := fun _ => false) Ty.mixed Try.func129 rfl Ty.hb_129 (by rw [Try.ntmps129]; simp) ?_
 rw [Try.ntmps129, Try.results129]
 obtain ⟨hc1, hc2⟩ := hc
 obtain ⟨he1, he2⟩ := he
 obtain ⟨hf1, hf2⟩ := hf
 repeat' (first | refine a_seq fun K hK => ?_ | (refine a_regionS ?_; simp (maxSteps := 2000000) only [Ty.w, simprocAttr, hc1, hc2, he1, he2, hf1, hf2]) | (refine hK _ _ ?_; clear hK; try simp only [pst0, simprocAttr]))
 refine owp_useL (cloneS_c (l := bound) (by omega) _) (by (try simp only [Ty.w, simprocAttr]); try rfl) ?_
 rintro r h1 ⟨hg1, tl1⟩
 simp (maxSteps := 2000000) only [Ty.w, simprocAttr, Ty.all]
 repeat' (first | refine a_seq fun K hK => ?_ | (refine a_block ?_) | (refine a_regionS ?_; simp (maxSteps := 2000000) only [Ty.w, simprocAttr, hlP]) | (refine hK _ _ ?_; clear hK; try simp only [pst0, simprocAttr]))
 refine a_loop (fun m S h' => S 11 = .imm 2 (pmRows params) ∧ S 12 = .sc (.int .i64 params.length) ∧ ∃ (k : Nat) (o : PV), S 13 = .sc (.int .i64 k) ∧ S 5 = o ∧ k ≤ params.length ∧ m = params.length - k ∧ Grow h h' ∧ Tl h' h.next 1 o (strRows (bound ++ (params.take k).map Pm.name))) params.length ?_ ?_
 ·simp only [Ty.w, simprocAttr]
  exact ⟨0, r, rfl, rfl, by omega, rfl, hg1, by simpa using tl1⟩
 ·clear hg1 tl1
  rintro m S h' ⟨g11, g12, k, o, g13, g5, hk, rfl, hg, tl⟩
  by_cases hlt : k < params.length
  ·have hd : decide ((k : Int) < (params.length : Int)) = true := by simp; omega
   have w7 : IntKind.i64.wrap ((k : Int) + 1) = k + 1 := by rw [wrap64 (by omega) (by omega)]
   obtain ⟨p, hx⟩ : ∃ p, params[k]? = some p := ⟨_, List.getElem?_eq_getElem hlt⟩
   have hr := pmRows_get hx
   have hR : strRows (bound ++ (params.take (k + 1)).map Pm.name) = strRows (bound ++ (params.take k).map Pm.name) ++ [[sPV p.name]] := by
    rw [List.take_add_one, hx]; simp [strRows]
   have hlen : (strRows (bound ++ (params.take k).map Pm.name)).length = bound.length + k := by rw [strRows_len]; simp; omega
   have tl2 := tl.up (h' := (h'.new (.arr 2 [[.sc (.string ⟨#[]⟩), .sc (.string ⟨#[]⟩)]])).set h'.next (.arr 2 [[sPV p.name, sPV p.type]])) (by simp [Heap.new, Heap.set]) (fun j _ hj => by simp only [Heap.new, Heap.set]; rw [if_neg (by omega), if_neg (by omega)])
   have hg2 : Grow h ((h'.new (.arr 2 [[.sc (.string ⟨#[]⟩), .sc (.string ⟨#[]⟩)]])).set h'.next (.arr 2 [[sPV p.name, sPV p.type]])) := (hg.new _).set hg.le _
   generalize strRows (bound ++ (params.take k).map Pm.name) = R at tl tl2 hR hlen
   obtain ⟨H, t1, t2, t3, t4, t5⟩ := tl2.tail
   have hbb : (bound.length + k + 1) * 16 ≤ 140737488355328 := by omega
   repeat' (first | refine a_seq fun K hK => ?_ | ((first | refine a_regionS ?_ | refine a_region (fun K hK => ?_)); simp (maxSteps := 2000000) only [Ty.w, simprocAttr, g11, g12, g13, g5, hd, hr, hlP]) | (refine a_skip ?_; try simp only [pst0, simprocAttr]) | (refine a_cond _ (by (try simp (maxSteps := 2000000) only [Ty.w, simprocAttr, g11, g12, g13, g5, hd, hr, hlP]); rfl) (fun hb => ?_) (fun hb => ?_) <;> (try simp only [hb0, decide_eq_true_eq, decide_eq_false_iff_not, simprocAttr] at hb) <;> (try (exfalso; omega))) | (refine hK _ _ ?_; clear hK; try simp only [pst0, simprocAttr]))
   repeat' (first | (refine a_regionS ?_; simp (maxSteps := 2000000) only [Ty.w, simprocAttr, g11, g12, g13, g5, w7, t1, t2, hlen, hbb, nsucc]) | (refine hK _ _ ?_; clear hK; try simp only [pst0, simprocAttr]) | (rw [if_pos]; rotate_left 1; omega; simp (maxSteps := 2000000) only [Ty.w, simprocAttr, g11, g12, g13, g5, w7, t1, t2, hlen, hbb, nsucc]))
   have hkp := t5 h ⟨hg2.le, hg2.old⟩ (Nat.le_refl _)
   have hgH : Grow h H := ⟨hkp.1, hkp.2⟩
   have t3' : H.next = h'.next + 1 := by rw [t3]; simp [Heap.new, Heap.set]
   rw [← hR]
   exact ⟨params.length - (k + 1), by omega, k + 1, .own H.next 0 (bound.length + k + 1), by simp, by first | rfl | rw [t3'], by omega, rfl, hgH.new _, Tl.grow hkp.1 (by rw [strRows_len]; simp; omega)⟩
  ·have hd : decide ((k : Int) < (params.length : Int)) = false := by simp; omega
   have hke : k = params.length := by omega
   subst hke
   rw [List.take_length] at tl
   repeat' (first | refine a_seq fun K hK => ?_ | ((first | refine a_regionS ?_ | refine a_ret ?_); simp (maxSteps := 2000000) only [Ty.w, simprocAttr, g11, g12, g13, g5, hd]) | (refine a_exit ?_; try simp only [pst0, simprocAttr]) | (refine a_cond _ (by (try simp (maxSteps := 2000000) only [Ty.w, simprocAttr, g11, g12, g13, g5, hd]); rfl) (fun hb => ?_) (fun hb => ?_) <;> (try simp only [hb0, decide_eq_true_eq, decide_eq_false_iff_not, simprocAttr] at hb) <;> (try (exfalso; omega))) | ((first | refine hK _ _ ?_ | (clear hK; refine hK _ _ ?_)); clear hK; try simp only [pst0, simprocAttr]))
   exact ⟨tl_frzS tl, hg⟩
end Go.Proofs.Ytjlkapgpjamnkaa
namespace Go.Proofs.Ytjlkapgpjamnkaa
open Go.AM
set_option maxHeartbeats 4000000
set_option maxRecDepth 20000
def exprs2 : List Sx → List Ex × Int
 | [a, b] => (match exprP a with
  | (ea, ca) => bif ca == 0 then (match exprP b with
   | (eb, cb) => bif cb == 0 then ([ea, eb], 0) else ([], cb)) else ([], ca))
 | _ => ([], 2)
theorem frz_agg {n : Nat} {H : Heap} {a b : List PV} (h : FrzL n H a b) : FrzTo n H (.agg a) (.agg b) := by
 unfold FrzTo
 exact ⟨_, rfl, h⟩
theorem frz_nilslice {n z : Nat} {H : Heap} : FrzTo n H (.imm z []) (.sc (.slice none 0 0)) := by
 unfold FrzTo; exact .inr (.inl ⟨rfl, .inr rfl⟩)
end Go.Proofs.Ytjlkapgpjamnkaa
namespace Go.Proofs.Ytjlkapgpjamnkaa
open Go.AM
set_option maxHeartbeats 4000000
set_option maxRecDepth 20000
theorem mixG_get {α : Type} {g : α → α} {l : List α} {k : Nat} {s : α} (h : l[k]? = some s) : ((l.take k).map g ++ l.drop k)[k]? = some s ∧ ((l.take k).map g ++ l.drop k).set k (g s) = (l.take (k + 1)).map g ++ l.drop (k + 1) := by
 have hk : k < l.length := (List.getElem?_eq_some_iff.1 h).1
 have h1 : ((l.take k).map g).length = k := by simp; omega
 have h2 : l.drop k = s :: l.drop (k + 1) := by
  obtain ⟨_, h4⟩ := List.getElem?_eq_some_iff.1 h
  rw [List.drop_eq_getElem_cons hk, h4]
 constructor
 ·rw [List.getElem?_append_right (by omega), h1, h2]; simp
 ·rw [List.set_append_right _ _ (by omega), h1, h2, List.take_add_one, h]; simp
theorem exRows_set (l : List Ex) (k : Nat) (e : Ex) : (Ex.rows l).set k e.cells = Ex.rows (l.set k e) := by simp [Ex.rows_map, List.map_set]
theorem shapedE_len {op name : ByteArray} {v : Int} {args : List ByteArray} {kids : List Ex} (h : shapedE (.mk op name v args kids) = true) : kids.length ≤ 2 := by
 unfold shapedE at h
 split at h
 ·simp only [Bool.and_eq_true, List.isEmpty_iff] at h
  rw [h.1.2]; simp
 ·split at h
  ·simp only [Bool.and_eq_true, List.isEmpty_iff] at h
   rw [h.1.1.2]; simp
  ·split at h
   ·simp only [Bool.and_eq_true] at h
    obtain ⟨_, h⟩ := h
    split at h
    ·simp
    ·simp at h
   ·simp at h
theorem bindE_c : ∀ e : Ex, e.small → shapedE e = true → ∀ {bound : List ByteArray} {T : PV} {to : ByteArray → Option ByteArray}, bound.length ≤ bigN → ∀ {h : Heap}, MapAt h T to →
  PCall Try.prog 83 [.agg e.cells, T, .imm 1 (strRows bound)] h fun r h' => r = .agg (bindEx to bound e).cells ∧ h' = h := by
 refine Ex.ind ?_
 intro op name v args kids ih hsm hsh bound T to hb h hT
 simp only [Ex.small] at hsm
 obtain ⟨hal, hks⟩ := hsm
 rw [Ex.smalls_iff] at hks
 have hkl := shapedE_len hsh
 have hke := shapedE_kid hsh
 have hlK := Ex.rows_len kids
 refine PCall.frz Ty.hb_83 ?_
 have hrp := fun {H : Heap} (hg : Grow h H) => replaced_c (l := args) (bound := bound) hal hb (hT.grow hg)
 have hB : bindEx to bound (.mk op name v args kids) = .mk op name v (args.map (replS to bound)) (kids.map (bindEx to bound)) := by simp only [bindEx, bindExs_map]
 rw [hB]
 clear hB
 generalize args.map (replS to bound) = args2 at hrp
 simp only [Ex.cells]
 refine pcall_body (ow := fun t => t == 3) (wf := fun _ => false) Ty.mixed Try.func83 rfl Ty.hb_83 (by rw [Try.ntmps83]; simp) ?_
 rw [Try.ntmps83, Try.results83]
 repeat' (first | refine a_seq fun K hK => ?_ | (refine a_regionS ?_; simp (maxSteps := 2000000) only [Ty.w, simprocAttr, nsucc]) | (refine hK _ _ ?_; clear hK; try simp only [pst0, simprocAttr]))
 refine owp_useQ (hrp (((Grow.refl h).new _).new _)) (by (try simp only [Ty.w, simprocAttr, nsucc]); try rfl) ?_; simp (maxSteps := 2000000) only [Ty.w, simprocAttr, nsucc]
 repeat' (first | refine a_seq fun K hK => ?_ | (refine a_regionS ?_; simp (maxSteps := 2000000) only [Ty.w, simprocAttr, nsucc]) | (refine hK _ _ ?_; clear hK; try simp only [pst0, simprocAttr]))
 refine owp_useL (cloneE_c (l := kids) (by omega) _) (by (try simp only [Ty.w, simprocAttr, nsucc]); try rfl) ?_
 rintro r h1 ⟨hg1, tl1⟩
 have k0 : h1.obj h.next = some (.arr 5 [[sPV op, sPV name, .sc (.int .i64 v), .imm 1 (strRows args2), .imm 5 (Ex.rows kids)]]) := by
  rw [hg1.old _ (by simp [Heap.new, Heap.set]; omega)]; simp [Heap.new, Heap.set]
 have k1 : h1.obj (h.next + 1) = some (.arr 5 [[.sc (.string ⟨#[]⟩), .sc (.string ⟨#[]⟩), .sc (.int .i64 0), .sc (.slice none 0 0), .sc (.slice none 0 0)]]) := by
  rw [hg1.old _ (by simp [Heap.new, Heap.set])]; simp [Heap.new, Heap.set]
 have hn1 : h.next + 2 ≤ h1.next := by have := hg1.le; simp [Heap.new, Heap.set] at this; omega
 have hgA : Grow h h1 := ((((Grow.refl h).new _).new _).set (Nat.le_refl _) _).trans hg1
 have tlA : Tl h1 (h.next + 2) 5 r (Ex.rows kids) := Tl.low tl1 (by simp [Heap.new, Heap.set])
 clear hg1 tl1 hrp
 have hpc : r.cells = [r] ∧ oneC r = true := by
  rcases tlA with ⟨_, rfl | rfl⟩ | ⟨_, _, _, rfl, _⟩ <;> exact ⟨rfl, rfl⟩
 have hsl := tlA.sl
 have hlo : ∀ H, lenP H r = some kids.length := fun H => by rw [lenP_sl hsl H, hlK]
 have hlk := hsl.lk
 obtain ⟨hp1, hp2⟩ := hpc
 simp (maxSteps := 2000000) only [Ty.w, simprocAttr, Ty.all, k0, nsucc, hp1, hp2, putC, hlo, hlk]
 repeat' (first | refine a_seq fun K hK => ?_ | (refine a_block ?_) | (refine a_regionS ?_; simp (maxSteps := 2000000) only [Ty.w, simprocAttr, k0, hp1, hp2, hlo, hlk, putC]) | (refine hK _ _ ?_; clear hK; try simp only [pst0, simprocAttr]))
 refine a_loop (fun m S h' => S 1 = T ∧ S 2 = .imm 1 (strRows bound) ∧ S 3 = .ptr h.next 0 0 ∧ S 6 = .ptr (h.next + 1) 0 0 ∧ S 20 = r ∧ S 21 = .sc (.int .i64 kids.length) ∧ ∃ k : Nat, S 22 = .sc (.int .i64 k) ∧ k ≤ kids.length ∧ m = kids.length - k ∧ Grow h h' ∧ h.next + 2 ≤ h'.next ∧
  h'.obj h.next = some (.arr 5 [[sPV op, sPV name, .sc (.int .i64 v), .imm 1 (strRows args2), r]]) ∧ h'.obj (h.next + 1) = some (.arr 5 [[.sc (.string ⟨#[]⟩), .sc (.string ⟨#[]⟩), .sc (.int .i64 0), .sc (.slice none 0 0), .sc (.slice none 0 0)]]) ∧
  Tl h' (h.next + 2) 5 r (Ex.rows ((kids.take k).map (bindEx to bound) ++ kids.drop k))) kids.length ?_ ?_
 ·simp only [Ty.w, simprocAttr]
  refine ⟨0, rfl, by omega, rfl, hgA.set (Nat.le_refl _) _, hn1, ?_, ?_⟩
  ·first | exact k1 | (rw [if_neg (by omega)]; exact k1)
  ·simpa using tlA.up (h' := h1.set h.next _) (Nat.le_refl _) fun j hj _ => by simp only [Heap.set]; rw [if_neg (by omega)]
 ·clear hgA hn1 k0 k1 tlA hsl hlo hlk
  rintro m S h' ⟨g1, g2, g3, g6, g20, g21, k, g22, hk, rfl, hg, hn, o1, o2, tl⟩
  by_cases hlt : k < kids.length
  ·have hd : decide ((k : Int) < (kids.length : Int)) = true := by simp; omega
   have w7 : IntKind.i64.wrap ((k : Int) + 1) = k + 1 := by rw [wrap64 (by omega) (by omega)]
   obtain ⟨x, hx⟩ : ∃ x, kids[k]? = some x := ⟨_, List.getElem?_eq_getElem hlt⟩
   have hmem := List.mem_of_getElem? hx
   have hc := fun {H : Heap} (hgH : Grow h H) => ih x hmem (hks x hmem) (hke x hmem) hb (hT.grow hgH)
   obtain ⟨m1, m2⟩ := mixG_get (g := bindEx to bound) hx
   have hlen : ((kids.take k).map (bindEx to bound) ++ kids.drop k).length = kids.length := by simp; omega
   have hlen2 : ((kids.take (k + 1)).map (bindEx to bound) ++ kids.drop (k + 1)).length = kids.length := by simp; omega
   have hr := Ex.rows_get m1
   obtain ⟨id, i1, i2, rfl, i4⟩ : ∃ id, h.next + 2 ≤ id ∧ id < h'.next ∧ r = .own id 0 kids.length ∧ h'.obj id = some (.arr 5 (Ex.rows ((kids.take k).map (bindEx to bound) ++ kids.drop k))) := by
    rcases tl with ⟨hn0, _⟩ | ⟨id, i1, i2, i3, i4⟩
    ·have := congrArg List.length hn0
     rw [Ex.rows_len, hlen] at this
     simp only [List.length_nil] at this; omega
    ·rw [Ex.rows_len, hlen] at i3; exact ⟨id, i1, i2, i3, i4⟩
   clear tl hp1 hp2
   have hset : (Ex.rows ((kids.take k).map (bindEx to bound) ++ kids.drop k)).set k (bindEx to bound x).cells = Ex.rows ((kids.take (k + 1)).map (bindEx to bound) ++ kids.drop (k + 1)) := by rw [exRows_set, m2]
   have hrl : (Ex.rows ((kids.take (k + 1)).map (bindEx to bound) ++ kids.drop (k + 1))).length = kids.length := by rw [Ex.rows_len, hlen2]
   generalize Ex.rows ((kids.take k).map (bindEx to bound) ++ kids.drop k) = R at i4 hr hset
   generalize bindEx to bound x = y at hc hset
   obtain ⟨xo, xn, xv, xa, xk⟩ := x
   obtain ⟨yo, yn, yv, ya, yk⟩ := y
   simp only [Ex.cells] at hr hc hset
   have e1 : (h.next = h'.next) = False := by simp; omega
   have e2 : (id = h'.next) = False := by simp; omega
   have hgX : ∀ o o2, Grow h ((h'.new o).set h'.next o2) := fun o o2 => (hg.new _).set hg.le _
   have W := And.intro g1 (And.intro g2 (And.intro g3 (And.intro g6 (And.intro g20 (And.intro g21 (And.intro g22 (And.intro i4 (And.intro hr (And.intro hlt (And.intro o1 (And.intro e1 e2)))))))))))
   repeat' (first | refine a_seq fun K hK => ?_ | ((first | refine a_regionS ?_ | refine a_draw (by decide +kernel) (fun K hK => ?_)); simp (maxSteps := 2000000) only [Ty.w, simprocAttr, W, hd]) | (refine a_skip ?_; try simp only [pst0, simprocAttr]) | (refine a_cond _ (by (try simp (maxSteps := 2000000) only [Ty.w, simprocAttr, W, hd]); rfl) (fun hb => ?_) (fun hb => ?_) <;> (try simp only [hb0, decide_eq_true_eq, decide_eq_false_iff_not, simprocAttr] at hb) <;> (try (exfalso; omega))) | (refine hK _ _ ?_; clear hK; try simp only [pst0, simprocAttr]))
   (first | refine a_dcall0 (hc (hgX _ _)) (by (try simp only [Ty.w, simprocAttr, W]); try rfl) ?_ | refine a_dcallA (hc (hgX _ _)) (by (try simp only [Ty.w, simprocAttr, W]); try rfl) (by simp only [Ty.w, simprocAttr, W]; try trivial) ?_); simp (maxSteps := 2000000) only [Ty.w, simprocAttr, W, Option.getD_some]
   repeat' (first | (refine a_regionS ?_; simp (maxSteps := 2000000) only [Ty.w, simprocAttr, W, w7, putC, hset]) | (refine hK _ _ ?_; clear hK; try simp only [pst0, simprocAttr]) | (with_reducible refine a_past2 (by simp only [List.forall_mem_cons, Ty.w, simprocAttr, g1, g2, g3, g6, g20, g21, g22, i4, hr, hlt, o1, e1, e2, w7, putC, hset]; (repeat' apply And.intro) <;> first | trivial | exact .inl (by decide +kernel)) ?_; try simp (maxSteps := 2000000) only [Ty.w, simprocAttr, W, w7, putC, hset]))
   refine ⟨kids.length - (k + 1), by omega, k + 1, by simp, by omega, rfl, (hgX _ _).set (by omega) _, by first | omega | (simp [Heap.new, Heap.set]; omega), ?_, ?_, ?_⟩
   ·rw [if_neg (by omega)]
   ·rw [if_neg (by omega), if_neg (by omega), if_neg (by omega)]; exact o2
   ·exact .inr ⟨id, i1, by first | omega | (simp [Heap.new, Heap.set]; omega), by rw [hrl], by simp [Heap.set]⟩
  ·have hd : decide ((k : Int) < (kids.length : Int)) = false := by simp; omega
   have hke2 : k = kids.length := by omega
   subst hke2
   rw [List.take_length, List.drop_length, List.append_nil] at tl
   repeat' (first | refine a_seq fun K hK => ?_ | ((first | refine a_regionS ?_ | refine a_ret ?_); simp (maxSteps := 2000000) only [Ty.w, simprocAttr, g1, g2, g3, g6, g20, g21, g22, hd, o1, o2, hp1, hp2]) | (refine a_exit ?_; try simp only [pst0, simprocAttr]) | (refine a_cond _ (by (try simp (maxSteps := 2000000) only [Ty.w, simprocAttr, g1, g2, g3, g6, g20, g21, g22, hd, o1, o2, hp1, hp2]); rfl) (fun hb => ?_) (fun hb => ?_) <;> (try simp only [hb0, decide_eq_true_eq, decide_eq_false_iff_not, simprocAttr] at hb) <;> (try (exfalso; omega))) | ((first | refine hK _ _ ?_ | (clear hK; refine hK _ _ ?_)); clear hK; try simp only [pst0, simprocAttr]))
   refine ⟨frz_agg ?_, hg.set (by omega) _⟩
   have tl3 : Tl (h'.set (h.next + 1) (.arr 5 [[sPV op, sPV name, .sc (.int .i64 v), .imm 1 (strRows args2), r]])) (h.next + 2) 5 r (Ex.rows (kids.map (bindEx to bound))) := tl.up (Nat.le_refl _) fun j hj _ => by simp only [Heap.set]; rw [if_neg (by omega)]
   have h1 := tl_frzE (show h.next ≤ h.next + 2 by omega) tl3
   unfold FrzL; refine ⟨by simp only [FrzTo], ?_⟩
   unfold FrzL; refine ⟨by simp only [FrzTo], ?_⟩
   unfold FrzL; refine ⟨by simp only [FrzTo], ?_⟩
   unfold FrzL; refine ⟨by simp only [FrzTo]; exact .inl ⟨trivial, strs_in _ _⟩, ?_⟩
   unfold FrzL; refine ⟨h1, ?_⟩
   simp only [FrzL]
end Go.Proofs.Ytjlkapgpjamnkaa
namespace Go.AM
open Go.ChangeShapes Go.WideShapes
def partsT (P : Program) (t : TypeId) : List (Nat × TypeId) := match P.underlying t with
  | some (.struct fs) => fs.toList.map fun f => (f.offset, f.type)
  | some (.array n e) => (List.range n).map fun i => (i * P.cellsOf e, e)
  | _ => []
def inRow (P : Program) (e : Nat) : Nat → List (Nat × TypeId) → Bool
  | o, [] => o == e
  | o, p :: l => p.1 == o && inRow P e (o + P.cellsOf p.2) l
def Arg (P : Program) : Nat → TypeId → List PV → Prop
  | 0, _, _ => False
  | f + 1, t, ps => match P.underlying t with
    | some .bool => ∃ b, ps = [.sc (.bool b)]
    | some (.int k) => ∃ n, (Lit.int k n).wf = true ∧ ps = [.sc (.int k n)]
    | some .string => ∃ s : ByteArray, s.size ≤ reachBytes ∧ ps = [.sc (.string s)]
    | some (.slice e) => ∃ rows, ps = [.imm (P.cellsOf e) rows] ∧ rows.length * P.bytesOf e ≤ reachBytes ∧ rows.length ≤ maxLen ∧ ∀ r ∈ rows, r.length = P.cellsOf e ∧ Arg P f e r
    | some (.struct _) => ps.length = P.cellsOf t ∧ ∀ p ∈ partsT P t, Arg P f p.2 ((ps.drop p.1).take (P.cellsOf p.2))
    | some (.array _ _) => ps.length = P.cellsOf t ∧ ∀ p ∈ partsT P t, Arg P f p.2 ((ps.drop p.1).take (P.cellsOf p.2))
    | _ => False
section
variable {H : Type} {enc : TypeId × Value → H} {P : Program} {w : World} {sp : Nat → Bool} {held : Bool}
def RA (w : World) (ps : List PV) (cs : List Value) : Prop := (∀ v ∈ cs, v.oneCell' = true) ∧ ∀ β n, RepL β n (fun b => b < w.heap.size) w ps cs
theorem RA.len {ps : List PV} {cs : List Value} (h : RA w ps cs) : ps.length = cs.length := (h.2 ⟨fun _ => ⟨none, 0, 0, 0⟩, fun _ => False⟩ 0).len
theorem RA.append {ps ps' : List PV} {cs cs' : List Value} (h : RA w ps cs) (k : RA w ps' cs') : RA w (ps ++ ps') (cs ++ cs') :=
  ⟨fun v hv => by exact (List.mem_append.1 hv).elim (h.1 v) (k.1 v), fun β n => (h.2 β n).append (k.2 β n)⟩
theorem inRow_le {e : Nat} : (l : List (Nat × TypeId)) → (o : Nat) → inRow P e o l = true → o ≤ e ∧ ∀ p ∈ l, o ≤ p.1 ∧ p.1 + P.cellsOf p.2 ≤ e
  | [], o, h => by simp [inRow] at h; simp [h]
  | p :: l, o, h => by
    simp only [inRow, Bool.and_eq_true, beq_iff_eq] at h
    obtain ⟨h1, h2⟩ := inRow_le l _ h.2
    refine ⟨by omega, fun q hq => ?_⟩
    rcases List.mem_cons.1 hq with rfl | hq
    · omega
    · have := h2 q hq; omega
theorem exists_list {α : Type} {R : Nat → α → Prop} : (n : Nat) → (∀ i, i < n → ∃ x, R i x) → ∃ l : List α, l.length = n ∧ ∀ i x, l[i]? = some x → R i x
  | 0, _ => ⟨[], rfl, by simp⟩
  | n + 1, h => by
    obtain ⟨l, h1, h2⟩ := exists_list n (fun i hi => h i (by omega))
    obtain ⟨x, hx⟩ := h n (by omega)
    refine ⟨l ++ [x], by simp [h1], fun i y hy => ?_⟩
    rw [List.getElem?_append] at hy
    split at hy
    · exact h2 i y hy
    · rename_i hi
      have : i = n := by
        have := (List.getElem?_eq_some_iff.1 hy).1
        simp at this; omega
      subst this
      rw [h1] at hy
      simp at hy
      subst hy; exact hx
theorem weightsAll_mem {e : TypeId} {n : Nat} : {ds : List (DataW H)} → {i : Nat} → {d : DataW H} → ds[i]? = some d → n ∈ d.weights P e → n ∈ DataW.weightsAll P e ds
  | [], _, _, h, _ => by simp at h
  | d0 :: ds, 0, d, h, hn => by
    simp at h; subst h
    simp only [DataW.weightsAll, List.mem_append]; exact .inl hn
  | d0 :: ds, i + 1, d, h, hn => by
    simp at h
    simp only [DataW.weightsAll, List.mem_append]; exact .inr (weightsAll_mem h hn)
theorem sc_RA {v : Value} (h : v.oneCell' = true) : RA w [.sc v] [v] :=
  ⟨fun u hu => by simp at hu; subst hu; exact h, fun β n => by simp only [RepL, Rep]; exact ⟨trivial, trivial⟩⟩
end
end Go.AM
namespace Go.AM
open Go.ChangeShapes Go.WideShapes
section
variable {H : Type} {enc : TypeId × Value → H} {P : Program} {w : World} {sp : Nat → Bool} {held : Bool}
def covC (P : Program) (Ts : List TypeId) : Bool := Ts.all fun t => match P.underlying t with
  | some .bool => true
  | some (.int _) => true
  | some .string => true
  | some (.slice e) => decide (0 < P.cellsOf e) && Ts.contains e
  | some (.struct _) => inRow P (P.cellsOf t) 0 (partsT P t) && (partsT P t).all fun p => Ts.contains p.2
  | some (.array _ _) => inRow P (P.cellsOf t) 0 (partsT P t) && (partsT P t).all fun p => Ts.contains p.2
  | _ => false
end
end Go.AM
namespace Go.AM
open Go.ChangeShapes Go.WideShapes
open Go.Proofs.Ytjlkapgpjamnkaa
mutual
def PV.bulk : PV → Nat
  | .sc (.string s) => s.size + 1
  | .imm _ rows => PV.bulkR rows + 1
  | _ => 1
def PV.bulkL : List PV → Nat
  | [] => 0
  | p :: ps => p.bulk + PV.bulkL ps
def PV.bulkR : List (List PV) → Nat
  | [] => 0
  | r :: rs => PV.bulkL r + PV.bulkR rs
end
theorem PV.bulkL_append : ∀ l m : List PV, PV.bulkL (l ++ m) = PV.bulkL l + PV.bulkL m
  | [], m => by simp [PV.bulkL]
  | p :: l, m => by simp only [List.cons_append, PV.bulkL, PV.bulkL_append l m]; omega
theorem List.getElem?_range_some {k i j : Nat} (h : (List.range k)[i]? = some j) : i < k ∧ i = j := by
  have h1 := (List.getElem?_eq_some_iff.1 h).1
  simp at h1
  rw [List.getElem?_range h1] at h
  simp at h
  exact ⟨h1, h⟩
section
variable {H : Type} {enc : TypeId × Value → H} {P : Program} {w : World} {sp : Nat → Bool} {held : Bool}
theorem bulkR_le : ∀ (rows : List (List PV)) (ds : List (DataW H)), rows.length = ds.length → (∀ (i : Nat) (r : List PV), rows[i]? = some r → ∃ d, ds[i]? = some d ∧ PV.bulkL r ≤ Rows.uptoBulk d) → PV.bulkR rows ≤ Rows.uptoBulkAll ds
  | [], _, _, _ => by simp [PV.bulkR]
  | r :: rows, [], h, _ => by simp at h
  | r :: rows, d :: ds, h, hb => by
    have h1 := bulkR_le rows ds (by simpa using h) fun i q hq => by simpa using hb (i + 1) q (by simpa using hq)
    obtain ⟨d', h2, h3⟩ := hb 0 r rfl
    simp at h2; subst h2
    simp only [PV.bulkR, Rows.uptoBulkAll]; omega
theorem parts_rep5 {c : Nat} {cs : List Value} : (l : List (Nat × TypeId)) → (ds : List (DataW H)) → (o : Nat) → inRow P cs.length o l = true →
    (∀ (i : Nat) (p : Nat × TypeId), l[i]? = some p → ∃ d, ds[i]? = some d ∧ ∃ ps, Arg P c p.2 ps ∧ RA w ps ((cs.drop p.1).take (P.cellsOf p.2)) ∧ PV.bulkL ps ≤ Rows.uptoBulk d) →
    ∃ ps, RA w ps (cs.drop o) ∧ (∀ p ∈ l, Arg P c p.2 ((ps.drop (p.1 - o)).take (P.cellsOf p.2))) ∧ PV.bulkL ps ≤ Rows.uptoBulkAll ds
  | [], ds, o, h, _ => by
    simp [inRow] at h
    refine ⟨[], ⟨?_, fun β n => ?_⟩, by simp, by simp [PV.bulkL]⟩
    · rw [List.drop_of_length_le (by omega)]; simp
    · rw [List.drop_of_length_le (by omega)]; simp [RepL]
  | p :: l, [], o, h, hp => by
    obtain ⟨d, hd, _⟩ := hp 0 p rfl
    simp at hd
  | p :: l, d :: ds, o, h, hp => by
    have hle := (inRow_le (p :: l) o h).2 p (by simp)
    simp only [inRow, Bool.and_eq_true, beq_iff_eq] at h
    obtain ⟨ps, h1, h2, h20⟩ := parts_rep5 l ds _ h.2 (fun i q hq => by simpa using hp (i + 1) q (by simpa using hq))
    obtain ⟨d', hd, ps0, h3, h4, h40⟩ := hp 0 p rfl
    simp at hd; subst hd
    have hl2 := (inRow_le l _ h.2).2
    have e0 : p.1 = o := h.1
    have l0 : ps0.length = P.cellsOf p.2 := by rw [h4.len, List.length_take, List.length_drop]; omega
    refine ⟨ps0 ++ ps, ?_, fun q hq => ?_, by rw [PV.bulkL_append]; simp only [Rows.uptoBulkAll]; omega⟩
    · have : cs.drop o = (cs.drop p.1).take (P.cellsOf p.2) ++ cs.drop (o + P.cellsOf p.2) := by
        rw [e0, ← List.drop_drop, List.take_append_drop]
      rw [this]
      exact h4.append h1
    · rcases List.mem_cons.1 hq with rfl | hq
      · rw [e0, Nat.sub_self, List.drop_zero, List.take_append_of_le_length (by omega), List.take_of_length_le (by omega)]
        exact h3
      · have h5 := hl2 q hq
        have : q.1 - o = ps0.length + (q.1 - (o + P.cellsOf p.2)) := by omega
        rw [this, ← List.drop_drop, List.drop_left]
        exact h2 q hq
theorem arg_rec5 {Ts : List TypeId} (hT : covC P Ts = true) : ∀ (fuel : Nat) (t : TypeId), Ts.contains t = true → ∀ (cs : List Value) (x : DataW H × List MemPlace), DataW.trod enc P w 0 sp held fuel t cs = some x → (∀ n ∈ x.1.weights P t, n ≤ reachBytes) →
    ∃ ps, Arg P fuel t ps ∧ RA w ps cs ∧ PV.bulkL ps ≤ Rows.uptoBulk x.1
  | 0, _, _, _, _, hx, _ => by simp [DataW.trod] at hx
  | c + 1, t, ht, cs, x, hx, hw => by
    have h := List.all_eq_true.1 hT t (by simpa using ht)
    split at h
    · rename_i hu
      obtain ⟨b, rfl, rfl⟩ := DataW.trod_bool hu hx
      refine ⟨[.sc (.bool b)], ?_, sc_RA rfl, by simp [PV.bulkL, PV.bulk, Rows.uptoBulk]⟩
      unfold Arg; rw [hu]; exact ⟨b, rfl⟩
    · rename_i k hu
      obtain ⟨n, rfl, rfl, hwf⟩ := DataW.trod_int hu hx
      refine ⟨[.sc (.int k n)], ?_, sc_RA rfl, by simp [PV.bulkL, PV.bulk, Rows.uptoBulk]⟩
      unfold Arg; rw [hu]; exact ⟨n, hwf, rfl⟩
    · rename_i hu
      obtain ⟨s, rfl, rfl, hs⟩ := DataW.trod_string hu hx
      refine ⟨[.sc (.string s)], ?_, sc_RA rfl, by have e : s.data.toList.length = s.size := by { rw [Array.length_toList]; try rfl }; simp only [PV.bulkL, PV.bulk, Rows.uptoBulk]; omega⟩
      unfold Arg; rw [hu]
      refine ⟨s, ?_, rfl⟩
      have := hw s.data.toList.length (by simp [DataW.weights])
      simpa using this
    · rename_i e hu
      simp only [Bool.and_eq_true, decide_eq_true_eq] at h
      obtain ⟨hpos, hcov⟩ := h
      rcases DataW.trod_slice hu hx with ⟨rfl, rfl⟩ | ⟨a, len, cap, elems, rest, n, hfu, rfl, rfl, hb, hl, hm, hlen, hel, hsp, hns⟩
      · refine ⟨[.imm (P.cellsOf e) []], ?_, ⟨fun v hv => ?_, fun β n => ?_⟩, by simp [PV.bulkL, PV.bulk, PV.bulkR, Rows.uptoBulk]⟩
        · unfold Arg; rw [hu]; exact ⟨[], rfl, by simp, by simp, by simp⟩
        · simp at hv; subst hv; rfl
        · simp only [RepL, Rep]
          exact ⟨⟨none, 0, rfl, Nat.le_refl _, Nat.zero_le _, .inl (by trivial)⟩, trivial⟩
      · obtain rfl : c = n := by omega
        have each : ∀ i, i < len → ∃ r : List PV, (r.length = P.cellsOf e ∧ Arg P c e r ∧ ∃ d, (elems.map (·.1))[i]? = some d ∧ PV.bulkL r ≤ Rows.uptoBulk d) ∧ ∃ ci, RA w r ci ∧ ci.length = P.cellsOf e ∧ ∀ j, j < P.cellsOf e → w.cell? ((a.add (i * P.cellsOf e)).add j) = ci[j]? := by
          intro i hi
          have h1 := hel i hi
          have h2 : elems[i]? = some (elems[i]'(by omega)) := List.getElem?_eq_getElem _
          rw [h2, Option.bind_eq_some_iff] at h1
          obtain ⟨ci, h3, h4⟩ := h1
          obtain ⟨_, h5, h6⟩ := World.cells?_some h3
          obtain ⟨r, h7, h8, h80⟩ := arg_rec5 hT c e hcov ci _ h4 (fun m hm => hw m (by
            simp only [DataW.weights, hu, List.mem_cons, List.mem_append]
            exact .inr (.inl (weightsAll_mem (i := i) (by rw [List.getElem?_map, h2]; try rfl) hm))))
          exact ⟨r, ⟨by rw [h8.len, h5], h7, _, by rw [List.getElem?_map, h2]; try rfl, h80⟩, ci, h8, h5, h6⟩
        obtain ⟨rows, hrl, hrows⟩ := exists_list len each
        refine ⟨[.imm (P.cellsOf e) rows], ?_, ⟨fun v hv => ?_, fun β m => ?_⟩, ?_⟩
        · unfold Arg; rw [hu]
          refine ⟨rows, rfl, ?_, by omega, fun r hr => ?_⟩
          · have := hw ((elems.map (·.1)).length * P.bytesOf e + (rest.map (·.1)).length * P.bytesOf e) (by
              simp only [DataW.weights, hu, List.mem_cons, Nat.add_mul, true_or])
            have h9 : rows.length = (elems.map (·.1)).length := by simp [hrl, hlen]
            rw [h9]
            exact Nat.le_trans (Nat.le_add_right _ _) this
          · obtain ⟨i, hi⟩ := List.getElem?_of_mem hr
            exact ⟨(hrows i r hi).1.1, (hrows i r hi).1.2.1⟩
        · simp at hv; subst hv; rfl
        · simp only [RepL, Rep]
          refine ⟨⟨some a, cap, by rw [hrl], by omega, hm, ?_⟩, trivial⟩
          by_cases h0 : len = 0
          · left; exact List.length_eq_zero_iff.1 (by omega)
          · right
            obtain ⟨_, _, c0, _, hc0, hcell0⟩ := each 0 (by omega)
            have h10 := hcell0 0 hpos
            rw [List.getElem?_eq_getElem (by omega)] at h10
            simp only [Nat.zero_mul, Addr.add, if_true] at h10
            have hs : a.spot = none := by
              unfold World.cell? at h10
              split at h10
              · split at h10
                · simp at h10
                · rename_i hsp; simpa using hsp
              · simp at h10
            have hblk : a.block < w.heap.size := by
              unfold World.cell? at h10
              split at h10
              · rename_i hh; exact (Array.getElem?_eq_some_iff.1 hh).1
              · simp at h10
            refine ⟨a.block, a.off, hblk, by cases a; simp only at hs; subst hs; rfl, ?_⟩
            rw [RepR_iff]
            intro i r hr
            obtain ⟨⟨g1, _⟩, ci, g2, g3, g4⟩ := hrows i r hr
            refine ⟨g1, ?_⟩
            rw [RepS_iff]
            intro j p hp
            obtain ⟨v, hv, hrep⟩ := (g2.2 β m).get hp
            have hj : j < P.cellsOf e := by rw [← g3]; exact (List.getElem?_eq_some_iff.1 hv).1
            refine ⟨v, ?_, g2.1 v (List.mem_of_getElem? hv), hrep⟩
            rw [← hv, ← g4 j hj]
            congr 1
            cases a
            simp only at hs; subst hs
            simp only [Addr.add]
            split <;> split <;> simp_all <;> omega
        · have hb5 := bulkR_le rows (elems.map (·.1)) (by simp [hrl, hlen]) fun i r hr => (hrows i r hr).1.2.2
          simp only [PV.bulkL, PV.bulk, Rows.uptoBulk]
          omega
    · rename_i fs hu
      simp only [Bool.and_eq_true, List.all_eq_true] at h
      obtain ⟨xs, n, hfu, rfl, hcl, hxl, hp⟩ := DataW.trod_struct hu hx
      obtain rfl : c = n := by omega
      have hpt : partsT P t = fs.toList.map fun f => (f.offset, f.type) := by unfold partsT; rw [hu]
      obtain ⟨ps, h1, h2, h30⟩ := parts_rep5 (w := w) (c := c) (cs := cs) (partsT P t) (xs.map (·.1)) 0 (by rw [hcl]; exact h.1) (fun i p hi => by
        have hcv := h.2 p (List.mem_of_getElem? hi)
        rw [hpt] at hi
        rw [List.getElem?_map, Option.map_eq_some_iff] at hi
        obtain ⟨f, hf, rfl⟩ := hi
        have hf' : fs[i]? = some f := by simpa using hf
        have hi' : i < xs.length := by
          rw [hxl]
          exact (Array.getElem?_eq_some_iff.1 hf').1
        have h3 := hp i f hf'
        rw [List.getElem?_eq_getElem hi'] at h3
        exact ⟨xs[i].1, by rw [List.getElem?_map, List.getElem?_eq_getElem hi']; try rfl, arg_rec5 hT c f.type hcv _ _ h3 (fun m hm => hw m (by
          simp only [DataW.weights, hu]
          exact DataW.weights_mem_each (j := i) (t := f.type) (d := xs[i].1) (by rw [List.getElem?_map, hf]; try rfl) (by rw [List.getElem?_map, List.getElem?_eq_getElem hi']; try rfl) m hm))⟩)
      refine ⟨ps, ?_, by simpa using h1, by simp only [Rows.uptoBulk]; omega⟩
      unfold Arg; rw [hu]
      exact ⟨by rw [h1.len, List.drop_zero, hcl], fun p hpm => by simpa using h2 p hpm⟩
    · rename_i k e hu
      simp only [Bool.and_eq_true, List.all_eq_true] at h
      obtain ⟨xs, n, hfu, rfl, hcl, hxl, hp⟩ := DataW.trod_array hu hx
      obtain rfl : c = n := by omega
      have hpt : partsT P t = (List.range k).map fun i => (i * P.cellsOf e, e) := by unfold partsT; rw [hu]
      obtain ⟨ps, h1, h2, h30⟩ := parts_rep5 (w := w) (c := c) (cs := cs) (partsT P t) (xs.map (·.1)) 0 (by rw [hcl]; exact h.1) (fun i p hi => by
        have hcv := h.2 p (List.mem_of_getElem? hi)
        rw [hpt, List.getElem?_map, Option.map_eq_some_iff] at hi
        obtain ⟨j, hj, rfl⟩ := hi
        obtain ⟨hjk, rfl⟩ := List.getElem?_range_some hj
        have hi' : i < xs.length := by rw [hxl]; exact hjk
        have h3 := hp i hjk
        rw [List.getElem?_eq_getElem hi'] at h3
        exact ⟨xs[i].1, by rw [List.getElem?_map, List.getElem?_eq_getElem hi']; try rfl, arg_rec5 hT c e hcv _ _ h3 (fun m hm => hw m (by
          simp only [DataW.weights, hu]
          exact weightsAll_mem (i := i) (d := xs[i].1) (by rw [List.getElem?_map, List.getElem?_eq_getElem hi']; try rfl) hm))⟩)
      refine ⟨ps, ?_, by simpa using h1, by simp only [Rows.uptoBulk]; omega⟩
      unfold Arg; rw [hu]
      exact ⟨by rw [h1.len, List.drop_zero, hcl], fun p hpm => by simpa using h2 p hpm⟩
    · simp at h
theorem arg_value5 {Ts : List TypeId} (hT : covC P Ts = true) {t : TypeId} (ht : Ts.contains t = true) {fs : Array Field} (hu : P.underlying t = some (.struct fs)) {v : Value} {d : DataW H} {pl : List MemPlace}
    (h : DataW.Trod enc P w 0 sp held t v d pl) (hv : ∃ base, Value.okWide P w .any base t v) (hw : ∀ n ∈ d.weights P t, n ≤ reachBytes) :
    ∃ c ps, Arg P c t ps ∧ (∀ β n, Rep β n (fun b => b < w.heap.size) w (.agg ps) v) ∧ PV.bulkL ps ≤ Rows.uptoBulk d := by
  obtain ⟨fuel, hf⟩ := h
  obtain ⟨ps, h1, h2, h3⟩ := arg_rec5 hT fuel t ht _ _ hf hw
  obtain ⟨base, hv⟩ := hv
  unfold Value.okWide at hv
  simp only [hu] at hv
  obtain ⟨cs, rfl, _⟩ := hv
  refine ⟨fuel, ps, h1, fun β n => ?_, h3⟩
  simp only [Rep]
  exact ⟨cs.toList, by simp, h2.1, h2.2 β n⟩
end
end Go.AM
namespace Go.AM
theorem bulkR_strs : ∀ l : List ByteArray, l.length ≤ PV.bulkR (strRows l)
 | [] => by simp
 | s :: l => by
  have := bulkR_strs l
  simp only [strRows, List.map_cons, PV.bulkR, PV.bulkL, PV.bulk, List.length_cons] at this ⊢
  omega
mutual
theorem Ex.small_bulk : ∀ (e : Ex), PV.bulkL e.cells ≤ 1048576 → e.small
 | .mk op name n args kids, h => by
  simp only [Ex.cells, PV.bulkL, PV.bulk] at h
  simp only [Ex.small]
  have := bulkR_strs args
  exact ⟨by omega, Ex.smalls_bulk kids (by omega)⟩
theorem Ex.smalls_bulk : ∀ (l : List Ex), PV.bulkR (Ex.rows l) ≤ 1048576 → Ex.smalls l
 | [], _ => by simp [Ex.smalls]
 | k :: ks, h => by
  simp only [Ex.rows, PV.bulkR] at h
  simp only [Ex.smalls]
  exact ⟨Ex.small_bulk k (by omega), Ex.smalls_bulk ks (by omega)⟩
end
mutual
theorem Sx.depth_nodes : ∀ (x : Sx), x.depth ≤ x.nodes
 | .mk kind _ _ _ _ kids => by
  have := Sx.depths_nodes kids 0
  simp only [Sx.depth, Sx.nodes]
  split <;> omega
theorem Sx.depths_nodes : ∀ (l : List Sx) (m : Nat), Sx.depths m l ≤ max m (Sx.nodess l)
 | [], m => by simp [Sx.depths, Sx.nodess]
 | k :: ks, m => by
  have h1 := Sx.depth_nodes k
  have h2 := Sx.depths_nodes ks (max m k.depth)
  simp only [Sx.depths, Sx.nodess]
  omega
end
end Go.AM
namespace Go.Proofs.Ytjlkapgpjamnkaa
open Go.AM
theorem nodess_words : ∀ l : List ByteArray, Sx.nodess (l.map wordM) = l.length
 | [] => rfl
 | s :: l => by simp only [List.map_cons, Sx.nodess, word_nodes, nodess_words l, List.length_cons]; omega
theorem words_nodes (first : ByteArray) (l : List ByteArray) : (wordsM first l).nodes = l.length + 2 := by
 simp only [wordsM, list_nodes, nodess_words, List.length_cons]
theorem exW_nodes : ∀ e : Ex, (exW e).nodes ≤ PV.bulkL e.cells := by
 refine Ex.ind ?_
 intro op name n args kids ih
 have h1 := bulkR_strs args
 simp only [Ex.cells, PV.bulkL, PV.bulk]
 unfold exW
 split
 ·simp only [Sx.nodes, Sx.nodess]; omega
 ·split
  ·rw [words_nodes]; omega
  ·split
   ·rename_i a b
    have ha := ih a (by simp)
    have hb := ih b (by simp)
    simp only [Ex.rows, PV.bulkR, list_nodes, Sx.nodess, word_nodes]
    omega
   ·simp only [list_nodes, Sx.nodess, word_nodes]; omega
theorem exW_nodes_big {e : Ex} (h : PV.bulkL e.cells ≤ 1048576) : (exW e).nodes ≤ bigN := by
 have := exW_nodes e
 unfold bigN; omega
theorem exW_depth_big {e : Ex} (h : PV.bulkL e.cells ≤ 1048576) : (exW e).depth ≤ bigN := by
 have := exW_nodes e
 have := Sx.depth_nodes (exW e)
 unfold bigN; omega
end Go.Proofs.Ytjlkapgpjamnkaa
namespace Go.AM
theorem bulkR_pms : ∀ l : List Pm, 2 * l.length ≤ PV.bulkR (pmRows l)
 | [] => by simp
 | s :: l => by
  have := bulkR_pms l
  simp only [pmRows, pmRow, List.map_cons, PV.bulkR, PV.bulkL, PV.bulk, List.length_cons] at this ⊢
  omega
theorem bulkR_fms : ∀ l : List Fm, l.length ≤ PV.bulkR (Fm.rows l)
 | [] => by simp
 | s :: l => by
  have := bulkR_fms l
  cases s
  simp only [Fm.rows, Fm.cells, PV.bulkR, PV.bulkL, PV.bulk, List.length_cons] at this ⊢
  omega
mutual
theorem Fm.small_bulk : ∀ (f : Fm), PV.bulkL f.cells ≤ 1048576 → f.small
 | .mk op name args params exprs kids, h => by
  simp only [Fm.cells, PV.bulkL, PV.bulk] at h
  simp only [Fm.small]
  have := bulkR_strs args
  have := bulkR_pms params
  have := bulkR_fms kids
  exact ⟨by omega, by omega, Ex.smalls_bulk exprs (by omega), by omega, Fm.smalls_bulk kids (by omega)⟩
theorem Fm.smalls_bulk : ∀ (l : List Fm), PV.bulkR (Fm.rows l) ≤ 1048576 → Fm.smalls l
 | [], _ => by simp [Fm.smalls]
 | k :: ks, h => by
  simp only [Fm.rows, PV.bulkR] at h
  simp only [Fm.smalls]
  exact ⟨Fm.small_bulk k (by omega), Fm.smalls_bulk ks (by omega)⟩
end
end Go.AM
namespace Go.Proofs.Ytjlkapgpjamnkaa
open Go.AM
theorem nodess_params : ∀ l : List Pm, Sx.nodess (paramsW l) = 3 * l.length
 | [] => rfl
 | s :: l => by simp only [paramsW, Sx.nodess, word_nodes, nodess_params l, List.length_cons]; omega
theorem exWs_nodes : ∀ l : List Ex, Sx.nodess (l.map exW) ≤ PV.bulkR (Ex.rows l)
 | [] => by simp [Sx.nodess]
 | e :: l => by
  have h1 := exWs_nodes l
  have h2 := exW_nodes e
  simp only [List.map_cons, Sx.nodess, Ex.rows, PV.bulkR]
  omega
mutual
theorem fmW_nodes : ∀ f : Fm, (fmW f).nodes ≤ 2 * PV.bulkL f.cells
 | .mk op name args params exprs kids => by
  have h1 := bulkR_strs args
  have h2 := bulkR_pms params
  have h3 := exWs_nodes exprs
  have h4 := fmWs_nodes kids
  simp only [Fm.cells, PV.bulkL, PV.bulk]
  unfold fmW
  split
  ·rw [words_nodes]; omega
  ·split
   ·rw [words_nodes]; omega
   ·split
    ·simp only [list_nodes, Sx.nodess, word_nodes]; omega
    ·simp only [list_nodes, nodess_append]
     split <;> split <;> simp only [Sx.nodess, word_nodes, list_nodes, nodess_params] <;> omega
theorem fmWs_nodes : ∀ l : List Fm, Sx.nodess (fmWs l) ≤ 2 * PV.bulkR (Fm.rows l)
 | [] => by simp [fmWs, Sx.nodess]
 | k :: l => by
  have h1 := fmW_nodes k
  have h2 := fmWs_nodes l
  simp only [fmWs, Sx.nodess, Fm.rows, PV.bulkR]
  omega
end
theorem fmW_nodes_big {f : Fm} (h : PV.bulkL f.cells ≤ 1048576) : (fmW f).nodes ≤ bigN := by
 have := fmW_nodes f
 unfold bigN; omega
theorem fmW_depth_big {f : Fm} (h : PV.bulkL f.cells ≤ 1048576) : (fmW f).depth ≤ bigN := by
 have := fmW_nodes f
 have := Sx.depth_nodes (fmW f)
 unfold bigN; omega
end Go.Proofs.Ytjlkapgpjamnkaa
namespace Go.Proofs.Ytjlkapgpjamnkaa
open Go.AM
def opF (op name : ByteArray) (args : List ByteArray) (params : List Pm) (ne nk : Nat) : Bool :=
 if bEq op opAtom then nameB name && (args.all termB && ((((params.length : Int) + ne) + nk) == 0))
 else if bEq op opSame then bEq name ⟨#[]⟩ && (((args.length : Int) == 2) && (args.all termB && ((((params.length : Int) + ne) + nk) == 0)))
 else if (bEq op opLt || (bEq op opLe || bEq op opEq)) then bEq name ⟨#[]⟩ && (((((args.length : Int) + params.length) + nk) == 0) && ((ne : Int) == 2))
 else if (bEq op opAnd || bEq op opOr) then bEq name ⟨#[]⟩ && ((((args.length : Int) + params.length) + ne) == 0)
 else if bEq op opNot then bEq name ⟨#[]⟩ && (((((args.length : Int) + params.length) + ne) == 0) && ((nk : Int) == 1))
 else if bEq op opImp then bEq name ⟨#[]⟩ && (((((args.length : Int) + params.length) + ne) == 0) && ((nk : Int) == 2))
 else if (bEq op opAll || bEq op opSome) then bEq name ⟨#[]⟩ && ((((args.length : Int) + ne) == 0) && (((nk : Int) == 1) && params.all pmOk))
 else false
theorem partsOk_opF (op name : ByteArray) (args : List ByteArray) (params : List Pm) (ne nk : Nat) : partsOk op name args params ne nk = opF op name args params ne nk := by
 have ea : args.isEmpty = decide (args.length = 0) := by cases args <;> simp
 have ep : params.isEmpty = decide (params.length = 0) := by cases params <;> simp
 have ep2 : params.length = 0 → params.all pmOk = true := fun h => by rw [List.length_eq_zero_iff.1 h]; try rfl
 have en : emptyB name = bEq name ⟨#[]⟩ := rfl
 unfold partsOk shapeOf termsOk opF
 rw [ea, en, ep]
 generalize args.all termB = ta
 generalize params.all pmOk = pa at ep2
 generalize bEq name ⟨#[]⟩ = nm
 generalize nameB name = nn
 generalize args.length = la
 generalize params.length = lp at ep2
 cases k1 : bEq op opAtom
 ·cases k2 : bEq op opSame
  ·cases k3 : bEq op opLt
   ·cases k4 : bEq op opLe
    ·cases k5 : bEq op opEq
     ·cases k6 : bEq op opAnd
      ·cases k7 : bEq op opOr
       ·cases k8 : bEq op opNot
        ·cases k9 : bEq op opImp
         ·cases k10 : bEq op opAll
          ·cases k11 : bEq op opSome
           ·simp
           ·rw [Bool.eq_iff_iff]; simp; cases nm <;> cases pa <;> simp <;> omega
          ·rw [Bool.eq_iff_iff]; simp; cases nm <;> cases pa <;> simp <;> omega
         ·rw [Bool.eq_iff_iff]; simp; cases nm <;> cases pa <;> simp at ep2 ⊢ <;> omega
        ·rw [Bool.eq_iff_iff]; simp; cases nm <;> cases pa <;> simp at ep2 ⊢ <;> omega
       ·rw [Bool.eq_iff_iff]; simp; cases nm <;> cases pa <;> simp at ep2 ⊢ <;> omega
      ·rw [Bool.eq_iff_iff]; simp; cases nm <;> cases pa <;> simp at ep2 ⊢ <;> omega
     ·rw [Bool.eq_iff_iff]; simp; cases nm <;> cases pa <;> simp at ep2 ⊢ <;> omega
    ·rw [Bool.eq_iff_iff]; simp; cases nm <;> cases pa <;> simp at ep2 ⊢ <;> omega
   ·rw [Bool.eq_iff_iff]; simp; cases nm <;> cases pa <;> simp at ep2 ⊢ <;> omega
  ·rw [Bool.eq_iff_iff]; simp; cases nm <;> cases pa <;> cases ta <;> simp at ep2 ⊢ <;> omega
 ·rw [Bool.eq_iff_iff]; simp; cases nn <;> cases pa <;> cases ta <;> simp at ep2 ⊢ <;> omega
theorem shapedF_op {op name : ByteArray} {args : List ByteArray} {params : List Pm} {exprs : List Ex} {kids : List Fm} (hE : ∀ e ∈ exprs, shapedE e = true) (hK : ∀ k ∈ kids, shapedF k = true) :
  shapedF (.mk op name args params exprs kids) = opF op name args params exprs.length kids.length := by
 have h1 : exprs.all shapedE = true := List.all_eq_true.2 hE
 have h2 : shapedFs kids = true := shapedFs_iff.2 hK
 simp only [shapedF, h1, h2, Bool.and_true, partsOk_opF]
theorem shapedF_kid {op name : ByteArray} {args : List ByteArray} {params : List Pm} {exprs : List Ex} {kids : List Fm} (h : shapedF (.mk op name args params exprs kids) = true) : (∀ e ∈ exprs, shapedE e = true) ∧ ∀ k ∈ kids, shapedF k = true := by
 simp only [shapedF, Bool.and_eq_true] at h
 exact ⟨List.all_eq_true.1 h.1.2, shapedFs_iff.1 h.2⟩
end Go.Proofs.Ytjlkapgpjamnkaa
namespace Go.Proofs.Ytjlkapgpjamnkaa
open Go.AM
set_option maxHeartbeats 4000000
set_option maxRecDepth 20000
theorem bulk_memF : ∀ {l : List Fm} {k : Fm}, k ∈ l → PV.bulkL k.cells ≤ PV.bulkR (Fm.rows l)
 | [], _, h => by simp at h
 | x :: l, k, h => by
  simp only [Fm.rows, PV.bulkR]
  rcases List.mem_cons.1 h with rfl | h
  ·omega
  ·have := bulk_memF h; omega
theorem bulkR_exs : ∀ l : List Ex, l.length ≤ PV.bulkR (Ex.rows l)
 | [] => by simp
 | s :: l => by
  have := bulkR_exs l
  cases s
  simp only [Ex.rows, Ex.cells, PV.bulkR, PV.bulkL, PV.bulk, List.length_cons] at this ⊢
  omega
theorem fmRows_set (l : List Fm) (k : Nat) (e : Fm) : (Fm.rows l).set k e.cells = Fm.rows (l.set k e) := by simp [Fm.rows_map, List.map_set]
theorem bindF_c : ∀ f : Fm, f.small → shapedF f = true → ∀ {bound : List ByteArray} {T : PV} {to : ByteArray → Option ByteArray}, bound.length + PV.bulkL f.cells ≤ 1099511627776 → ∀ {h : Heap}, MapAt h T to →
  PCall Try.prog 82 [.agg f.cells, T, .imm 1 (strRows bound)] h fun r h' => r = .agg (bindFm to f bound).cells ∧ h' = h := by
 refine Fm.ind ?_
 intro op name args params exprs kids ih hsm hsh bound T to hb h hT
 simp only [Fm.small] at hsm
 obtain ⟨hal, hpl, hes, hkl, hks⟩ := hsm
 rw [Ex.smalls_iff] at hes
 rw [Fm.smalls_iff] at hks
 have hbk := hb
 simp only [Fm.cells, PV.bulkL, PV.bulk] at hbk
 obtain ⟨hse, hsk⟩ := shapedF_kid hsh
 have hkb : ∀ k ∈ kids, PV.bulkL k.cells ≤ PV.bulkR (Fm.rows kids) := fun k hk => bulk_memF hk
 have hel : exprs.length ≤ 1099511627776 := Nat.le_trans (bulkR_exs exprs) (by omega)
 have hpb := bulkR_pms params
 have hlE := Ex.rows_len exprs
 have hlP := pmRows_len params
 have hlK := Fm.rows_len kids
 have hbb : bound.length ≤ bigN := by unfold bigN; omega
 have hb2 : ∀ k ∈ kids, (bound ++ params.map Pm.name).length + PV.bulkL k.cells ≤ 1099511627776 := fun k hk => by
  have := hkb k hk
  simp only [List.length_append, List.length_map]; omega
 refine PCall.frz Ty.hb_82 ?_
 have hrp := fun {H : Heap} (hg : Grow h H) => replaced_c (l := args) (bound := bound) hal hbb (hT.grow hg)
 have hB : bindFm to (.mk op name args params exprs kids) bound = .mk op name (args.map (replS to bound)) params (exprs.map (bindEx to bound)) (kids.map (bindFm to · (bound ++ params.map Pm.name))) := by simp only [bindFm, bindExs_map, bindFms_map]
 rw [hB]
 clear hB
 generalize args.map (replS to bound) = args2 at hrp
 simp only [Fm.cells]
 refine pcall_body (ow := fun t => t == 3) (wf := fun f => f == 127 || f == 128) Ty.mixed Try.func82 rfl Ty.hb_82 (by rw [Try.ntmps82]; simp) ?_
 rw [Try.ntmps82, Try.results82]
 repeat' (first | refine a_seq fun K hK => ?_ | (refine a_regionS ?_; simp (maxSteps := 2000000) only [Ty.w, simprocAttr, nsucc]) | (refine hK _ _ ?_; clear hK; try simp only [pst0, simprocAttr]))
 refine owp_useQ (hrp (((Grow.refl h).new _).new _)) (by (try simp only [Ty.w, simprocAttr, nsucc]); try rfl) ?_; simp (maxSteps := 2000000) only [Ty.w, simprocAttr, nsucc]
 repeat' (first | (with_reducible refine a_hold 2 ?_) | refine a_seq fun K hK => ?_ | (refine hK _ _ ?_; clear hK; try simp only [pst0, simprocAttr]))
 refine a_gen (fun S H => S 1 = T ∧ S 2 = .imm 1 (strRows bound) ∧ S 3 = .ptr h.next 0 0 ∧ S 6 = .ptr (h.next + 1) 0 0 ∧ Grow h H ∧ h.next + 2 ≤ H.next ∧
  H.obj h.next = some (.arr 6 [[sPV op, sPV name, .imm 1 (strRows args2), .imm 2 (pmRows params), .imm 5 (Ex.rows exprs), .imm 6 (Fm.rows kids)]]) ∧
  H.obj (h.next + 1) = some (.arr 6 [[.sc (.string ⟨#[]⟩), .sc (.string ⟨#[]⟩), .sc (.slice none 0 0), .sc (.slice none 0 0), .sc (.slice none 0 0), .sc (.slice none 0 0)]])) ?_ ?_
 ·simp only [Ty.w, simprocAttr]
  refine ⟨(((Grow.refl h).new _).new _).set (Nat.le_refl _) _, ?_⟩
  simp [Heap.new, Heap.set]
 rintro S H ⟨g1, g2, g3, g6, gH, nH, k0, k1⟩
 obtain ⟨vE, HE, cE, gE, -, tE⟩ := cloneE_d hel H
 obtain ⟨vF, HF, cF, gF, -, tF⟩ := cloneF_d (l := kids) (by omega) HE
 have k0E : HE.obj h.next = some (.arr 6 [[sPV op, sPV name, .imm 1 (strRows args2), .imm 2 (pmRows params), .imm 5 (Ex.rows exprs), .imm 6 (Fm.rows kids)]]) := by rw [gE.old _ (by omega)]; exact k0
 have k0F : HF.obj h.next = some (.arr 6 [[sPV op, sPV name, .imm 1 (strRows args2), .imm 2 (pmRows params), .imm 5 (Ex.rows exprs), .imm 6 (Fm.rows kids)]]) := by rw [gF.old _ (by have := gE.le; omega)]; exact k0E
 have k1F : HF.obj (h.next + 1) = some (.arr 6 [[.sc (.string ⟨#[]⟩), .sc (.string ⟨#[]⟩), .sc (.slice none 0 0), .sc (.slice none 0 0), .sc (.slice none 0 0), .sc (.slice none 0 0)]]) := by rw [gF.old _ (by have := gE.le; omega), gE.old _ (by omega)]; exact k1
 have cP := fun H => cloneP_q (l := params) (by omega) H
 obtain ⟨pE1, pE2⟩ := tE.pc
 obtain ⟨pF1, pF2⟩ := tF.pc
 refine a_cutK (fun S h2 => S 1 = T ∧ S 2 = .imm 1 (strRows bound) ∧ S 3 = .ptr h.next 0 0 ∧ S 6 = .ptr (h.next + 1) 0 0 ∧ h2 = HF.set h.next (.arr 6 [[sPV op, sPV name, .imm 1 (strRows args2), .imm 2 (pmRows params), vE, vF]])) ?_ ?_
 ·repeat' (refine a_drawS (by decide +kernel) ?_; simp (maxSteps := 2000000) only [Ty.w, simprocAttr, g1, g2, g3, g6, k0])
  have W := And.intro g1 (And.intro g2 (And.intro g3 (And.intro g6 (And.intro k0 (And.intro k0E k0F)))))
  (first | refine a_dcall0 (cP _) (by (try simp only [Ty.w, simprocAttr, W]); try rfl) ?_ | refine a_dcallA (cP _) (by (try simp only [Ty.w, simprocAttr, W]); try rfl) (by simp only [Ty.w, simprocAttr, W]; try trivial) ?_); simp (maxSteps := 2000000) only [Ty.w, simprocAttr, W, Option.getD_some]
  refine a_dcallW (cE) (by (try simp only [Ty.w, simprocAttr, W]); try rfl) (by simp only [Ty.w, simprocAttr, pastC, List.map_cons, List.map_nil, List.forall_mem_cons]; (repeat' apply And.intro) <;> first | trivial | exact .inl (by decide +kernel) | skip) ?_; simp (maxSteps := 2000000) only [Ty.w, simprocAttr, W, Option.getD_some]
  refine ⟨fun x hx => .inr (by rw [List.mem_singleton.1 hx]; simp (maxSteps := 2000000) only [Ty.w, simprocAttr, W, Ty.all]), ?_⟩
  refine a_dcallW (cF) (by (try simp only [Ty.w, simprocAttr, W]); try rfl) (by simp only [Ty.w, simprocAttr, pastC, List.map_cons, List.map_nil, List.forall_mem_cons]; (repeat' apply And.intro) <;> first | trivial | exact .inl (by decide +kernel) | skip) ?_; simp (maxSteps := 2000000) only [Ty.w, simprocAttr, W, Option.getD_some]
  repeat' (with_reducible refine a_past2 (by simp only [List.forall_mem_cons, Ty.w, simprocAttr, g1, g2, g3, g6, k0, k0E, k0F, pE1, pE2, pF1, pF2, putC]; (repeat' apply And.intro) <;> first | trivial | exact .inl (by decide +kernel)) ?_; try simp (maxSteps := 2000000) only [Ty.w, simprocAttr, W, pE1, pE2, pF1, pF2, putC])
  simp only [set_set]
 ·rintro S' h2 ⟨g1, g2, g3, g6, rfl⟩
  have gX : Grow h (HF.set h.next (.arr 6 [[sPV op, sPV name, .imm 1 (strRows args2), .imm 2 (pmRows params), vE, vF]])) := ((gH.trans gE).trans gF).set (Nat.le_refl _) _
  have nX : HE.next ≤ (HF.set h.next (.arr 6 [[sPV op, sPV name, .imm 1 (strRows args2), .imm 2 (pmRows params), vE, vF]])).next := gF.le
  have o1 : (HF.set h.next (.arr 6 [[sPV op, sPV name, .imm 1 (strRows args2), .imm 2 (pmRows params), vE, vF]])).obj h.next = some (.arr 6 [[sPV op, sPV name, .imm 1 (strRows args2), .imm 2 (pmRows params), vE, vF]]) := by simp [Heap.set]
  have o2 : (HF.set h.next (.arr 6 [[sPV op, sPV name, .imm 1 (strRows args2), .imm 2 (pmRows params), vE, vF]])).obj (h.next + 1) = some (.arr 6 [[.sc (.string ⟨#[]⟩), .sc (.string ⟨#[]⟩), .sc (.slice none 0 0), .sc (.slice none 0 0), .sc (.slice none 0 0), .sc (.slice none 0 0)]]) := by
   simp only [Heap.set]; rw [if_neg (by omega)]; exact k1F
  have bE : ∀ id off len, vE = .own id off len → id < HE.next := by
   rintro id off len rfl
   rcases tE with ⟨_, q⟩ | ⟨_, _, q2, q3, _⟩
   ·simp at q
   ·simp only [PV.own.injEq] at q3; rw [q3.1]; exact q2
  have nE : h.next + 2 ≤ HE.next := by have := gE.le; omega
  have tE2 : Cl (HF.set h.next (.arr 6 [[sPV op, sPV name, .imm 1 (strRows args2), .imm 2 (pmRows params), vE, vF]])) (h.next + 2) 5 vE (Ex.rows exprs) := Cl.up (tE.low nH) gF.le fun j hj hj2 => by
   simp only [Heap.set]; rw [if_neg (by omega)]; exact gF.old _ hj2
  have tF2 : Cl (HF.set h.next (.arr 6 [[sPV op, sPV name, .imm 1 (strRows args2), .imm 2 (pmRows params), vE, vF]])) HE.next 6 vF (Fm.rows kids) := Cl.up tF (Nat.le_refl _) fun j hj hj2 => by
   simp only [Heap.set]; rw [if_neg (by omega)]
  generalize HF.set h.next (.arr 6 [[sPV op, sPV name, .imm 1 (strRows args2), .imm 2 (pmRows params), vE, vF]]) = h2 at gX nX o1 o2 tE2 tF2 ⊢
  generalize HE.next = M at nX bE nE tF2
  clear tE tF k0 k1 k0E k0F k1F cE cF gE gF gH nH cP hrp
  clear HE HF H
  have hslE := tE2.sl
  have hloE : ∀ H, lenP H vE = some exprs.length := fun H => by rw [lenP_sl hslE H, hlE]
  have hlkE := hslE.lk
  have hslF := tF2.sl
  have hloF : ∀ H, lenP H vF = some kids.length := fun H => by rw [lenP_sl hslF H, hlK]
  have hlkF := hslF.lk
  repeat' (first | refine a_seq fun K hK => ?_ | (refine a_block ?_) | (refine a_regionS ?_; simp (maxSteps := 2000000) only [Ty.w, simprocAttr, g1, g2, g3, g6, o1, pE1, pE2, pF1, pF2, hloE, hlkE]) | (refine hK _ _ ?_; clear hK; try simp only [pst0, simprocAttr]))
  refine a_loop (fun m S h' => S 1 = T ∧ S 2 = .imm 1 (strRows bound) ∧ S 3 = .ptr h.next 0 0 ∧ S 6 = .ptr (h.next + 1) 0 0 ∧ S 30 = vE ∧ S 31 = .sc (.int .i64 exprs.length) ∧ ∃ k : Nat, S 32 = .sc (.int .i64 k) ∧ k ≤ exprs.length ∧ m = exprs.length - k ∧ Grow h h' ∧ M ≤ h'.next ∧
   h'.obj h.next = some (.arr 6 [[sPV op, sPV name, .imm 1 (strRows args2), .imm 2 (pmRows params), vE, vF]]) ∧ h'.obj (h.next + 1) = some (.arr 6 [[.sc (.string ⟨#[]⟩), .sc (.string ⟨#[]⟩), .sc (.slice none 0 0), .sc (.slice none 0 0), .sc (.slice none 0 0), .sc (.slice none 0 0)]]) ∧
   Cl h' (h.next + 2) 5 vE (Ex.rows ((exprs.take k).map (bindEx to bound) ++ exprs.drop k)) ∧ Cl h' M 6 vF (Fm.rows kids)) exprs.length ?_ ?_
  ·simp only [Ty.w, simprocAttr]
   exact ⟨g1, g2, g3, g6, 0, rfl, by omega, rfl, gX, nX, o1, o2, by simpa using tE2, tF2⟩
  ·clear gX nX o1 o2 tE2 tF2 hslE hloE hlkE
   rintro m S h' ⟨g1, g2, g3, g6, g30, g31, k, g32, hk, rfl, hg, hn, o1, o2, tE, tF⟩
   by_cases hlt : k < exprs.length
   ·have hd : decide ((k : Int) < (exprs.length : Int)) = true := by simp; omega
    have w7 : IntKind.i64.wrap ((k : Int) + 1) = k + 1 := by rw [wrap64 (by omega) (by omega)]
    obtain ⟨x, hx⟩ : ∃ x, exprs[k]? = some x := ⟨_, List.getElem?_eq_getElem hlt⟩
    have hmem := List.mem_of_getElem? hx
    have hc := fun {H : Heap} (hgH : Grow h H) => bindE_c x (hes x hmem) (hse x hmem) hbb (hT.grow hgH)
    obtain ⟨m1, m2⟩ := mixG_get (g := bindEx to bound) hx
    have hlen : ((exprs.take k).map (bindEx to bound) ++ exprs.drop k).length = exprs.length := by simp; omega
    have hlen2 : ((exprs.take (k + 1)).map (bindEx to bound) ++ exprs.drop (k + 1)).length = exprs.length := by simp; omega
    have hr := Ex.rows_get m1
    obtain ⟨id, i1, i2, rfl, i4⟩ : ∃ id, h.next + 2 ≤ id ∧ id < h'.next ∧ vE = .own id 0 exprs.length ∧ h'.obj id = some (.arr 5 (Ex.rows ((exprs.take k).map (bindEx to bound) ++ exprs.drop k))) := by
     rcases tE with ⟨hn0, _⟩ | ⟨id, i1, i2, i3, i4⟩
     ·have := congrArg List.length hn0
      rw [Ex.rows_len, hlen] at this
      simp only [List.length_nil] at this; omega
     ·rw [Ex.rows_len, hlen] at i3; exact ⟨id, i1, i2, i3, i4⟩
    have i3 := bE id 0 exprs.length rfl
    clear tE
    have hset : (Ex.rows ((exprs.take k).map (bindEx to bound) ++ exprs.drop k)).set k (bindEx to bound x).cells = Ex.rows ((exprs.take (k + 1)).map (bindEx to bound) ++ exprs.drop (k + 1)) := by rw [exRows_set, m2]
    have hrl : (Ex.rows ((exprs.take (k + 1)).map (bindEx to bound) ++ exprs.drop (k + 1))).length = exprs.length := by rw [Ex.rows_len, hlen2]
    generalize Ex.rows ((exprs.take k).map (bindEx to bound) ++ exprs.drop k) = R at i4 hr hset
    generalize bindEx to bound x = y at hc hset
    obtain ⟨xo, xn, xv, xa, xk⟩ := x
    obtain ⟨yo, yn, yv, ya, yk⟩ := y
    simp only [Ex.cells] at hr hc hset
    have e1 : (h.next = h'.next) = False := by simp; omega
    have e2 : (id = h'.next) = False := by simp; omega
    have hgX : ∀ o o2, Grow h ((h'.new o).set h'.next o2) := fun o o2 => (hg.new _).set hg.le _
    have W := And.intro g1 (And.intro g2 (And.intro g3 (And.intro g6 (And.intro g30 (And.intro g31 (And.intro g32 (And.intro i4 (And.intro hr (And.intro hlt (And.intro o1 (And.intro e1 e2)))))))))))
    repeat' (first | refine a_seq fun K hK => ?_ | ((first | refine a_regionS ?_ | refine a_draw (by decide +kernel) (fun K hK => ?_)); simp (maxSteps := 2000000) only [Ty.w, simprocAttr, W, hd]) | (refine a_skip ?_; try simp only [pst0, simprocAttr]) | (refine a_cond _ (by (try simp (maxSteps := 2000000) only [Ty.w, simprocAttr, W, hd]); rfl) (fun hb => ?_) (fun hb => ?_) <;> (try simp only [hb0, decide_eq_true_eq, decide_eq_false_iff_not, simprocAttr] at hb) <;> (try (exfalso; omega))) | (refine hK _ _ ?_; clear hK; try simp only [pst0, simprocAttr]))
    (first | refine a_dcall0 (hc (hgX _ _)) (by (try simp only [Ty.w, simprocAttr, W]); try rfl) ?_ | refine a_dcallA (hc (hgX _ _)) (by (try simp only [Ty.w, simprocAttr, W]); try rfl) (by simp only [Ty.w, simprocAttr, W]; try trivial) ?_); simp (maxSteps := 2000000) only [Ty.w, simprocAttr, W, Option.getD_some]
    repeat' (first | (refine a_regionS ?_; simp (maxSteps := 2000000) only [Ty.w, simprocAttr, W, w7, putC, hset]) | (refine hK _ _ ?_; clear hK; try simp only [pst0, simprocAttr]) | (with_reducible refine a_past2 (by simp only [List.forall_mem_cons, Ty.w, simprocAttr, g1, g2, g3, g6, g30, g31, g32, i4, hr, hlt, o1, e1, e2, w7, putC, hset]; (repeat' apply And.intro) <;> first | trivial | exact .inl (by decide +kernel)) ?_; try simp (maxSteps := 2000000) only [Ty.w, simprocAttr, W, w7, putC, hset]))
    refine ⟨exprs.length - (k + 1), by omega, k + 1, by simp, by omega, rfl, (hgX _ _).set (by omega) _, by first | omega | (simp [Heap.new, Heap.set]; omega), ?_, ?_, ?_, ?_⟩
    ·rw [if_neg (by omega)]
    ·rw [if_neg (by omega), if_neg (by omega), if_neg (by omega)]; exact o2
    ·exact .inr ⟨id, i1, by first | omega | (simp [Heap.new, Heap.set]; omega), by rw [hrl], by simp [Heap.set]⟩
    ·refine tF.up (by simp [Heap.new, Heap.set]) fun j hj hj2 => ?_
     simp only [Heap.new, Heap.set]; rw [if_neg (by omega), if_neg (by omega), if_neg (by omega)]
   ·have hd : decide ((k : Int) < (exprs.length : Int)) = false := by simp; omega
    have hke2 : k = exprs.length := by omega
    subst hke2
    rw [List.take_length, List.drop_length, List.append_nil] at tE
    have hin := fun H => inner_g (a := op) (b := name) (c := .imm 1 (strRows args2)) (e := vE) (f := vF) (params := params) (bound := bound) ⟨rfl, rfl⟩ ⟨pE1, pE2⟩ ⟨pF1, pF2⟩ (by omega) H
    repeat' (first | refine a_seq fun K hK => ?_ | (refine a_regionS ?_; simp (maxSteps := 2000000) only [Ty.w, simprocAttr, g1, g2, g3, g6, g30, g31, g32, hd, o1, pE1, pE2, pF1, pF2]) | (refine a_exit ?_; try simp only [pst0, simprocAttr]) | (refine a_cond _ (by (try simp (maxSteps := 2000000) only [Ty.w, simprocAttr, g1, g2, g3, g6, g30, g31, g32, hd, o1, pE1, pE2, pF1, pF2]); rfl) (fun hb => ?_) (fun hb => ?_) <;> (try simp only [hb0, decide_eq_true_eq, decide_eq_false_iff_not, simprocAttr] at hb) <;> (try (exfalso; omega))) | ((first | refine hK _ _ ?_ | (clear hK; refine hK _ _ ?_)); clear hK; try simp only [pst0, simprocAttr]))
    refine owp_useQ (hin _) (by (try simp only [Ty.w, simprocAttr, g1, g2, g3, g6]); try rfl) ?_; simp (maxSteps := 2000000) only [Ty.w, simprocAttr, g1, g2, g3, g6]
    repeat' (first | refine a_seq fun K hK => ?_ | (refine a_block ?_) | (refine a_regionS ?_; simp (maxSteps := 2000000) only [Ty.w, simprocAttr, g1, g2, g3, g6, o1, pF1, pF2, hloF, hlkF]) | (refine hK _ _ ?_; clear hK; try simp only [pst0, simprocAttr]))
    clear hd hlt
    refine a_loop (fun m S h' => S 1 = T ∧ S 2 = .imm 1 (strRows (bound ++ params.map Pm.name)) ∧ S 3 = .ptr h.next 0 0 ∧ S 6 = .ptr (h.next + 1) 0 0 ∧ S 50 = vF ∧ S 51 = .sc (.int .i64 kids.length) ∧ ∃ k : Nat, S 52 = .sc (.int .i64 k) ∧ k ≤ kids.length ∧ m = kids.length - k ∧ Grow h h' ∧ M ≤ h'.next ∧
     h'.obj h.next = some (.arr 6 [[sPV op, sPV name, .imm 1 (strRows args2), .imm 2 (pmRows params), vE, vF]]) ∧ h'.obj (h.next + 1) = some (.arr 6 [[.sc (.string ⟨#[]⟩), .sc (.string ⟨#[]⟩), .sc (.slice none 0 0), .sc (.slice none 0 0), .sc (.slice none 0 0), .sc (.slice none 0 0)]]) ∧
     Cl h' (h.next + 2) 5 vE (Ex.rows (exprs.map (bindEx to bound))) ∧ Cl h' M 6 vF (Fm.rows ((kids.take k).map (bindFm to · (bound ++ params.map Pm.name)) ++ kids.drop k))) kids.length ?_ ?_
    ·simp only [Ty.w, simprocAttr]
     exact ⟨g1, g3, g6, 0, rfl, by omega, rfl, hg, hn, o1, o2, tE, by simpa using tF⟩
    ·clear hg hn o1 o2 tE tF hslF hloF hlkF hin g1 g2 g3 g6 g30 g31 g32
     clear hk
     rintro m S h' ⟨g1, g2, g3, g6, g50, g51, k, g52, hk, rfl, hg, hn, o1, o2, tE, tF⟩
     by_cases hlt : k < kids.length
     ·have hd : decide ((k : Int) < (kids.length : Int)) = true := by simp; omega
      have w7 : IntKind.i64.wrap ((k : Int) + 1) = k + 1 := by rw [wrap64 (by omega) (by omega)]
      obtain ⟨x, hx⟩ : ∃ x, kids[k]? = some x := ⟨_, List.getElem?_eq_getElem hlt⟩
      have hmem := List.mem_of_getElem? hx
      have hc := fun {H : Heap} (hgH : Grow h H) => ih x hmem (hks x hmem) (hsk x hmem) (hb2 x hmem) (hT.grow hgH)
      obtain ⟨m1, m2⟩ := mixG_get (g := (bindFm to · (bound ++ params.map Pm.name))) hx
      have hlen : ((kids.take k).map (bindFm to · (bound ++ params.map Pm.name)) ++ kids.drop k).length = kids.length := by simp; omega
      have hlen2 : ((kids.take (k + 1)).map (bindFm to · (bound ++ params.map Pm.name)) ++ kids.drop (k + 1)).length = kids.length := by simp; omega
      have hr := Fm.rows_get m1
      obtain ⟨id, i1, i2, rfl, i4⟩ : ∃ id, M ≤ id ∧ id < h'.next ∧ vF = .own id 0 kids.length ∧ h'.obj id = some (.arr 6 (Fm.rows ((kids.take k).map (bindFm to · (bound ++ params.map Pm.name)) ++ kids.drop k))) := by
       rcases tF with ⟨hn0, _⟩ | ⟨id, i1, i2, i3, i4⟩
       ·have := congrArg List.length hn0
        rw [Fm.rows_len, hlen] at this
        simp only [List.length_nil] at this; omega
       ·rw [Fm.rows_len, hlen] at i3; exact ⟨id, i1, i2, i3, i4⟩
      clear tF
      have hset : (Fm.rows ((kids.take k).map (bindFm to · (bound ++ params.map Pm.name)) ++ kids.drop k)).set k (bindFm to x (bound ++ params.map Pm.name)).cells = Fm.rows ((kids.take (k + 1)).map (bindFm to · (bound ++ params.map Pm.name)) ++ kids.drop (k + 1)) := by rw [fmRows_set, m2]
      have hrl : (Fm.rows ((kids.take (k + 1)).map (bindFm to · (bound ++ params.map Pm.name)) ++ kids.drop (k + 1))).length = kids.length := by rw [Fm.rows_len, hlen2]
      generalize Fm.rows ((kids.take k).map (bindFm to · (bound ++ params.map Pm.name)) ++ kids.drop k) = R at i4 hr hset
      generalize bindFm to x (bound ++ params.map Pm.name) = y at hc hset
      obtain ⟨xo, xn, xa, xp, xe, xk⟩ := x
      obtain ⟨yo, yn, ya, yp, ye, yk⟩ := y
      simp only [Fm.cells] at hr hc hset
      have e1 : (h.next = h'.next) = False := by simp; omega
      have e2 : (id = h'.next) = False := by simp; omega
      have hgX : ∀ o o2, Grow h ((h'.new o).set h'.next o2) := fun o o2 => (hg.new _).set hg.le _
      have W := And.intro g1 (And.intro g2 (And.intro g3 (And.intro g6 (And.intro g50 (And.intro g51 (And.intro g52 (And.intro i4 (And.intro hr (And.intro hlt (And.intro o1 (And.intro e1 e2)))))))))))
      repeat' (first | refine a_seq fun K hK => ?_ | ((first | refine a_regionS ?_ | refine a_draw (by decide +kernel) (fun K hK => ?_)); simp (maxSteps := 2000000) only [Ty.w, simprocAttr, W, hd]) | (refine a_skip ?_; try simp only [pst0, simprocAttr]) | (refine a_cond _ (by (try simp (maxSteps := 2000000) only [Ty.w, simprocAttr, W, hd]); rfl) (fun hb => ?_) (fun hb => ?_) <;> (try simp only [hb0, decide_eq_true_eq, decide_eq_false_iff_not, simprocAttr] at hb) <;> (try (exfalso; omega))) | (refine hK _ _ ?_; clear hK; try simp only [pst0, simprocAttr]))
      (first | refine a_dcall0 (hc (hgX _ _)) (by (try simp only [Ty.w, simprocAttr, W]); try rfl) ?_ | refine a_dcallA (hc (hgX _ _)) (by (try simp only [Ty.w, simprocAttr, W]); try rfl) (by simp only [Ty.w, simprocAttr, W]; try trivial) ?_); simp (maxSteps := 2000000) only [Ty.w, simprocAttr, W, Option.getD_some]
      repeat' (first | (refine a_regionS ?_; simp (maxSteps := 2000000) only [Ty.w, simprocAttr, W, w7, putC, hset]) | (refine hK _ _ ?_; clear hK; try simp only [pst0, simprocAttr]) | (with_reducible refine a_past2 (by simp only [List.forall_mem_cons, Ty.w, simprocAttr, g1, g2, g3, g6, g50, g51, g52, i4, hr, hlt, o1, e1, e2, w7, putC, hset]; (repeat' apply And.intro) <;> first | trivial | exact .inl (by decide +kernel)) ?_; try simp (maxSteps := 2000000) only [Ty.w, simprocAttr, W, w7, putC, hset]))
      refine ⟨kids.length - (k + 1), by omega, k + 1, by simp, by omega, rfl, (hgX _ _).set (by omega) _, by first | omega | (simp [Heap.new, Heap.set]; omega), ?_, ?_, ?_, ?_⟩
      ·rw [if_neg (by omega)]
      ·rw [if_neg (by omega), if_neg (by omega), if_neg (by omega)]; exact o2
      ·refine Cl.keep tE (by simp [Heap.new, Heap.set]) fun j hj hj2 => ?_
       have := bE _ _ _ hj
       simp only [Heap.new, Heap.set]; rw [if_neg (by omega), if_neg (by omega), if_neg (by omega)]
      ·exact .inr ⟨id, i1, by first | omega | (simp [Heap.new, Heap.set]; omega), by rw [hrl], by simp [Heap.set]⟩
     ·have hd : decide ((k : Int) < (kids.length : Int)) = false := by simp; omega
      have hke2 : k = kids.length := by omega
      subst hke2
      rw [List.take_length, List.drop_length, List.append_nil] at tF
      repeat' (first | refine a_seq fun K hK => ?_ | ((first | refine a_regionS ?_ | refine a_ret ?_); simp (maxSteps := 2000000) only [Ty.w, simprocAttr, g1, g2, g3, g6, g50, g51, g52, hd, o1, o2, pE1, pE2, pF1, pF2]) | (refine a_exit ?_; try simp only [pst0, simprocAttr]) | (refine a_cond _ (by (try simp (maxSteps := 2000000) only [Ty.w, simprocAttr, g1, g2, g3, g6, g50, g51, g52, hd, o1, o2, pE1, pE2, pF1, pF2]); rfl) (fun hb => ?_) (fun hb => ?_) <;> (try simp only [hb0, decide_eq_true_eq, decide_eq_false_iff_not, simprocAttr] at hb) <;> (try (exfalso; omega))) | ((first | refine hK _ _ ?_ | (clear hK; refine hK _ _ ?_)); clear hK; try simp only [pst0, simprocAttr]))
      refine ⟨frz_agg ?_, hg.set (by omega) _⟩
      have tE3 : Cl (h'.set (h.next + 1) (.arr 6 [[sPV op, sPV name, .imm 1 (strRows args2), .imm 2 (pmRows params), vE, vF]])) (h.next + 2) 5 vE (Ex.rows (exprs.map (bindEx to bound))) := tE.up (Nat.le_refl _) fun j hj _ => by simp only [Heap.set]; rw [if_neg (by omega)]
      have tF3 : Cl (h'.set (h.next + 1) (.arr 6 [[sPV op, sPV name, .imm 1 (strRows args2), .imm 2 (pmRows params), vE, vF]])) M 6 vF (Fm.rows (kids.map (bindFm to · (bound ++ params.map Pm.name)))) := tF.up (Nat.le_refl _) fun j hj _ => by simp only [Heap.set]; rw [if_neg (by omega)]
      have h1 := tE3.frz (n := h.next) fun t => tl_frzE (by omega) t
      have h2 := tF3.frz (n := h.next) fun t => tl_frzF (by omega) t
      unfold FrzL; refine ⟨by simp only [FrzTo], ?_⟩
      unfold FrzL; refine ⟨by simp only [FrzTo], ?_⟩
      unfold FrzL; refine ⟨by simp only [FrzTo]; exact .inl ⟨trivial, strs_in _ _⟩, ?_⟩
      unfold FrzL; refine ⟨by simp only [FrzTo]; exact .inl ⟨trivial, pms_in _ _⟩, ?_⟩
      unfold FrzL; refine ⟨h1, ?_⟩
      unfold FrzL; refine ⟨h2, ?_⟩
      simp only [FrzL]
end Go.Proofs.Ytjlkapgpjamnkaa
namespace Go.Proofs.Ytjlkapgpjamnkaa
open Go.AM
set_option maxHeartbeats 4000000
set_option maxRecDepth 20000
theorem frz_fm {n : Nat} {H : Heap} {op : ByteArray} {p p' e e' k k' : PV} (hp : FrzTo n H p p') (he : FrzTo n H e e') (hk : FrzTo n H k k') :
  FrzTo n H (.agg [sPV op, sPV ⟨#[]⟩, .imm 1 [], p, e, k]) (.agg [sPV op, .sc (.string ⟨#[]⟩), .sc (.slice none 0 0), p', e', k']) := by
 refine frz_agg ?_
 unfold FrzL; refine ⟨by simp only [FrzTo], ?_⟩
 unfold FrzL; refine ⟨by simp only [FrzTo], ?_⟩
 unfold FrzL; refine ⟨frz_nilslice, ?_⟩
 unfold FrzL; refine ⟨hp, ?_⟩
 unfold FrzL; refine ⟨he, ?_⟩
 unfold FrzL; refine ⟨hk, ?_⟩
 simp only [FrzL]
end Go.Proofs.Ytjlkapgpjamnkaa
namespace Go.AM
mutual
def Nz : PV → PV → Prop
  | .imm z rows, p => (∃ rows', p = .imm z rows' ∧ NzR rows rows') ∨ (rows = [] ∧ (p = .emp ∨ p = .sc (.slice none 0 0)))
  | .agg l, p => ∃ l', p = .agg l' ∧ NzL l l'
  | q, p => p = q
def NzL : List PV → List PV → Prop
  | [], [] => True
  | p :: ps, q :: qs => Nz p q ∧ NzL ps qs
  | _, _ => False
def NzR : List (List PV) → List (List PV) → Prop
  | [], [] => True
  | p :: ps, q :: qs => NzL p q ∧ NzR ps qs
  | _, _ => False
end
theorem NzL.len : (l l' : List PV) → NzL l l' → l.length = l'.length
  | [], [], _ => rfl
  | [], _ :: _, h => by simp [NzL] at h
  | _ :: _, [], h => by simp [NzL] at h
  | p :: l, q :: l', h => by
    unfold NzL at h
    simp only [List.length_cons, NzL.len l l' h.2]
theorem NzR.len : (l l' : List (List PV)) → NzR l l' → l.length = l'.length
  | [], [], _ => rfl
  | [], _ :: _, h => by simp [NzR] at h
  | _ :: _, [], h => by simp [NzR] at h
  | p :: l, q :: l', h => by
    unfold NzR at h
    simp only [List.length_cons, NzR.len l l' h.2]
mutual
theorem Nz.refl : (p : PV) → Nz p p
  | .imm z rows => by unfold Nz; exact .inl ⟨rows, rfl, NzR.refl rows⟩
  | .agg l => by unfold Nz; exact ⟨l, rfl, NzL.refl l⟩
  | .sc v => by unfold Nz; rfl
  | .ptr _ _ _ => by unfold Nz; rfl
  | .cptr _ => by unfold Nz; rfl
  | .own _ _ _ => by unfold Nz; rfl
  | .emp => by unfold Nz; rfl
  | .mp _ => by unfold Nz; rfl
  | .tup _ => by unfold Nz; rfl
  | .fn _ _ _ => by unfold Nz; rfl
  | .ab _ _ _ _ _ => by unfold Nz; rfl
theorem NzL.refl : (l : List PV) → NzL l l
  | [] => by unfold NzL; trivial
  | p :: l => by unfold NzL; exact ⟨Nz.refl p, NzL.refl l⟩
theorem NzR.refl : (l : List (List PV)) → NzR l l
  | [] => by unfold NzR; trivial
  | p :: l => by unfold NzR; exact ⟨NzL.refl p, NzR.refl l⟩
end
section
variable {β : Env} {n : Nat} {F : Nat → Prop} {w : World}
mutual
theorem Nz.rep : (q p : PV) → (x : Value) → Nz q p → Rep β n F w p x → Rep β n F w q x
  | .imm z rows, p, x, h, hr => by
    unfold Nz at h
    rcases h with ⟨rows', rfl, hR⟩ | ⟨rfl, rfl | rfl⟩
    · simp only [Rep] at hr ⊢
      have hl := NzR.len rows rows' hR
      obtain ⟨a, cap, rfl, g1, g2, g3⟩ := hr
      refine ⟨a, cap, by rw [hl], by omega, g2, ?_⟩
      rcases g3 with g3 | ⟨b, o, hF, ha, hRR⟩
      · left
        rw [g3] at hl
        exact List.length_eq_zero_iff.1 hl
      · exact .inr ⟨b, o, hF, ha, NzR.rep z rows rows' b o hR hRR⟩
    · simp only [Rep] at hr ⊢
      obtain ⟨a, rfl⟩ := hr
      exact ⟨a, 0, rfl, Nat.le_refl _, Nat.zero_le _, .inl trivial⟩
    · simp only [Rep] at hr ⊢
      exact ⟨none, 0, hr, Nat.le_refl _, Nat.zero_le _, .inl trivial⟩
  | .agg l, p, x, h, hr => by
    unfold Nz at h
    obtain ⟨l', rfl, hl⟩ := h
    simp only [Rep] at hr ⊢
    obtain ⟨xs, rfl, h1, h2⟩ := hr
    exact ⟨xs, rfl, h1, NzL.rep l l' xs hl h2⟩
  | .sc _, p, x, h, hr => by unfold Nz at h; subst h; exact hr
  | .ptr _ _ _, p, x, h, hr => by unfold Nz at h; subst h; exact hr
  | .cptr _, p, x, h, hr => by unfold Nz at h; subst h; exact hr
  | .own _ _ _, p, x, h, hr => by unfold Nz at h; subst h; exact hr
  | .emp, p, x, h, hr => by unfold Nz at h; subst h; exact hr
  | .mp _, p, x, h, hr => by unfold Nz at h; subst h; exact hr
  | .tup _, p, x, h, hr => by unfold Nz at h; subst h; exact hr
  | .fn _ _ _, p, x, h, hr => by unfold Nz at h; subst h; exact hr
  | .ab _ _ _ _ _, p, x, h, hr => by unfold Nz at h; subst h; exact hr
theorem NzL.rep : (l l' : List PV) → (xs : List Value) → NzL l l' → RepL β n F w l' xs → RepL β n F w l xs
  | [], [], xs, _, hr => hr
  | [], _ :: _, _, h, _ => by simp [NzL] at h
  | _ :: _, [], _, h, _ => by simp [NzL] at h
  | p :: l, q :: l', [], _, hr => by simp [RepL] at hr
  | p :: l, q :: l', v :: xs, h, hr => by
    unfold NzL at h
    unfold RepL at hr ⊢
    exact ⟨Nz.rep p q v h.1 hr.1, NzL.rep l l' xs h.2 hr.2⟩
theorem NzS.rep : (l l' : List PV) → (b o : Nat) → NzL l l' → RepS β n F w l' b o → RepS β n F w l b o
  | [], [], _, _, _, _ => by unfold RepS; trivial
  | [], _ :: _, _, _, h, _ => by simp [NzL] at h
  | _ :: _, [], _, _, h, _ => by simp [NzL] at h
  | p :: l, q :: l', b, o, h, hr => by
    unfold NzL at h
    unfold RepS at hr ⊢
    obtain ⟨⟨v, h1, h2, h3⟩, h4⟩ := hr
    exact ⟨⟨v, h1, h2, Nz.rep p q v h.1 h3⟩, NzS.rep l l' b (o + 1) h.2 h4⟩
theorem NzR.rep (z : Nat) : (l l' : List (List PV)) → (b o : Nat) → NzR l l' → RepR β n F w z l' b o → RepR β n F w z l b o
  | [], [], _, _, _, _ => by unfold RepR; trivial
  | [], _ :: _, _, _, h, _ => by simp [NzR] at h
  | _ :: _, [], _, _, h, _ => by simp [NzR] at h
  | p :: l, q :: l', b, o, h, hr => by
    unfold NzR at h
    unfold RepR at hr ⊢
    exact ⟨⟨by rw [NzL.len p q h.1]; exact hr.1.1, NzS.rep p q b o h.1 hr.1.2⟩, NzR.rep z l l' b (o + z) h.2 hr.2⟩
end
end
theorem PCall.nz {P : Program} {f : FuncId} {ys xs : List PV} {h : Heap} {K : PV → Heap → Prop} (hc : PCall P f ys h K) (hz : NzL ys xs) : PCall P f xs h K :=
  fun β w vals sm hr => hc β w vals sm (NzL.rep ys xs vals hz hr)
theorem nz_nil {z : Nat} : Nz (.imm z []) (.sc (.slice none 0 0)) := by unfold Nz; exact .inr ⟨rfl, .inr rfl⟩
theorem nz_agg {r r' : List PV} (h : NzL r r') : Nz (.agg r) (.agg r') := by unfold Nz; exact ⟨_, rfl, h⟩
theorem nz_cons {p q : PV} {l m : List PV} (h : Nz p q) (h2 : NzL l m) : NzL (p :: l) (q :: m) := by unfold NzL; exact ⟨h, h2⟩
end Go.AM
namespace Go.Proofs.Ytjlkapgpjamnkaa
open Go.AM
set_option maxHeartbeats 4000000
set_option maxRecDepth 20000
theorem sr_nil : strRows [] = [] := rfl
theorem pr_nil : pmRows [] = [] := rfl
end Go.Proofs.Ytjlkapgpjamnkaa
namespace Go.Proofs.Ytjlkapgpjamnkaa
open Go.AM
set_option maxHeartbeats 4000000
set_option maxRecDepth 20000
theorem lookR_take : ∀ (k : Nat) (n a : List ByteArray) {s t x : ByteArray}, n[k]? = some s → a[k]? = some t →
  lookR (n.take (k + 1)) (a.take (k + 1)) x = match lookR (n.take k) (a.take k) x with | some v => some v | none => if bEq x s = true then some t else none
 | 0, n :: ns, a :: aa, s, t, x, h1, h2 => by
  simp only [List.getElem?_cons_zero, Option.some.injEq] at h1 h2
  subst h1; subst h2
  simp [lookR]
 | k + 1, n :: ns, a :: aa, s, t, x, h1, h2 => by
  have ih := lookR_take k ns aa (s := s) (t := t) (x := x) (by simpa using h1) (by simpa using h2)
  simp only [List.take_succ_cons, lookR] at ih ⊢
  split
  ·rfl
  ·exact ih
 | 0, [], _, _, _, _, h1, _ => by simp at h1
 | 0, _ :: _, [], _, _, _, _, h2 => by simp at h2
 | k + 1, [], _, _, _, _, h1, _ => by simp at h1
 | k + 1, _ :: _, [], _, _, _, _, h2 => by simp at h2
theorem lookR_all : ∀ (n a : List ByteArray) (k : Nat) (x : ByteArray), min n.length a.length ≤ k → lookR (n.take k) (a.take k) x = lookR n a x
 | [], a, k, x, _ => by simp [lookR]
 | n :: ns, [], k, x, _ => by
  cases k <;> simp [lookR]
 | n :: ns, a :: aa, 0, x, h => by simp only [List.length_cons] at h; omega
 | n :: ns, a :: aa, k + 1, x, h => by
  have ih := lookR_all ns aa k x (by simp only [List.length_cons] at h; omega)
  simp only [List.take_succ_cons, lookR, ih]
theorem str_beq (a b : ByteArray) : (a == b) = bEq a b := by
 by_cases h : a = b
 ·subst h; rw [(bytes_beq a a).2 rfl]; simp [bEq]
 ·have h1 : (a == b) = false := by
   cases hh : a == b with
   | true => exact absurd ((bytes_beq a b).1 hh) h
   | false => rfl
  have h2 : bEq a b = false := by
   cases hh : bEq a b with
   | true => exact absurd (bEq_eq hh) h
   | false => rfl
  rw [h1, h2]
theorem lookE_snoc (s t x : ByteArray) : ∀ m : List (ByteArray × ByteArray), lookE (m ++ [(s, t)]) x = match lookE m x with | some v => some v | none => if bEq x s = true then some t else none
 | [] => by simp only [List.nil_append, lookE, str_beq]
 | (k, v) :: m => by
  have ih := lookE_snoc s t x m
  simp only [List.cons_append, lookE, ih]
  split <;> rfl
theorem mput_E (s t : ByteArray) : ∀ m : List (ByteArray × ByteArray), lookE m s = none → mput (.string s) (sPV t) (toE m) = some (toE (m ++ [(s, t)]))
 | [], _ => rfl
 | (k, v) :: m, h => by
  simp only [lookE] at h
  split at h
  ·simp at h
  ·rename_i hne
   have ih := mput_E s t m h
   have hk : (s == k) = false := by simpa using hne
   simp only [toE, List.map_cons, List.cons_append, mput, keyEq] at ih ⊢
   rw [hk]
   simp only [ih, Option.map_some]
def termsNA (n a : List ByteArray) : Bool := (a.take (min n.length a.length)).all termB
structure RmI (h : Heap) (n a : List ByteArray) (k : Nat) (m : List (ByteArray × ByteArray)) (h' : Heap) : Prop where
 grow : Grow h h'
 next : h'.next = h.next + 1
 ob : h'.obj h.next = some (.map (toE m))
 all : (a.take k).all termB = true
 look : ∀ x, lookE m x = if varB x = true then lookR (n.take k) (a.take k) x else none
structure RmR (h : Heap) (n a : List ByteArray) (r : PV) (h' : Heap) : Prop where
 grow : Grow h h'
 next : h'.next = h.next + 1
 res : (termsNA n a = true ∧ r = .tup [.mp h.next, .sc (.bool true)] ∧ MapAt h' (.mp h.next) (toM n a)) ∨ (termsNA n a = false ∧ r = .tup [.sc (.map none), .sc (.bool false)])
theorem replacement_c {n a : List ByteArray} {pN pA : PV} {h : Heap} (hp : Sl h 1 pN (strRows n)) (hq : Sl h 1 pA (strRows a)) (hn : n.length ≤ 1099511627776) (ha : a.length ≤ 1099511627776) (hns : ∀ s ∈ n, s.size ≤ bigN) (has : ∀ s ∈ a, s.size ≤ bigN) :
  PCall Try.prog 81 [pN, pA] h fun r h' => RmR h n a r h' := by
 refine pcall_wf Ty.hb_81 fun hwf => ?_
 have hlN : ∀ H, lenP H pN = some n.length := fun H => by rw [lenP_sl hp H, strRows_len]
 have hlA : ∀ H, lenP H pA = some a.length := fun H => by rw [lenP_sl hq H, strRows_len]
 have hkN := hp.lk
 have hkA := hq.lk
 have hmn : (if (a.length : Int) < (n.length : Int) then (a.length : Int) else (n.length : Int)) = ((min n.length a.length : Nat) : Int) := by
  split <;> omega
 obtain ⟨M, hM⟩ : ∃ M, min n.length a.length = M := ⟨_, rfl⟩
 rw [hM] at hmn
 refine pcall_body (ow := fun _ => false) (wf := fun _ => false) Ty.mixed Try.func81 rfl Ty.hb_81 (by rw [Try.ntmps81]; simp) ?_
 rw [Try.ntmps81, Try.results81]
 repeat' (first | refine a_seq fun K hK => ?_ | (refine a_block ?_) | (refine a_regionS ?_; simp (maxSteps := 2000000) only [Ty.w, simprocAttr, hlN, hlA, hkN, hkA, pmin, hmn]) | (refine hK _ _ ?_; clear hK; try simp only [pst0, simprocAttr]))
 refine a_loop (fun c S h' => S 0 = pN ∧ S 1 = pA ∧ S 6 = .mp h.next ∧ S 15 = .sc (.int .i64 M) ∧ ∃ (k : Nat) (m : List (ByteArray × ByteArray)), S 16 = .sc (.int .i64 k) ∧ k ≤ M ∧ c = M - k ∧ RmI h n a k m h') M ?_ ?_
 ·simp only [Ty.w, simprocAttr]
  exact ⟨0, [], rfl, by omega, rfl, (Grow.refl h).new _, by simp [Heap.new], by simp [Heap.new, toE], by simp, fun x => by simp [lookE, lookR]⟩
 ·rintro c S h' ⟨g0, g1, g6, g15, k, m, g16, hk, rfl, hI⟩
  obtain ⟨hg, hnx, hob, hall, hlk⟩ := id hI
  by_cases hlt : k < M
  ·have hd : decide ((k : Int) < (M : Int)) = true := by simp; omega
   have w7 : IntKind.i64.wrap ((k : Int) + 1) = k + 1 := by rw [wrap64 (by omega) (by omega)]
   obtain ⟨s, hx⟩ : ∃ s, n[k]? = some s := ⟨_, List.getElem?_eq_getElem (by omega)⟩
   obtain ⟨t, hy⟩ : ∃ t, a[k]? = some t := ⟨_, List.getElem?_eq_getElem (by omega)⟩
   have hkeep : Keep h h' := ⟨hg.le, hg.old⟩
   obtain ⟨px, hpx, hrx⟩ := hp.kget hwf (strRows_get hx)
   obtain ⟨py, hpy, hry⟩ := hq.kget hwf (strRows_get hy)
   have hpx := hpx h' hkeep
   have hrx := hrx h' hkeep
   have hpy := hpy h' hkeep
   have hry := hry h' hkeep
   have hsz := hns s (List.mem_of_getElem? hx)
   have htz := has t (List.mem_of_getElem? hy)
   have hct := fun H : Heap => term_c (h := H) htz
   have hcv := fun H : Heap => fvariable_c (h := H) (s := s) (by unfold bigN at hsz; omega)
   have hall2 : (a.take (k + 1)).all termB = ((a.take k).all termB && termB t) := by rw [List.take_add_one, hy]; simp
   rw [hall] at hall2
   have hlt2 : ∀ x, lookR (n.take (k + 1)) (a.take (k + 1)) x = match lookR (n.take k) (a.take k) x with | some v => some v | none => if bEq x s = true then some t else none := fun x => lookR_take k n a hx hy
   cases q1 : termB t with
   | false =>
    rw [q1] at hct hall2
    have hres : termsNA n a = false := by
     unfold termsNA
     rw [hM]
     have : (a.take M).all termB = true → (a.take (k + 1)).all termB = true := fun hh => by
      rw [List.all_eq_true] at hh ⊢
      intro y hy
      refine hh y ?_
      have e : a.take (k + 1) = (a.take M).take (k + 1) := by rw [List.take_take]; congr 1; omega
      rw [e] at hy
      exact List.mem_of_mem_take hy
     cases hh : (a.take M).all termB with
     | false => rfl
     | true => rw [this hh] at hall2; simp at hall2
    repeat' (first | refine a_seq fun K hK => ?_ | (refine a_regionS ?_; simp (maxSteps := 2000000) only [Ty.w, simprocAttr, g0, g1, g6, g15, g16, hd, hpy, hry]) | (refine a_skip ?_; try simp only [pst0, simprocAttr]) | (refine a_cond _ (by (try simp (maxSteps := 2000000) only [Ty.w, simprocAttr, g0, g1, g6, g15, g16, hd, hpy, hry]); rfl) (fun hb => ?_) (fun hb => ?_) <;> (try simp only [hb0, decide_eq_true_eq, decide_eq_false_iff_not, simprocAttr] at hb) <;> (try (exfalso; omega))) | (refine hK _ _ ?_; clear hK; try simp only [pst0, simprocAttr]))
    refine owp_useQ (hct _) (by (try simp only [Ty.w, simprocAttr, g0, g1, g6, g15, g16, Bool.not_false]); try rfl) ?_; simp (maxSteps := 2000000) only [Ty.w, simprocAttr, g0, g1, g6, g15, g16, Bool.not_false]
    repeat' (first | refine a_seq fun K hK => ?_ | ((first | refine a_regionS ?_ | refine a_ret ?_); simp (maxSteps := 2000000) only [Ty.w, simprocAttr, g0, g1, g6, g15, g16, Bool.not_false]) | (refine hK _ _ ?_; clear hK; try simp only [pst0, simprocAttr]))
    exact ⟨hg, hnx, .inr ⟨hres, rfl⟩⟩
   | true =>
    rw [q1] at hct hall2
    have hmf := mfind_E s m
    have keep : (lookE m s).isSome = true ∨ varB s = false → ∀ x, lookE m x = if varB x = true then lookR (n.take (k + 1)) (a.take (k + 1)) x else none := fun hq x => by
     rw [hlk x, hlt2 x]
     by_cases hv : varB x = true
     ·rw [if_pos hv, if_pos hv]
      cases hl : lookR (n.take k) (a.take k) x with
      | some v => rfl
      | none =>
       simp only
       split
       ·rename_i he
        have he2 := bEq_eq he
        subst he2
        rcases hq with hq | hq
        ·rw [hlk x, if_pos hv, hl] at hq; simp at hq
        ·rw [hv] at hq; simp at hq
       ·rfl
     ·rw [if_neg hv, if_neg hv]
    cases q2 : lookE m s with
    | some v =>
     rw [q2] at hmf
     simp only [Option.map_some] at hmf
     have fin2 := keep (.inl (by rw [q2]; try rfl))
     have W := And.intro g0 (And.intro g1 (And.intro g6 (And.intro g15 g16)))
     repeat' (first | refine a_seq fun K hK => ?_ | (refine a_regionS ?_; simp (maxSteps := 2000000) only [Ty.w, simprocAttr, W, hd, hpy, hry]) | (refine a_skip ?_; try simp only [pst0, simprocAttr]) | (refine a_cond _ (by (try simp (maxSteps := 2000000) only [Ty.w, simprocAttr, W, hd, hpy, hry]); rfl) (fun hb => ?_) (fun hb => ?_) <;> (try simp only [hb0, decide_eq_true_eq, decide_eq_false_iff_not, simprocAttr] at hb) <;> (try (exfalso; omega))) | (refine hK _ _ ?_; clear hK; try simp only [pst0, simprocAttr]))
     refine owp_useQ (hct _) (by (try simp only [Ty.w, simprocAttr, W, Bool.not_true]); try rfl) ?_; simp (maxSteps := 2000000) only [Ty.w, simprocAttr, W, Bool.not_true]
     repeat' (first | refine a_seq fun K hK => ?_ | (refine a_block ?_) | (refine a_regionS ?_; simp (maxSteps := 2000000) only [Ty.w, simprocAttr, W, hpx, hrx, hob, hmf, w7, Bool.not_true]) | (refine a_skip ?_; try simp only [pst0, simprocAttr]) | (refine a_cond _ (by (try simp (maxSteps := 2000000) only [Ty.w, simprocAttr, W, hpx, hrx, hob, hmf, w7, Bool.not_true]); rfl) (fun hb => ?_) (fun hb => ?_) <;> (try simp only [hb0, decide_eq_true_eq, decide_eq_false_iff_not, simprocAttr] at hb) <;> (try (exfalso; omega))) | (refine hK _ _ ?_; clear hK; try simp only [pst0, simprocAttr]))
     exact ⟨M - (k + 1), by omega, k + 1, m, by simp, by omega, rfl, ⟨hg, hnx, hob, by rw [hall2]; try rfl, fin2⟩⟩
    | none =>
     rw [q2] at hmf
     simp only [Option.map_none] at hmf
     cases q3 : varB s with
     | false =>
      rw [q3] at hcv
      have fin2 := keep (.inr q3)
      have W := And.intro g0 (And.intro g1 (And.intro g6 (And.intro g15 g16)))
      repeat' (first | refine a_seq fun K hK => ?_ | (refine a_regionS ?_; simp (maxSteps := 2000000) only [Ty.w, simprocAttr, W, hd, hpy, hry]) | (refine a_skip ?_; try simp only [pst0, simprocAttr]) | (refine a_cond _ (by (try simp (maxSteps := 2000000) only [Ty.w, simprocAttr, W, hd, hpy, hry]); rfl) (fun hb => ?_) (fun hb => ?_) <;> (try simp only [hb0, decide_eq_true_eq, decide_eq_false_iff_not, simprocAttr] at hb) <;> (try (exfalso; omega))) | (refine hK _ _ ?_; clear hK; try simp only [pst0, simprocAttr]))
      refine owp_useQ (hct _) (by (try simp only [Ty.w, simprocAttr, W, Bool.not_true]); try rfl) ?_; simp (maxSteps := 2000000) only [Ty.w, simprocAttr, W, Bool.not_true]
      repeat' (first | refine a_seq fun K hK => ?_ | (refine a_regionS ?_; simp (maxSteps := 2000000) only [Ty.w, simprocAttr, W, hpx, hrx, hob, hmf, Bool.not_true, Bool.not_false]) | (refine a_skip ?_; try simp only [pst0, simprocAttr]) | (refine a_cond _ (by (try simp (maxSteps := 2000000) only [Ty.w, simprocAttr, W, hpx, hrx, hob, hmf, Bool.not_true, Bool.not_false]); rfl) (fun hb => ?_) (fun hb => ?_) <;> (try simp only [hb0, decide_eq_true_eq, decide_eq_false_iff_not, simprocAttr] at hb) <;> (try (exfalso; omega))) | (refine hK _ _ ?_; clear hK; try simp only [pst0, simprocAttr]))
      refine owp_useQ (hcv _) (by (try simp only [Ty.w, simprocAttr, W]); try rfl) ?_; simp (maxSteps := 2000000) only [Ty.w, simprocAttr, W]
      repeat' (first | (refine a_block ?_) | (refine a_regionS ?_; simp (maxSteps := 2000000) only [Ty.w, simprocAttr, W, w7]) | (refine a_skip ?_; try simp only [pst0, simprocAttr]) | (refine hK _ _ ?_; clear hK; try simp only [pst0, simprocAttr]))
      exact ⟨M - (k + 1), by omega, k + 1, m, by simp, by omega, rfl, ⟨hg, hnx, hob, by rw [hall2]; try rfl, fin2⟩⟩
     | true =>
      rw [q3] at hcv
      have hmp := mput_E s t m q2
      have fin2 : ∀ x, lookE (m ++ [(s, t)]) x = if varB x = true then lookR (n.take (k + 1)) (a.take (k + 1)) x else none := fun x => by
       rw [lookE_snoc, hlk x, hlt2 x]
       by_cases hv : varB x = true
       ·rw [if_pos hv, if_pos hv]
       ·rw [if_neg hv, if_neg hv]
        simp only
        rw [if_neg]
        intro he
        rw [bEq_eq he] at hv
        exact hv q3
      have hg2 := hg.set (Nat.le_refl h.next) (.map (toE (m ++ [(s, t)])))
      have W := And.intro g0 (And.intro g1 (And.intro g6 (And.intro g15 (And.intro g16 (And.intro hpx (And.intro hpy (And.intro hrx (And.intro hry hob))))))))
      repeat' (first | refine a_seq fun K hK => ?_ | (refine a_regionS ?_; simp (maxSteps := 2000000) only [Ty.w, simprocAttr, W, hd]) | (refine a_skip ?_; try simp only [pst0, simprocAttr]) | (refine a_cond _ (by (try simp (maxSteps := 2000000) only [Ty.w, simprocAttr, W, hd]); rfl) (fun hb => ?_) (fun hb => ?_) <;> (try simp only [hb0, decide_eq_true_eq, decide_eq_false_iff_not, simprocAttr] at hb) <;> (try (exfalso; omega))) | (refine hK _ _ ?_; clear hK; try simp only [pst0, simprocAttr]))
      refine owp_useQ (hct _) (by (try simp only [Ty.w, simprocAttr, W, Bool.not_true]); try rfl) ?_; simp (maxSteps := 2000000) only [Ty.w, simprocAttr, W, Bool.not_true]
      repeat' (first | refine a_seq fun K hK => ?_ | (refine a_regionS ?_; simp (maxSteps := 2000000) only [Ty.w, simprocAttr, W, hmf, Bool.not_true, Bool.not_false]) | (refine a_skip ?_; try simp only [pst0, simprocAttr]) | (refine a_cond _ (by (try simp (maxSteps := 2000000) only [Ty.w, simprocAttr, W, hmf, Bool.not_true, Bool.not_false]); rfl) (fun hb => ?_) (fun hb => ?_) <;> (try simp only [hb0, decide_eq_true_eq, decide_eq_false_iff_not, simprocAttr] at hb) <;> (try (exfalso; omega))) | (refine hK _ _ ?_; clear hK; try simp only [pst0, simprocAttr]))
      refine owp_useQ (hcv _) (by (try simp only [Ty.w, simprocAttr, W]); try rfl) ?_; simp (maxSteps := 2000000) only [Ty.w, simprocAttr, W]
      repeat' (first | (refine a_block ?_) | ((first | refine a_regionS ?_ | refine a_draw (by decide +kernel) (fun K hK => ?_)); simp (maxSteps := 2000000) only [Ty.w, simprocAttr, W, hmp, w7]) | (refine hK _ _ ?_; clear hK; try simp only [pst0, simprocAttr]) | (with_reducible refine a_past2 (by simp only [List.forall_mem_cons, Ty.w, simprocAttr, g0, g1, g6, g15, g16, hpx, hrx, hpy, hry, hob, hmp, w7]; (repeat' apply And.intro) <;> first | trivial | exact .inl (by decide +kernel)) ?_; try simp (maxSteps := 2000000) only [Ty.w, simprocAttr, W, hmp, w7]))
      exact ⟨M - (k + 1), by omega, k + 1, m ++ [(s, t)], by simp, by omega, rfl, ⟨hg2, hnx, by simp [Heap.set], by rw [hall2]; try rfl, fin2⟩⟩
  ·have hd : decide ((k : Int) < (M : Int)) = false := by simp; omega
   have hke : k = M := by omega
   subst hke
   have hres : termsNA n a = true := by unfold termsNA; rw [hM]; exact hall
   repeat' (first | refine a_seq fun K hK => ?_ | ((first | refine a_regionS ?_ | refine a_ret ?_); simp (maxSteps := 2000000) only [Ty.w, simprocAttr, g0, g1, g6, g15, g16, hd]) | (refine a_exit ?_; try simp only [pst0, simprocAttr]) | (refine a_cond _ (by (try simp (maxSteps := 2000000) only [Ty.w, simprocAttr, g0, g1, g6, g15, g16, hd]); rfl) (fun hb => ?_) (fun hb => ?_) <;> (try simp only [hb0, decide_eq_true_eq, decide_eq_false_iff_not, simprocAttr] at hb) <;> (try (exfalso; omega))) | ((first | refine hK _ _ ?_ | (clear hK; refine hK _ _ ?_)); clear hK; try simp only [pst0, simprocAttr]))
   refine ⟨hg, hnx, .inl ⟨hres, rfl, ⟨⟨m, by simp only [mview, hob], fun x => ?_⟩, fun id e => by simp only [PV.mp.injEq] at e; omega⟩⟩⟩
   rw [hlk x, lookR_all n a k x (by omega)]
   unfold toM
   rw [look_filt]
theorem Bind_c {f : Fm} {n a : List ByteArray} {pN pA : PV} {h : Heap} (hp : Sl h 1 pN (strRows n)) (hq : Sl h 1 pA (strRows a)) (hok : f.ok) (hsm : f.small) (hb : PV.bulkL f.cells ≤ 1099511627776) (hn : n.length ≤ 1099511627776) (ha : a.length ≤ 1099511627776) (hns : ∀ s ∈ n, s.size ≤ bigN) (has : ∀ s ∈ a, s.size ≤ bigN) :
  PCall Try.prog 45 [.agg f.cells, pN, pA] h fun r h' => r = .agg (if termsNA n a = true ∧ validF f = true then bindFm (toM n a) f [] else zeroFm).cells ∧ h' = h := by
 have hv := fun H => fvalid_c hok hsm H
 have hsh : validF f = true → shapedF f = true := fun h => (validF_iff.1 h).1
 refine pcall_wf Ty.hb_45 fun hwf => ?_
 refine PCall.frz Ty.hb_45 ?_
 have hr := replacement_c (hp.up hwf (keep_new (o := .arr 6 [[.sc (.string ⟨#[]⟩), .sc (.string ⟨#[]⟩), .sc (.slice none 0 0), .sc (.slice none 0 0), .sc (.slice none 0 0), .sc (.slice none 0 0)]]) (Keep.refl h))) (hq.up hwf (keep_new (Keep.refl h))) hn ha hns has
 have hbd : ∀ H : Heap, validF f = true → MapAt H (.mp (h.next + 1)) (toM n a) → PCall Try.prog 82 [.agg f.cells, .mp (h.next + 1), .sc (.slice none 0 0)] H fun r h' => r = .agg (bindFm (toM n a) f []).cells ∧ h' = H := fun H hq hm => by
  refine PCall.nil_imm (z := 1) (pre := [.agg f.cells, .mp (h.next + 1)]) (post := []) ?_
  exact bindF_c f hsm (hsh hq) (bound := []) (by simpa using hb) hm
 have hfz := fun (n' : Nat) (H : Heap) => fm_frz n' H (bindFm (toM n a) f [])
 generalize bindFm (toM n a) f [] = y at hbd hfz ⊢
 generalize hY : (if termsNA n a = true ∧ validF f = true then y else zeroFm) = Y
 obtain ⟨yo, yn, ya, yp, ye, yk⟩ := y
 obtain ⟨op, name, args, params, exprs, kids⟩ := f
 simp only [Fm.cells] at hv hbd hfz
 simp only [Fm.cells]
 refine pcall_body (ow := fun _ => false) (wf := fun g => g == 81) Ty.mixed Try.func45 rfl Ty.hb_45 (by rw [Try.ntmps45]; simp) ?_
 rw [Try.ntmps45, Try.results45]
 repeat' (first | refine a_seq fun K hK => ?_ | (refine a_regionS ?_; simp (maxSteps := 2000000) only [Ty.w, simprocAttr, nsucc]) | (refine hK _ _ ?_; clear hK; try simp only [pst0, simprocAttr]))
 refine owp_useL hr (by (try simp only [Ty.w, simprocAttr]); try rfl) ?_
 rintro r h1 ⟨gr, nx, hres⟩
 have o1 : h1.obj h.next = some (.arr 6 [[.sc (.string ⟨#[]⟩), .sc (.string ⟨#[]⟩), .sc (.slice none 0 0), .sc (.slice none 0 0), .sc (.slice none 0 0), .sc (.slice none 0 0)]]) := by rw [gr.old _ (by simp [Heap.new])]; simp [Heap.new]
 have g1 : Grow h h1 := ((Grow.refl h).new _).trans gr
 rcases hres with ⟨q, rfl, hm⟩ | ⟨q, rfl⟩
 ·simp only [new_next] at hm
  simp (maxSteps := 2000000) only [Ty.w, simprocAttr, Ty.all, nsucc]
  cases q2 : validF (.mk op name args params exprs kids) with
  | false =>
   rw [q2] at hv
   have hY2 : Y = zeroFm := by rw [← hY, if_neg (by rw [q2]; simp)]
   subst hY2
   repeat' (first | refine a_seq fun K hK => ?_ | (refine a_regionS ?_; simp (maxSteps := 2000000) only [Ty.w, simprocAttr, nsucc, Bool.not_true]) | (refine hK _ _ ?_; clear hK; try simp only [pst0, simprocAttr]))
   refine owp_useQ (hv _) (by (try simp only [Ty.w, simprocAttr, nsucc, Bool.not_false]); try rfl) ?_; simp (maxSteps := 2000000) only [Ty.w, simprocAttr, nsucc, Bool.not_false]
   repeat' (first | refine a_seq fun K hK => ?_ | ((first | refine a_regionS ?_ | refine a_ret ?_); simp (maxSteps := 2000000) only [Ty.w, simprocAttr, nsucc, o1, Bool.not_false, putC]) | (refine hK _ _ ?_; clear hK; try simp only [pst0, simprocAttr]))
   exact ⟨frz_fm frz_nilslice frz_nilslice frz_nilslice, g1.set (Nat.le_refl _) _⟩
  | true =>
   rw [q2] at hv
   have hY2 : Y = .mk yo yn ya yp ye yk := by rw [← hY, if_pos ⟨q, q2⟩]
   subst hY2
   have hc := hbd h1 q2 hm
   repeat' (first | refine a_seq fun K hK => ?_ | (refine a_regionS ?_; simp (maxSteps := 2000000) only [Ty.w, simprocAttr, nsucc, Bool.not_true]) | (refine hK _ _ ?_; clear hK; try simp only [pst0, simprocAttr]))
   refine owp_useQ (hv _) (by (try simp only [Ty.w, simprocAttr, nsucc, Bool.not_true]); try rfl) ?_; simp (maxSteps := 2000000) only [Ty.w, simprocAttr, nsucc, Bool.not_true]
   repeat' (first | refine a_seq fun K hK => ?_ | (refine a_regionS ?_; simp (maxSteps := 2000000) only [Ty.w, simprocAttr, nsucc, Bool.not_true]) | (refine a_skip ?_; try simp only [pst0, simprocAttr]) | (refine a_cond _ (by (try simp (maxSteps := 2000000) only [Ty.w, simprocAttr, nsucc, Bool.not_true]); rfl) (fun hb => ?_) (fun hb => ?_) <;> (try simp only [hb0, decide_eq_true_eq, decide_eq_false_iff_not, simprocAttr] at hb) <;> (try (exfalso; omega))) | (refine hK _ _ ?_; clear hK; try simp only [pst0, simprocAttr]))
   refine owp_useQ (hc) (by (try simp only [Ty.w, simprocAttr, nsucc, o1, putC]); try rfl) ?_; simp (maxSteps := 2000000) only [Ty.w, simprocAttr, nsucc, o1, putC]
   repeat' (first | (refine a_ret ?_; simp (maxSteps := 2000000) only [Ty.w, simprocAttr, nsucc, o1, putC]) | (refine hK _ _ ?_; clear hK; try simp only [pst0, simprocAttr]))
   exact ⟨frz_agg (hfz _ _), g1.set (Nat.le_refl _) _⟩
 ·have hY2 : Y = zeroFm := by rw [← hY, if_neg (by rw [q]; simp)]
  subst hY2
  simp (maxSteps := 2000000) only [Ty.w, simprocAttr, Ty.all, nsucc]
  repeat' (first | refine a_seq fun K hK => ?_ | ((first | refine a_regionS ?_ | refine a_ret ?_); simp (maxSteps := 2000000) only [Ty.w, simprocAttr, nsucc, Bool.not_false, o1, putC]) | (refine hK _ _ ?_; clear hK; try simp only [pst0, simprocAttr]))
  exact ⟨frz_fm frz_nilslice frz_nilslice frz_nilslice, g1.set (Nat.le_refl _) _⟩
theorem BindExpr_c {e : Ex} {n a : List ByteArray} {pN pA : PV} {h : Heap} (hp : Sl h 1 pN (strRows n)) (hq : Sl h 1 pA (strRows a)) (hok : e.ok) (hsm : e.small) (hn : n.length ≤ 1099511627776) (ha : a.length ≤ 1099511627776) (hns : ∀ s ∈ n, s.size ≤ bigN) (has : ∀ s ∈ a, s.size ≤ bigN) :
  PCall Try.prog 46 [.agg e.cells, pN, pA] h fun r h' => r = .agg (if termsNA n a = true ∧ validE e = true then bindEx (toM n a) [] e else .mk ⟨#[]⟩ ⟨#[]⟩ 0 [] []).cells ∧ h' = h := by
 have hv := fun H => validE_c hok hsm H
 have hsh : validE e = true → shapedE e = true := fun h => by
  unfold validE at h
  have h1 := formedM_shaped e 0 0
  cases hq : (formedM e 0 0).1 with
  | true => exact h1 hq
  | false => rw [hq] at h; simp at h
 refine pcall_wf Ty.hb_46 fun hwf => ?_
 refine PCall.frz Ty.hb_46 ?_
 have hr := replacement_c (hp.up hwf (keep_new (o := .arr 5 [[.sc (.string ⟨#[]⟩), .sc (.string ⟨#[]⟩), .sc (.int .i64 0), .sc (.slice none 0 0), .sc (.slice none 0 0)]]) (Keep.refl h))) (hq.up hwf (keep_new (Keep.refl h))) hn ha hns has
 have hbd : ∀ H : Heap, validE e = true → MapAt H (.mp (h.next + 1)) (toM n a) → PCall Try.prog 83 [.agg e.cells, .mp (h.next + 1), .sc (.slice none 0 0)] H fun r h' => r = .agg (bindEx (toM n a) [] e).cells ∧ h' = H := fun H hq hm => by
  refine PCall.nil_imm (z := 1) (pre := [.agg e.cells, .mp (h.next + 1)]) (post := []) ?_
  exact bindE_c e hsm (hsh hq) (bound := []) (by simp [bigN]) hm
 have hfz := fun (n' : Nat) (H : Heap) => ex_frz n' H (bindEx (toM n a) [] e)
 generalize bindEx (toM n a) [] e = y at hbd hfz ⊢
 generalize hY : (if termsNA n a = true ∧ validE e = true then y else .mk ⟨#[]⟩ ⟨#[]⟩ 0 [] []) = Y
 obtain ⟨yo, yn, yv, ya, yk⟩ := y
 obtain ⟨op, name, v, args, kids⟩ := e
 simp only [Ex.cells] at hv hbd hfz
 simp only [Ex.cells]
 have hz : ∀ (n' : Nat) (H : Heap), FrzTo n' H (.agg [sPV ⟨#[]⟩, sPV ⟨#[]⟩, .sc (.int .i64 0), .imm 1 [], .imm 5 []]) (.agg [.sc (.string ⟨#[]⟩), .sc (.string ⟨#[]⟩), .sc (.int .i64 0), .sc (.slice none 0 0), .sc (.slice none 0 0)]) := fun n' H => by
  refine frz_agg ?_
  unfold FrzL; refine ⟨by simp only [FrzTo], ?_⟩
  unfold FrzL; refine ⟨by simp only [FrzTo], ?_⟩
  unfold FrzL; refine ⟨by simp only [FrzTo], ?_⟩
  unfold FrzL; refine ⟨frz_nilslice, ?_⟩
  unfold FrzL; refine ⟨frz_nilslice, ?_⟩
  simp only [FrzL]
 refine pcall_body (ow := fun _ => false) (wf := fun g => g == 81) Ty.mixed Try.func46 rfl Ty.hb_46 (by rw [Try.ntmps46]; simp) ?_
 rw [Try.ntmps46, Try.results46]
 repeat' (first | refine a_seq fun K hK => ?_ | (refine a_regionS ?_; simp (maxSteps := 2000000) only [Ty.w, simprocAttr, nsucc]) | (refine hK _ _ ?_; clear hK; try simp only [pst0, simprocAttr]))
 refine owp_useL hr (by (try simp only [Ty.w, simprocAttr]); try rfl) ?_
 rintro r h1 ⟨gr, nx, hres⟩
 have o1 : h1.obj h.next = some (.arr 5 [[.sc (.string ⟨#[]⟩), .sc (.string ⟨#[]⟩), .sc (.int .i64 0), .sc (.slice none 0 0), .sc (.slice none 0 0)]]) := by rw [gr.old _ (by simp [Heap.new])]; simp [Heap.new]
 have g1 : Grow h h1 := ((Grow.refl h).new _).trans gr
 rcases hres with ⟨q, rfl, hm⟩ | ⟨q, rfl⟩
 ·simp only [new_next] at hm
  simp (maxSteps := 2000000) only [Ty.w, simprocAttr, Ty.all, nsucc]
  cases q2 : validE (.mk op name v args kids) with
  | false =>
   rw [q2] at hv
   have hY2 : Y = .mk ⟨#[]⟩ ⟨#[]⟩ 0 [] [] := by rw [← hY, if_neg (by rw [q2]; simp)]
   subst hY2
   repeat' (first | refine a_seq fun K hK => ?_ | (refine a_regionS ?_; simp (maxSteps := 2000000) only [Ty.w, simprocAttr, nsucc, Bool.not_true]) | (refine hK _ _ ?_; clear hK; try simp only [pst0, simprocAttr]))
   refine owp_useQ (hv _) (by (try simp only [Ty.w, simprocAttr, nsucc, Bool.not_false]); try rfl) ?_; simp (maxSteps := 2000000) only [Ty.w, simprocAttr, nsucc, Bool.not_false]
   repeat' (first | refine a_seq fun K hK => ?_ | ((first | refine a_regionS ?_ | refine a_ret ?_); simp (maxSteps := 2000000) only [Ty.w, simprocAttr, nsucc, o1, Bool.not_false, putC]) | (refine hK _ _ ?_; clear hK; try simp only [pst0, simprocAttr]))
   exact ⟨hz _ _, g1.set (Nat.le_refl _) _⟩
  | true =>
   rw [q2] at hv
   have hY2 : Y = .mk yo yn yv ya yk := by rw [← hY, if_pos ⟨q, q2⟩]
   subst hY2
   have hc := hbd h1 q2 hm
   repeat' (first | refine a_seq fun K hK => ?_ | (refine a_regionS ?_; simp (maxSteps := 2000000) only [Ty.w, simprocAttr, nsucc, Bool.not_true]) | (refine hK _ _ ?_; clear hK; try simp only [pst0, simprocAttr]))
   refine owp_useQ (hv _) (by (try simp only [Ty.w, simprocAttr, nsucc, Bool.not_true]); try rfl) ?_; simp (maxSteps := 2000000) only [Ty.w, simprocAttr, nsucc, Bool.not_true]
   repeat' (first | refine a_seq fun K hK => ?_ | (refine a_regionS ?_; simp (maxSteps := 2000000) only [Ty.w, simprocAttr, nsucc, Bool.not_true]) | (refine a_skip ?_; try simp only [pst0, simprocAttr]) | (refine a_cond _ (by (try simp (maxSteps := 2000000) only [Ty.w, simprocAttr, nsucc, Bool.not_true]); rfl) (fun hb => ?_) (fun hb => ?_) <;> (try simp only [hb0, decide_eq_true_eq, decide_eq_false_iff_not, simprocAttr] at hb) <;> (try (exfalso; omega))) | (refine hK _ _ ?_; clear hK; try simp only [pst0, simprocAttr]))
   refine owp_useQ (hc) (by (try simp only [Ty.w, simprocAttr, nsucc, o1, putC]); try rfl) ?_; simp (maxSteps := 2000000) only [Ty.w, simprocAttr, nsucc, o1, putC]
   repeat' (first | (refine a_ret ?_; simp (maxSteps := 2000000) only [Ty.w, simprocAttr, nsucc, o1, putC]) | (refine hK _ _ ?_; clear hK; try simp only [pst0, simprocAttr]))
   exact ⟨frz_agg (hfz _ _), g1.set (Nat.le_refl _) _⟩
 ·have hY2 : Y = .mk ⟨#[]⟩ ⟨#[]⟩ 0 [] [] := by rw [← hY, if_neg (by rw [q]; simp)]
  subst hY2
  simp (maxSteps := 2000000) only [Ty.w, simprocAttr, Ty.all, nsucc]
  repeat' (first | refine a_seq fun K hK => ?_ | ((first | refine a_regionS ?_ | refine a_ret ?_); simp (maxSteps := 2000000) only [Ty.w, simprocAttr, nsucc, Bool.not_false, o1, putC]) | (refine hK _ _ ?_; clear hK; try simp only [pst0, simprocAttr]))
  exact ⟨hz _ _, g1.set (Nat.le_refl _) _⟩
end Go.Proofs.Ytjlkapgpjamnkaa
namespace Go.AM
section
variable {P : Program} {ow : Nat → Bool} {wf : FuncId → Bool} {n : Nat} {Q : Post} {s : Slots} {h : Heap}
def alIdx (ops : List Oper) : List Nat := (List.range ops.length).filter (alB ops)
def drn2 (P : Program) (ow : Nat → Bool) (wf : FuncId → Bool) (n : Nat) (ops : List Oper) (al : List Nat) (base : Nat) : Nat → List Oper → Past → List (Nat × Heap) → (Slots → Heap → Prop) → Slots → Heap → Prop
  | _, [], _, _, K, s, h => K s h
  | k, o :: rest, past, hist, K, s, h => (o.dst.all (fun d => decide (d < n)) = true) ∧ match wantedB ops s o with
    | none => False
    | some b => if b = true then
        (match o.op with
        | .alloc t => (match zeroT P t with
          | some zs => 0 < zs.length ∧ (∀ f ∈ al, k < f → (h.set (base + k) (.arr zs.length [zs.map .sc])).obj (base + f) = none) ∧ (∀ x ∈ past, pre ops x.1 k = true ∨ Does P ow x.2.1 (pev x.2.2.1) (h.set (base + k) (.arr zs.length [zs.map .sc])) x.2.2.2 (h.set (base + k) (.arr zs.length [zs.map .sc]))) ∧
              drn2 P ow wf n ops al base (k + 1) rest past ((k, h) :: hist) K (updO s o.dst (.ptr (base + k) 0 0)) (h.set (base + k) (.arr zs.length [zs.map .sc]))
          | none => False)
        | _ => (match callee (pev s) o.op with
          | none => (match eff P (o.dst.any ow) o.op (pev s) h with
            | some (v, h1) => if isW ow wf o = true then (∀ f ∈ al, k < f → h1.obj (base + f) = none) ∧ (∀ x ∈ past, pre ops x.1 k = true ∨ Does P ow x.2.1 (pev x.2.2.1) h1 x.2.2.2 h1) ∧ drn2 P ow wf n ops al base (k + 1) rest past ((k, h) :: hist) K (updO s o.dst v) h1
              else h1 = h ∧ (∀ x ∈ hist, pre ops x.1 k = true ∨ Does P ow o (pev s) x.2 v x.2) ∧ drn2 P ow wf n ops al base (k + 1) rest ((k, o, s, v) :: past) hist K (updO s o.dst v) h
            | none => False)
          | some _ => (if isW ow wf o = true then ∃ v h', Does P ow o (pev s) h v h' ∧ ((∀ f ∈ al, k < f → h'.obj (base + f) = none) ∧ ∀ x ∈ pastC P ow past, pre ops x.1 k = true ∨ x.2 h') ∧ drun2 P ow wf n ops base (k + 1) rest (pastC P ow past) ((k, h) :: hist) K (updO s o.dst v) h'
            else ∃ v, Does P ow o (pev s) h v h ∧ (∀ x ∈ hist, pre ops x.1 k = true ∨ Does P ow o (pev s) x.2 v x.2) ∧ drun2 P ow wf n ops base (k + 1) rest (pastC P ow ((k, o, s, v) :: past)) hist K (updO s o.dst v) h)))
      else drn2 P ow wf n ops al base (k + 1) rest past hist K (updO s o.dst (.sc undef)) h
theorem mem_alIdx {ops : List Oper} {f : Nat} (h : alB ops f = true) : f ∈ alIdx ops := by
  simp only [alIdx, List.mem_filter, List.mem_range]
  refine ⟨?_, h⟩
  unfold alB at h
  split at h
  · rename_i o ho
    exact (List.getElem?_eq_some_iff.1 ho).1
  · simp at h
theorem drn2_drun2 {ops : List Oper} {al : List Nat} (hal : alIdx ops = al) {base : Nat} {K : Slots → Heap → Prop} : (rest : List Oper) → (k : Nat) → (past : Past) → (hist : List (Nat × Heap)) → (s : Slots) → (h : Heap) → drn2 P ow wf n ops al base k rest past hist K s h → drun2 P ow wf n ops base k rest (pastC P ow past) hist K s h
  | [], _, _, _, _, _, hh => by simpa only [drn2, drun2] using hh
  | o :: rest, k, past, hist, s, h, hh => by
    simp only [drn2] at hh
    simp only [drun2]
    refine ⟨hh.1, ?_⟩
    have h2 := hh.2
    clear hh
    have pc : ∀ h1, (∀ x ∈ past, pre ops x.1 k = true ∨ Does P ow x.2.1 (pev x.2.2.1) h1 x.2.2.2 h1) → ∀ x ∈ pastC P ow past, pre ops x.1 k = true ∨ x.2 h1 := by
      intro h1 hp x hx
      obtain ⟨y, hy, rfl⟩ := List.mem_map.1 hx
      exact hp y hy
    have alc : ∀ h1 : Heap, (∀ f ∈ al, k < f → h1.obj (base + f) = none) → ∀ f, k < f → alB ops f = true → h1.obj (base + f) = none := fun h1 hp f hf ha => hp f (by rw [← hal]; exact mem_alIdx ha) hf
    cases hw : wantedB ops s o with
    | none => rw [hw] at h2; exact h2
    | some b =>
      rw [hw] at h2
      simp only at h2 ⊢
      split at h2
      · rename_i hb
        rw [if_pos hb]
        split at h2
        · rename_i t hop
          split at h2
          · rename_i zs hz
            obtain ⟨a1, a2, a3, a4⟩ := h2
            have hi : isW ow wf o = true := by unfold isW; rw [hop]
            rw [if_pos hi]
            exact ⟨_, _, by unfold DoesR; rw [hop]; exact ⟨zs, hz, a1, rfl, rfl⟩, alc _ a2, pc _ a3, drn2_drun2 hal rest (k + 1) _ _ _ _ a4⟩
          · exact h2.elim
        · rename_i hne
          cases hc : callee (pev s) o.op with
          | none =>
            rw [hc] at h2
            simp only at h2
            cases he : eff P (o.dst.any ow) o.op (pev s) h with
            | none => rw [he] at h2; exact h2.elim
            | some r =>
              obtain ⟨v, h1⟩ := r
              rw [he] at h2
              simp only at h2
              have hd : Does P ow o (pev s) h v h1 := by unfold Does; rw [hc]; exact he
              split at h2
              · rename_i hi
                rw [if_pos hi]
                have hdr : DoesR P ow (base + k) o (pev s) h v h1 := by
                  unfold DoesR
                  split
                  · rename_i t hop; exact absurd hop (hne t)
                  · exact hd
                exact ⟨v, h1, hdr, alc h1 h2.1, pc h1 h2.2.1, drn2_drun2 hal rest (k + 1) _ _ _ _ h2.2.2⟩
              · rename_i hi
                rw [if_neg hi]
                obtain ⟨rfl, h3, h4⟩ := h2
                exact ⟨v, hd, h3, drn2_drun2 hal rest (k + 1) _ _ _ _ h4⟩
          | some f =>
            rw [hc] at h2
            simp only at h2
            have dr : ∀ {v : PV} {h1 : Heap}, Does P ow o (pev s) h v h1 → DoesR P ow (base + k) o (pev s) h v h1 := fun hd => by
              unfold DoesR
              split
              · rename_i t hop; exact absurd hop (hne t)
              · exact hd
            split at h2
            · rename_i hi
              rw [if_pos hi]
              obtain ⟨v, h1, hd, h3, h4⟩ := h2
              exact ⟨v, h1, dr hd, alc h1 h3.1, h3.2, h4⟩
            · rename_i hi
              rw [if_neg hi]
              obtain ⟨v, hd, h3, h4⟩ := h2
              exact ⟨v, hd, h3, h4⟩
      · rename_i hb
        rw [if_neg hb]
        exact drn2_drun2 hal rest (k + 1) _ _ _ _ h2
theorem a_draw2S {id : Nat} {ops : List Oper} {K : Slots → Heap → Prop} (al : List Nat) (hd : dOk2 ow wf ops = true) (ha : alIdx ops = al) (hk : drn2 P ow wf n ops al h.next 0 ops [] [] K s ⟨h.next + ops.length, h.obj⟩) : awp P ow wf n (.region id ops.toArray true) (Post.seq K Q) s h := by
  simp only [awp, if_true]; exact .inr (.inl ⟨hd, drn2_drun2 ha ops 0 _ _ _ _ hk⟩)
theorem a_dcall2 {f : FuncId} {d : Nat} {args : List Operand} {ts : Array TypeId} {ty : TypeId} {pos : String} {af : Array Edge} {gd : Option (Nat × Bool)} {aS : List PV} {v : PV} {ops rest : List Oper} {base k k' : Nat} {past : Past} {hist : List (Nat × Heap)} {K : Slots → Heap → Prop} (al : List Nat) (ha : alIdx ops = al)
    (hc : PCall P f aS h fun r h' => r = v ∧ h' = h) (hs : args.map (pev s) = aS)
    (hk : drn2 P ow wf n ops al base k rest ((k', { dst := some d, op := .call { callee := .value (.func f), args := args.toArray, argTypes := ts }, type := ty, pos := pos, after := af, guard := gd }, s, v) :: past) hist K (upd s d v) h) :
    ∃ v, Does P ow { dst := some d, op := .call { callee := .value (.func f), args := args.toArray, argTypes := ts }, type := ty, pos := pos, after := af, guard := gd } (pev s) h v h ∧
      drun2 P ow wf n ops base k rest (pastC P ow ((k', { dst := some d, op := .call { callee := .value (.func f), args := args.toArray, argTypes := ts }, type := ty, pos := pos, after := af, guard := gd }, s, v) :: past)) hist K (upd s d v) h :=
  ⟨v, Does_use hc hs, drn2_drun2 ha _ _ _ _ _ _ hk⟩
theorem a_dcall2A {f : FuncId} {d : Nat} {args : List Operand} {ts : Array TypeId} {ty : TypeId} {pos : String} {af : Array Edge} {gd : Option (Nat × Bool)} {aS : List PV} {v : PV} {ops rest : List Oper} {base k k' : Nat} {past : Past} {hist : List (Nat × Heap)} {K : Slots → Heap → Prop} {A : PV → Prop} (al : List Nat) (ha : alIdx ops = al)
    (hc : PCall P f aS h fun r h' => r = v ∧ h' = h) (hs : args.map (pev s) = aS) (hA : A v)
    (hk : drn2 P ow wf n ops al base k rest ((k', { dst := some d, op := .call { callee := .value (.func f), args := args.toArray, argTypes := ts }, type := ty, pos := pos, after := af, guard := gd }, s, v) :: past) hist K (upd s d v) h) :
    ∃ v, Does P ow { dst := some d, op := .call { callee := .value (.func f), args := args.toArray, argTypes := ts }, type := ty, pos := pos, after := af, guard := gd } (pev s) h v h ∧ A v ∧
      drun2 P ow wf n ops base k rest (pastC P ow ((k', { dst := some d, op := .call { callee := .value (.func f), args := args.toArray, argTypes := ts }, type := ty, pos := pos, after := af, guard := gd }, s, v) :: past)) hist K (upd s d v) h :=
  ⟨v, Does_use hc hs, hA, drn2_drun2 ha _ _ _ _ _ _ hk⟩
end
end Go.AM
namespace Go.Proofs.Ytjlkapgpjamnkaa
open Go.AM
set_option maxHeartbeats 4000000
set_option maxRecDepth 20000
theorem frz_pms {n : Nat} {H : Heap} : ∀ l : List Pm, FrzR n H (pmRows l) (pmRows l)
 | [] => by simp only [pmRows, List.map_nil, FrzR]
 | p :: l => by
  have := frz_pms (n := n) (H := H) l
  simp only [pmRows, List.map_cons, pmRow] at this ⊢
  unfold FrzR
  refine ⟨?_, this⟩
  unfold FrzL; refine ⟨by simp only [FrzTo], ?_⟩
  unfold FrzL; refine ⟨by simp only [FrzTo], ?_⟩
  simp only [FrzL]
end Go.Proofs.Ytjlkapgpjamnkaa
namespace Go.Proofs.Ytjlkapgpjamnkaa
open Go.AM
set_option maxHeartbeats 4000000
set_option maxRecDepth 20000
theorem rreplace_c {l n a : List ByteArray} {pN pA : PV} {h : Heap} (hp : Sl h 1 pN (strRows n)) (hq : Sl h 1 pA (strRows a)) (hl : l.length ≤ 1048576) :
  PCall Try.prog 66 [.imm 1 (strRows l), pN, pA] h fun r h' => r = .imm 1 (strRows (l.map (replR n a))) ∧ h' = h := by
 refine pcall_wf Ty.hb_66 fun hwf => ?_
 refine pcall_len hp (by simp) Ty.hb_66 fun hn => ?_
 refine pcall_len hq (by simp) Ty.hb_66 fun ha => ?_
 rw [strRows_len] at hn ha
 refine PCall.frz Ty.hb_66 ?_
 have hlN : ∀ H, lenP H pN = some n.length := fun H => by rw [lenP_sl hp H, strRows_len]
 have hlA : ∀ H, lenP H pA = some a.length := fun H => by rw [lenP_sl hq H, strRows_len]
 have hkN := hp.lk
 have hkA := hq.lk
 have hlL := strRows_len l
 refine pcall_body (ow := fun _ => false) (wf := fun _ => false) Ty.mixed Try.func66 rfl Ty.hb_66 (by rw [Try.ntmps66]; simp) ?_
 rw [Try.ntmps66, Try.results66]
 repeat' (first | refine a_seq fun K hK => ?_ | (refine a_block ?_) | (refine a_regionS ?_; simp (maxSteps := 2000000) only [Ty.w, simprocAttr]) | (refine hK _ _ ?_; clear hK; try simp only [pst0, simprocAttr]))
 refine a_loop (fun m S h' => S 0 = .imm 1 (strRows l) ∧ S 1 = pN ∧ S 2 = pA ∧ ∃ (k : Nat) (o : PV), S 8 = .sc (.int .i64 k) ∧ S 7 = o ∧ k ≤ l.length ∧ m = l.length - k ∧ Grow h h' ∧ Tl h' h.next 1 o (strRows ((l.take k).map (replR n a)))) l.length ?_ ?_
 ·simp only [Ty.w, simprocAttr]
  exact ⟨0, _, rfl, rfl, by omega, rfl, Grow.refl _, Tl.nil⟩
 ·rintro m S h' ⟨g0, g1, g2, k, o, g8, g7, hk, rfl, hg, tl⟩
  by_cases hlt : k < l.length
  ·have hd : decide ((k : Int) < (l.length : Int)) = true := by simp; omega
   have w7 : IntKind.i64.wrap ((k : Int) + 1) = k + 1 := by rw [wrap64 (by omega) (by omega)]
   obtain ⟨s, hx⟩ : ∃ s, l[k]? = some s := ⟨_, List.getElem?_eq_getElem hlt⟩
   have hr := strRows_get hx
   have hkeep : Keep h h' := ⟨hg.le, hg.old⟩
   -- what stands at the end of a round
   have hR : strRows ((l.take (k + 1)).map (replR n a)) = strRows ((l.take k).map (replR n a)) ++ [[sPV (replR n a s)]] := by
    rw [List.take_add_one, hx]; simp [strRows]
   have hlen : (strRows ((l.take k).map (replR n a))).length = k := by rw [strRows_len]; simp; omega
   generalize strRows ((l.take k).map (replR n a)) = R at tl hR hlen
   obtain ⟨H, t1, t2, t3, t4, t5⟩ := tl.tail
   have hkp := t5 h hkeep (Nat.le_refl _)
   have hgH : Grow h H := ⟨hkp.1, hkp.2⟩
   have hbb : (k + 1) * 16 ≤ 140737488355328 := by omega
   have fin : ∀ t, t = replR n a s → Tl (H.new (.arr 1 (R ++ [[sPV t]]))) h.next 1 (.own h'.next 0 (k + 1)) (strRows ((l.take (k + 1)).map (replR n a))) := fun t ht => by
    rw [hR, ht, ← t3]
    exact Tl.grow hkp.1 (by simp [hlen])
   repeat' (first | refine a_seq fun K hK => ?_ | (refine a_block ?_) | (refine a_regionS ?_; simp (maxSteps := 2000000) only [Ty.w, simprocAttr, g0, g1, g2, g7, g8, hlL, hd, hr]) | (refine a_skip ?_; try simp only [pst0, simprocAttr]) | (refine a_cond _ (by (try simp (maxSteps := 2000000) only [Ty.w, simprocAttr, g0, g1, g2, g7, g8, hlL, hd, hr]); rfl) (fun hb => ?_) (fun hb => ?_) <;> (try simp only [hb0, decide_eq_true_eq, decide_eq_false_iff_not, simprocAttr] at hb) <;> (try (exfalso; omega))) | (refine hK _ _ ?_; clear hK; try simp only [pst0, simprocAttr]))
   refine a_loop (fun m S H' => S 0 = .imm 1 (strRows l) ∧ S 1 = pN ∧ S 2 = pA ∧ S 8 = .sc (.int .i64 k) ∧ S 7 = o ∧ S 9 = sPV s ∧ H' = h' ∧ ∃ j : Nat, S 10 = .sc (.int .i64 j) ∧ m = n.length - j ∧ j ≤ n.length ∧ lookR n a s = lookR (n.drop j) (a.drop j) s) n.length ?_ ?_
   ·simp only [Ty.w, simprocAttr, g0, g1, g2, g7, g8]
    exact ⟨0, rfl, rfl, by omega, by rw [List.drop_zero, List.drop_zero]⟩
   ·clear g0 g1 g2 g7 g8
    rintro m S H' ⟨g0, g1, g2, g8, g7, g9, rfl, j, g10, rfl, hj, hlk⟩
    by_cases hjn : j < n.length
    ·by_cases hja : j < a.length
     ·have d1 : decide ((j : Int) < (n.length : Int)) = true := by simp; omega
      have d2 : decide ((j : Int) < (a.length : Int)) = true := by simp; omega
      have w8 : IntKind.i64.wrap ((j : Int) + 1) = j + 1 := by rw [wrap64 (by omega) (by omega)]
      obtain ⟨x, hxn⟩ : ∃ x, n[j]? = some x := ⟨_, List.getElem?_eq_getElem hjn⟩
      obtain ⟨y, hya⟩ : ∃ y, a[j]? = some y := ⟨_, List.getElem?_eq_getElem hja⟩
      obtain ⟨px, hpx, hrx⟩ := hp.kget hwf (strRows_get hxn)
      obtain ⟨py, hpy, hry⟩ := hq.kget hwf (strRows_get hya)
      have hpx := hpx H' hkeep
      have hrx := hrx H' hkeep
      have hpy := hpy H' hkeep
      have hry := hry H' hkeep
      rw [drop_get hxn, drop_get hya] at hlk
      simp only [lookR] at hlk
      cases q : (s.data.toList == x.data.toList) with
      | true =>
       rw [show bEq s x = true from q] at hlk
       simp only [if_true] at hlk
       have fin2 := fin y (by unfold replR; rw [hlk]; try rfl)
       repeat' (first | refine a_seq fun K hK => ?_ | ((first | refine a_regionS ?_ | refine a_drawS (by decide +kernel) ?_ | refine a_region (fun K hK => ?_)); simp (maxSteps := 2000000) only [Ty.w, simprocAttr, g0, g1, g2, g7, g8, g9, g10, hlN, hlA, hkN, hkA, d1, d2, hr, hpx, hrx, hpy, hry, q]) | ((first | refine a_skip ?_ | refine a_exit ?_); try simp only [pst0, simprocAttr]) | (refine a_cond _ (by (try simp (maxSteps := 2000000) only [Ty.w, simprocAttr, g0, g1, g2, g7, g8, g9, g10, hlN, hlA, hkN, hkA, d1, d2, hr, hpx, hrx, hpy, hry, q]); rfl) (fun hb => ?_) (fun hb => ?_) <;> (try simp only [hb0, decide_eq_true_eq, decide_eq_false_iff_not, simprocAttr] at hb) <;> (try (exfalso; omega))) | ((first | refine hK _ _ ?_ | (clear hK; refine hK _ _ ?_)); clear hK; try simp only [pst0, simprocAttr]))
       repeat' (first | (refine a_regionS ?_; simp (maxSteps := 2000000) only [Ty.w, simprocAttr, g0, g1, g2, g7, g8, g9, g10, t1, t2, hlen, hbb, w7]) | (refine hK _ _ ?_; clear hK; try simp only [pst0, simprocAttr]) | (rw [if_pos]; rotate_left 1; omega; simp (maxSteps := 2000000) only [Ty.w, simprocAttr, g0, g1, g2, g7, g8, g9, g10, t1, t2, hlen, hbb, w7]))
       exact ⟨l.length - (k + 1), by omega, k + 1, _, by simp, rfl, by omega, rfl, hgH.new _, fin2⟩
      | false =>
       rw [show bEq s x = false from q] at hlk
       simp only [Bool.false_eq_true, if_false] at hlk
       repeat' (first | refine a_seq fun K hK => ?_ | (refine a_block ?_) | ((first | refine a_regionS ?_ | refine a_drawS (by decide +kernel) ?_); simp (maxSteps := 2000000) only [Ty.w, simprocAttr, g0, g1, g2, g7, g8, g9, g10, hlN, hlA, hkN, hkA, d1, d2, hr, hpx, hrx, q, w8]) | (refine a_skip ?_; try simp only [pst0, simprocAttr]) | (refine a_cond _ (by (try simp (maxSteps := 2000000) only [Ty.w, simprocAttr, g0, g1, g2, g7, g8, g9, g10, hlN, hlA, hkN, hkA, d1, d2, hr, hpx, hrx, q, w8]); rfl) (fun hb => ?_) (fun hb => ?_) <;> (try simp only [hb0, decide_eq_true_eq, decide_eq_false_iff_not, simprocAttr] at hb) <;> (try (exfalso; omega))) | (refine hK _ _ ?_; clear hK; try simp only [pst0, simprocAttr]))
       exact ⟨n.length - (j + 1), by omega, j + 1, by simp, rfl, by omega, hlk⟩
     ·have d1 : decide ((j : Int) < (n.length : Int)) = true := by simp; omega
      have d2 : decide ((j : Int) < (a.length : Int)) = false := by simp; omega
      have e0 : a.drop j = [] := List.drop_eq_nil_of_le (by omega)
      rw [e0, drop_get (show n[j]? = some n[j] by simp [hjn])] at hlk
      simp only [lookR] at hlk
      have fin2 := fin s (by unfold replR; rw [hlk]; try rfl)
      repeat' (first | refine a_seq fun K hK => ?_ | ((first | refine a_regionS ?_ | refine a_region (fun K hK => ?_)); simp (maxSteps := 2000000) only [Ty.w, simprocAttr, g0, g1, g2, g7, g8, g9, g10, hlN, hlA, hkN, hkA, d1, d2]) | (refine a_exit ?_; try simp only [pst0, simprocAttr]) | (refine a_cond _ (by (try simp (maxSteps := 2000000) only [Ty.w, simprocAttr, g0, g1, g2, g7, g8, g9, g10, hlN, hlA, hkN, hkA, d1, d2]); rfl) (fun hb => ?_) (fun hb => ?_) <;> (try simp only [hb0, decide_eq_true_eq, decide_eq_false_iff_not, simprocAttr] at hb) <;> (try (exfalso; omega))) | ((first | refine hK _ _ ?_ | (clear hK; refine hK _ _ ?_)); clear hK; try simp only [pst0, simprocAttr]))
      repeat' (first | (refine a_regionS ?_; simp (maxSteps := 2000000) only [Ty.w, simprocAttr, g0, g1, g2, g7, g8, g9, g10, t1, t2, hlen, hbb, w7]) | (refine hK _ _ ?_; clear hK; try simp only [pst0, simprocAttr]) | (rw [if_pos]; rotate_left 1; omega; simp (maxSteps := 2000000) only [Ty.w, simprocAttr, g0, g1, g2, g7, g8, g9, g10, t1, t2, hlen, hbb, w7]))
      exact ⟨l.length - (k + 1), by omega, k + 1, _, by simp, rfl, by omega, rfl, hgH.new _, fin2⟩
    ·have d1 : decide ((j : Int) < (n.length : Int)) = false := by simp; omega
     have e0 : n.drop j = [] := List.drop_eq_nil_of_le (by omega)
     rw [e0] at hlk
     simp only [lookR] at hlk
     have fin2 := fin s (by unfold replR; rw [hlk]; try rfl)
     repeat' (first | refine a_seq fun K hK => ?_ | ((first | refine a_regionS ?_ | refine a_region (fun K hK => ?_)); simp (maxSteps := 2000000) only [Ty.w, simprocAttr, g0, g1, g2, g7, g8, g9, g10, hlN, hlA, hkN, hkA, d1]) | (refine a_exit ?_; try simp only [pst0, simprocAttr]) | (refine a_cond _ (by (try simp (maxSteps := 2000000) only [Ty.w, simprocAttr, g0, g1, g2, g7, g8, g9, g10, hlN, hlA, hkN, hkA, d1]); rfl) (fun hb => ?_) (fun hb => ?_) <;> (try simp only [hb0, decide_eq_true_eq, decide_eq_false_iff_not, simprocAttr] at hb) <;> (try (exfalso; omega))) | ((first | refine hK _ _ ?_ | (clear hK; refine hK _ _ ?_)); clear hK; try simp only [pst0, simprocAttr]))
     repeat' (first | (refine a_regionS ?_; simp (maxSteps := 2000000) only [Ty.w, simprocAttr, g0, g1, g2, g7, g8, g9, g10, t1, t2, hlen, hbb, w7]) | (refine hK _ _ ?_; clear hK; try simp only [pst0, simprocAttr]) | (rw [if_pos]; rotate_left 1; omega; simp (maxSteps := 2000000) only [Ty.w, simprocAttr, g0, g1, g2, g7, g8, g9, g10, t1, t2, hlen, hbb, w7]))
     exact ⟨l.length - (k + 1), by omega, k + 1, _, by simp, rfl, by omega, rfl, hgH.new _, fin2⟩
  ·have hd : decide ((k : Int) < (l.length : Int)) = false := by simp; omega
   have hke : k = l.length := by omega
   subst hke
   rw [List.take_length] at tl
   repeat' (first | refine a_seq fun K hK => ?_ | ((first | refine a_regionS ?_ | refine a_ret ?_); simp (maxSteps := 2000000) only [Ty.w, simprocAttr, g0, g1, g2, g7, g8, hlL, hd]) | (refine a_exit ?_; try simp only [pst0, simprocAttr]) | (refine a_cond _ (by (try simp (maxSteps := 2000000) only [Ty.w, simprocAttr, g0, g1, g2, g7, g8, hlL, hd]); rfl) (fun hb => ?_) (fun hb => ?_) <;> (try simp only [hb0, decide_eq_true_eq, decide_eq_false_iff_not, simprocAttr] at hb) <;> (try (exfalso; omega))) | ((first | refine hK _ _ ?_ | (clear hK; refine hK _ _ ?_)); clear hK; try simp only [pst0, simprocAttr]))
   exact ⟨tl_frzS tl, hg⟩
end Go.Proofs.Ytjlkapgpjamnkaa
namespace Go.Proofs.Ytjlkapgpjamnkaa
open Go.AM
set_option maxHeartbeats 4000000
set_option maxRecDepth 20000
theorem bindExsR_map (n a : List ByteArray) : ∀ l, bindExsR n a l = l.map (bindExR n a)
 | [] => rfl
 | k :: l => by simp [bindExsR, bindExsR_map n a l]
structure BeI (h : Heap) (op name : ByteArray) (v : Int) (args2 : List ByteArray) (L : List Ex) (p : PV) (h' : Heap) : Prop where
 grow : Grow h h'
 lt : h.next + 1 < h'.next
 o1 : h'.obj h.next = some (.arr 5 [[.sc (.string ⟨#[]⟩), .sc (.string ⟨#[]⟩), .sc (.int .i64 0), .sc (.slice none 0 0), .sc (.slice none 0 0)]])
 o2 : h'.obj (h.next + 1) = some (.arr 5 [[sPV op, sPV name, .sc (.int .i64 v), .imm 1 (strRows args2), p]])
 tl : Tl h' (h.next + 2) 5 p (Ex.rows L)
theorem BeI.pc {h h' : Heap} {op name : ByteArray} {v : Int} {args2 : List ByteArray} {L : List Ex} {p : PV} (i : BeI h op name v args2 L p h') : p.cells = [p] ∧ oneC p = true := by
 rcases i.tl with ⟨_, rfl | rfl⟩ | ⟨_, _, _, rfl, _⟩ <;> exact ⟨rfl, rfl⟩
theorem BeI.push {h h' HT : Heap} {op name : ByteArray} {v : Int} {args2 : List ByteArray} {L M : List Ex} {p : PV} {m : Nat} {R : List (List PV)} (i : BeI h op name v args2 L p h') (t3 : HT.next = h'.next) (t4 : ∀ j, j < h.next + 2 → HT.obj j = h'.obj j) (hk : Keep h HT) (hR : R = Ex.rows (L ++ M)) (hm : m = (L ++ M).length) :
  BeI h op name v args2 (L ++ M) (.own HT.next 0 m) ((HT.new (.arr 5 R)).set (h.next + 1) (.arr 5 [[sPV op, sPV name, .sc (.int .i64 v), .imm 1 (strRows args2), .own HT.next 0 m]])) := by
 have hl := i.lt
 subst hR
 refine ⟨((show Grow h HT from ⟨hk.1, hk.2⟩).new _).set (Nat.le_succ _) _, by simp only [Heap.set, Heap.new]; omega, ?_, by simp only [Heap.set, if_true], ?_⟩
 ·have n1 : ¬ h.next = h.next + 1 := by omega
  have n2 : ¬ h.next = HT.next := by omega
  simp only [Heap.set, Heap.new, n1, n2, if_false]
  rw [t4 _ (by omega)]; exact i.o1
 ·have : Tl (HT.new (.arr 5 (Ex.rows (L ++ M)))) (h.next + 2) 5 (.own HT.next 0 m) (Ex.rows (L ++ M)) := Tl.grow (by omega) (by rw [hm, Ex.rows_len])
  exact this.up (Nat.le_refl _) (fun j hj _ => by simp only [Heap.set]; rw [if_neg (by omega)])
theorem frz_ex {n : Nat} {H : Heap} {op name : ByteArray} {v : Int} {args : List ByteArray} {z : Nat} {rows : List (List PV)} {p : PV} (hk : FrzTo n H (.imm z rows) p) : FrzTo n H (.agg [sPV op, sPV name, .sc (.int .i64 v), .imm 1 (strRows args), .imm z rows]) (.agg [sPV op, sPV name, .sc (.int .i64 v), .imm 1 (strRows args), p]) := by
 refine frz_agg ?_
 unfold FrzL; refine ⟨by simp only [FrzTo], ?_⟩
 unfold FrzL; refine ⟨by simp only [FrzTo], ?_⟩
 unfold FrzL; refine ⟨by simp only [FrzTo], ?_⟩
 unfold FrzL; refine ⟨frz_imm (strs_in _ _), ?_⟩
 unfold FrzL; refine ⟨hk, ?_⟩
 simp only [FrzL]
theorem rbindE_c : ∀ e : Ex, e.small → shapedE e = true → ∀ {n a : List ByteArray} {pN pA : PV} {h : Heap}, Sl h 1 pN (strRows n) → Sl h 1 pA (strRows a) →
  PCall Try.prog 85 [.agg e.cells, pN, pA] h fun r h' => r = .agg (bindExR n a e).cells ∧ h' = h := by
 refine Ex.ind ?_
 intro op name v args kids ih hsm hsh n a pN pA h hp hq
 have hkl := shapedE_len hsh
 have hkid := shapedE_kid hsh
 simp only [Ex.small] at hsm
 obtain ⟨hal, hks⟩ := hsm
 rw [Ex.smalls_iff] at hks
 refine pcall_wf Ty.hb_85 fun hwf => ?_
 refine PCall.frz Ty.hb_85 ?_
 have hB : bindExR n a (.mk op name v args kids) = .mk op name v (args.map (replR n a)) (kids.map (bindExR n a)) := by simp only [bindExR, bindExsR_map]
 rw [hB]
 clear hB
 have hrp := fun {H : Heap} (hk : Keep h H) => rreplace_c (l := args) (hp.up hwf hk) (hq.up hwf hk) hal
 generalize args.map (replR n a) = args2 at hrp ⊢
 have hlK := Ex.rows_len kids
 have hpc : ∀ H, Keep h H → True := fun _ _ => trivial
 simp only [Ex.cells]
 refine pcall_body (ow := fun _ => false) (wf := fun _ => false) Ty.mixed Try.func85 rfl Ty.hb_85 (by rw [Try.ntmps85]; simp) ?_
 rw [Try.ntmps85, Try.results85]
 repeat' (first | refine a_seq fun K hK => ?_ | (refine a_regionS ?_; simp (maxSteps := 2000000) only [Ty.w, simprocAttr, nsucc]) | (refine hK _ _ ?_; clear hK; try simp only [pst0, simprocAttr]))
 repeat' (refine a_drawS (by decide +kernel) ?_; simp (maxSteps := 2000000) only [Ty.w, simprocAttr, nsucc])
 (first | refine a_dcall0 (hrp (keep_new (Keep.refl h))) (by (try simp only [Ty.w, simprocAttr, nsucc]); try rfl) ?_ | refine a_dcallA (hrp (keep_new (Keep.refl h))) (by (try simp only [Ty.w, simprocAttr, nsucc]); try rfl) (by simp only [Ty.w, simprocAttr, nsucc]; try trivial) ?_); simp (maxSteps := 2000000) only [Ty.w, simprocAttr, Option.getD_some, nsucc]
 refine a_past2 (by simp (maxSteps := 4000000) only [List.forall_mem_cons, Ty.w, simprocAttr, Ty.all, nsucc]; exact .inr (Does_use (hrp (keep_new (keep_new (Keep.refl h)))) (by (try simp only [Ty.w, simprocAttr, nsucc]); try rfl))) ?_
 refine a_past [11, 10, 9, 8, 7, 6, 5, 4, 3, 2, 1, 0] rfl (by decide +kernel) ?_
 refine hK _ _ ?_
 clear hK
 refine a_gen (fun S H => S 1 = pN ∧ S 2 = pA ∧ S 3 = .cptr [sPV op, sPV name, .sc (.int .i64 v), .imm 1 (strRows args), .imm 5 (Ex.rows kids)] ∧ S 6 = .ptr h.next 0 0 ∧ S 7 = .ptr (h.next + 1) 0 0 ∧ BeI h op name v args2 [] (.sc (.slice none 0 0)) H) ?_ ?_
 ·simp only [Ty.w, simprocAttr]
  refine ⟨(((Grow.refl h).new _).new _).set (Nat.le_succ _) _, ?_, ?_, ?_, .inl ⟨rfl, .inl rfl⟩⟩
  ·simp only [Heap.set, Heap.new]; omega
  ·have n1 : ¬ h.next = h.next + 1 := by omega
   simp only [Heap.set, Heap.new, n1, if_false, if_true]
  ·simp only [Heap.set, if_true]
 rintro S H ⟨g1, g2, g3, g6, g7, hI⟩
 repeat' (first | refine a_seq fun K hK => ?_ | (refine a_block ?_) | (refine a_regionS ?_; simp (maxSteps := 2000000) only [Ty.w, simprocAttr, g1, g2, g3, g6, g7]) | (refine hK _ _ ?_; clear hK; try simp only [pst0, simprocAttr]))
 refine a_loop (fun m S h' => S 1 = pN ∧ S 2 = pA ∧ S 3 = .cptr [sPV op, sPV name, .sc (.int .i64 v), .imm 1 (strRows args), .imm 5 (Ex.rows kids)] ∧ S 6 = .ptr h.next 0 0 ∧ S 7 = .ptr (h.next + 1) 0 0 ∧ ∃ (k : Nat) (p : PV), S 8 = .sc (.int .i64 k) ∧ k ≤ kids.length ∧ m = kids.length - k ∧ BeI h op name v args2 ((kids.take k).map (bindExR n a)) p h') kids.length ?_ ?_
 ·simp only [Ty.w, simprocAttr, g1, g2, g3, g6, g7]
  exact ⟨0, _, rfl, by omega, rfl, by simpa using hI⟩
 ·clear hI g1 g2 g3 g6 g7
  rintro m S h' ⟨g1, g2, g3, g6, g7, k, p, g8, hk, rfl, hI⟩
  obtain ⟨hp1, hp2⟩ := hI.pc
  have o2 := hI.o2
  by_cases hlt : k < kids.length
  ·have hd : decide ((k : Int) < (kids.length : Int)) = true := by simp; omega
   have w7 : IntKind.i64.wrap ((k : Int) + 1) = k + 1 := by rw [wrap64 (by omega) (by omega)]
   obtain ⟨x, hx⟩ : ∃ x, kids[k]? = some x := ⟨_, List.getElem?_eq_getElem hlt⟩
   have hr := Ex.rows_get hx
   have hmem := List.mem_of_getElem? hx
   have hkeep : Keep h h' := ⟨hI.grow.le, hI.grow.old⟩
   have hc := ih x hmem (hks x hmem) (hkid x hmem) (hp.up hwf hkeep) (hq.up hwf hkeep)
   have hL : (kids.take (k + 1)).map (bindExR n a) = (kids.take k).map (bindExR n a) ++ [bindExR n a x] := by rw [List.take_add_one, hx]; simp
   have hlen : ((kids.take k).map (bindExR n a)).length ≤ 2 := by simp; omega
   generalize (kids.take k).map (bindExR n a) = L at hI hL hlen
   generalize bindExR n a x = y at hc hL
   obtain ⟨HT, t1, t2, t3, t4, t5⟩ := hI.tl.tail
   have hkp := t5 h hkeep (Nat.le_add_right _ _)
   have o2T := (t4 _ (by omega)).trans o2
   have hl2 := hI.lt
   have n2 : (h.next + 1 = HT.next) = False := by simp; omega
   have hpr := Ex.rows_len L
   have hpush := hI.push (M := [y]) (m := L.length + 1) (R := Ex.rows L ++ Ex.rows [y]) t3 t4 hkp (by simp only [Ex.rows_map, List.map_append]) (by simp)
   have hb : (L.length + 1) * 88 ≤ 140737488355328 := by omega
   rw [← hL, t3] at hpush
   obtain ⟨yo, yn, yv, ya, yk⟩ := y
   obtain ⟨xo, xn, xv, xa, xk⟩ := x
   simp only [Ex.cells, Ex.rows] at hr hc hpush
   clear ih hrp
   have W := And.intro g1 (And.intro g2 (And.intro g3 (And.intro g6 (And.intro g7 (And.intro g8 (And.intro o2T (And.intro o2 (And.intro n2 (And.intro hr (And.intro t1 (And.intro t2 (And.intro hpr (And.intro hp1 (And.intro hp2 (And.intro hb w7)))))))))))))))
   repeat' (first | refine a_seq fun K hK => ?_ | (refine a_block ?_) | ((first | refine a_regionS ?_ | refine a_draw (by decide +kernel) (fun K hK => ?_)); simp (maxSteps := 2000000) only [Ty.w, simprocAttr, W, hlK, hd]) | (refine a_skip ?_; try simp only [pst0, simprocAttr]) | (refine a_cond _ (by (try simp (maxSteps := 2000000) only [Ty.w, simprocAttr, W, hlK, hd]); rfl) (fun hb => ?_) (fun hb => ?_) <;> (try simp only [hb0, decide_eq_true_eq, decide_eq_false_iff_not, simprocAttr] at hb) <;> (try (exfalso; omega))) | (refine hK _ _ ?_; clear hK; try simp only [pst0, simprocAttr]))
   (first | refine a_dcall0 (hc) (by (try simp only [Ty.w, simprocAttr, W]); try rfl) ?_ | refine a_dcallA (hc) (by (try simp only [Ty.w, simprocAttr, W]); try rfl) (by simp only [Ty.w, simprocAttr, W]; try trivial) ?_); simp (maxSteps := 2000000) only [Ty.w, simprocAttr, W, Option.getD_some]
   repeat' (first | (refine a_regionS ?_; simp (maxSteps := 2000000) only [Ty.w, simprocAttr, W, putC]) | (refine hK _ _ ?_; clear hK; try simp only [pst0, simprocAttr]) | (with_reducible refine a_past2 (by simp only [List.forall_mem_cons, Ty.w, simprocAttr, g1, g2, g3, g6, g7, g8, o2, o2T, n2, t1, t2, hpr, hp1, hp2, hb, w7, putC]; (repeat' apply And.intro) <;> first | trivial | exact .inl (by decide +kernel)) ?_; try simp (maxSteps := 2000000) only [Ty.w, simprocAttr, W, putC]) | (rw [if_pos]; rotate_left 1; omega; simp (maxSteps := 2000000) only [Ty.w, simprocAttr, W, putC]))
   exact ⟨kids.length - (k + 1), by omega, k + 1, _, by simp, by omega, rfl, hpush⟩
  ·have hd : decide ((k : Int) < (kids.length : Int)) = false := by simp; omega
   have hke : k = kids.length := by omega
   subst hke
   rw [List.take_length] at hI
   have o1 := hI.o1
   have o2 := hI.o2
   repeat' (first | refine a_seq fun K hK => ?_ | ((first | refine a_regionS ?_ | refine a_ret ?_); simp (maxSteps := 2000000) only [Ty.w, simprocAttr, g1, g2, g3, g6, g7, g8, hlK, hd, o1, o2, hp1, hp2, putC]) | (refine a_exit ?_; try simp only [pst0, simprocAttr]) | (refine a_cond _ (by (try simp (maxSteps := 2000000) only [Ty.w, simprocAttr, g1, g2, g3, g6, g7, g8, hlK, hd, o1, o2, hp1, hp2, putC]); rfl) (fun hb => ?_) (fun hb => ?_) <;> (try simp only [hb0, decide_eq_true_eq, decide_eq_false_iff_not, simprocAttr] at hb) <;> (try (exfalso; omega))) | ((first | refine hK _ _ ?_ | (clear hK; refine hK _ _ ?_)); clear hK; try simp only [pst0, simprocAttr]))
   exact ⟨frz_ex (tl_frzE (by omega) (hI.tl.up (Nat.le_refl _) fun j hj _ => by simp only [Heap.set]; rw [if_neg (by omega)])), hI.grow.set (Nat.le_refl _) _⟩
end Go.Proofs.Ytjlkapgpjamnkaa
namespace Go.Proofs.Ytjlkapgpjamnkaa
open Go.AM
set_option maxHeartbeats 2000000
set_option maxRecDepth 20000
theorem rsizeE_c : ∀ (e : Ex), e.ok → ∀ h : Heap, PCall Try.prog 39 [.agg e.cells] h fun r h' => r = .sc (.int .i64 e.size) ∧ h' = h := by
 refine Ex.ind ?_
 intro op name n args kids ih hok h
 simp only [Ex.ok] at hok
 obtain ⟨_, _, _, _, hk, hks⟩ := hok
 rw [Ex.oks_iff] at hks
 have hlen := Ex.rows_len kids
 simp only [Ex.cells, Ex.size]
 refine pcall_body (ow := fun _ => false) (wf := fun _ => false) Ty.mixed Try.func39 rfl Ty.hb_39 (by rw [Try.ntmps39]; simp) ?_
 rw [Try.ntmps39, Try.results39]
 repeat' (first | refine a_seq fun K hK => ?_ | (refine a_block ?_) | (refine a_regionS ?_; simp (maxSteps := 2000000) only [Ty.w, simprocAttr, hlen]) | (refine hK _ _ ?_; clear hK; try simp only [pst0, simprocAttr]))
 refine a_loop (fun m S h' => h' = h ∧ S 1 = .cptr (Ex.mk op name n args kids).cells ∧ ∃ k : Nat, S 4 = .sc (.int .i64 k) ∧ k ≤ kids.length ∧ m = kids.length - k ∧ S 3 = .sc (.int .i64 (Ex.sizes 1 (kids.take k)))) kids.length ?_ ?_
 ·simp only [Ty.w, simprocAttr]
  exact ⟨rfl, 0, rfl, by omega, rfl, by simp [Ex.sizes]⟩
 ·rintro m S h' ⟨rfl, g1, k, g4, hkl, rfl, g3⟩
  simp only [Ex.cells] at g1
  by_cases hlt : k < kids.length
  ·have hd : decide ((k : Int) < (kids.length : Int)) = true := by simp; omega
   have w7 : IntKind.i64.wrap ((k : Int) + 1) = k + 1 := by unfold bigN at hk; rw [wrap64 (by omega) (by omega)]
   obtain ⟨e, hx⟩ : ∃ e, kids[k]? = some e := ⟨_, List.getElem?_eq_getElem hlt⟩
   have hmem := List.mem_of_getElem? hx
   have hc := ih e hmem (hks e hmem)
   have hsz := Ex.sizes_take 1 hx
   have hr := Ex.rows_get hx
   obtain ⟨op2, name2, n2, args2, kids2⟩ := e
   simp only [Ex.cells] at hr hc
   repeat' (first | refine a_seq fun K hK => ?_ | (refine a_block ?_) | ((first | refine a_regionS ?_ | refine a_region (fun K hK => ?_)); simp (maxSteps := 2000000) only [Ty.w, simprocAttr, g1, g3, g4, hlen, hd, hr, w7]) | (refine a_skip ?_; try simp only [pst0, simprocAttr]) | (refine a_cond _ (by (try simp (maxSteps := 2000000) only [Ty.w, simprocAttr, g1, g3, g4, hlen, hd, hr, w7]); rfl) (fun hb => ?_) (fun hb => ?_) <;> (try simp only [hb0, decide_eq_true_eq, decide_eq_false_iff_not, simprocAttr] at hb) <;> (try (exfalso; omega))) | (refine hK _ _ ?_; clear hK; try simp only [pst0, simprocAttr]))
   refine owp_useQ (hc _) (by (try simp only [Ty.w, simprocAttr, g1, g3, g4, hlen, hd, hr]); try rfl) ?_; simp (maxSteps := 2000000) only [Ty.w, simprocAttr, g1, g3, g4, hlen, hd, hr]
   repeat' (first | (refine a_regionS ?_; simp (maxSteps := 2000000) only [Ty.w, simprocAttr, g1, g3, g4, w7]) | (refine hK _ _ ?_; clear hK; try simp only [pst0, simprocAttr]))
   exact ⟨kids.length - (k + 1), by omega, rfl, k + 1, by simp, by omega, rfl, by rw [hsz]⟩
  ·have hd : decide ((k : Int) < (kids.length : Int)) = false := by simp; omega
   have hke : k = kids.length := by omega
   subst hke
   rw [List.take_length] at g3
   repeat' (first | refine a_seq fun K hK => ?_ | ((first | refine a_regionS ?_ | refine a_ret ?_); simp (maxSteps := 2000000) only [Ty.w, simprocAttr, g1, g3, g4, hlen, hd]) | (refine a_exit ?_; try simp only [pst0, simprocAttr]) | (refine a_cond _ (by (try simp (maxSteps := 2000000) only [Ty.w, simprocAttr, g1, g3, g4, hlen, hd]); rfl) (fun hb => ?_) (fun hb => ?_) <;> (try simp only [hb0, decide_eq_true_eq, decide_eq_false_iff_not, simprocAttr] at hb) <;> (try (exfalso; omega))) | ((first | refine hK _ _ ?_ | (clear hK; refine hK _ _ ?_)); clear hK; try simp only [pst0, simprocAttr]))
theorem rsize_c : ∀ (f : Fm), f.ok → ∀ h : Heap, PCall Try.prog 24 [.agg f.cells] h fun r h' => r = .sc (.int .i64 f.size) ∧ h' = h := by
 refine Fm.ind ?_
 intro op name args params exprs kids ih hok h
 simp only [Fm.ok] at hok
 obtain ⟨_, _, _, _, ⟨he, hes⟩, hk, hks⟩ := hok
 rw [Ex.oks_iff] at hes
 rw [Fm.oks_iff] at hks
 have hlen := Fm.rows_len kids
 have hlene := Ex.rows_len exprs
 simp only [Fm.cells, Fm.size]
 refine pcall_body (ow := fun _ => false) (wf := fun _ => false) Ty.mixed Try.func24 rfl Ty.hb_24 (by rw [Try.ntmps24]; simp) ?_
 rw [Try.ntmps24, Try.results24]
 repeat' (first | refine a_seq fun K hK => ?_ | (refine a_block ?_) | (refine a_regionS ?_; simp (maxSteps := 2000000) only [Ty.w, simprocAttr, hlen]) | (refine hK _ _ ?_; clear hK; try simp only [pst0, simprocAttr]))
 refine a_loop (fun m S h' => h' = h ∧ S 1 = .cptr (Fm.mk op name args params exprs kids).cells ∧ ∃ k : Nat, S 4 = .sc (.int .i64 k) ∧ k ≤ exprs.length ∧ m = exprs.length - k ∧ S 3 = .sc (.int .i64 (Ex.sizes 1 (exprs.take k)))) exprs.length ?_ ?_
 ·simp only [Ty.w, simprocAttr]
  exact ⟨rfl, 0, rfl, by omega, rfl, by simp [Ex.sizes]⟩
 ·rintro m S h' ⟨rfl, g1, k, g4, hkl, rfl, g3⟩
  simp only [Fm.cells] at g1
  by_cases hlt : k < exprs.length
  ·have hd : decide ((k : Int) < (exprs.length : Int)) = true := by simp; omega
   have w7 : IntKind.i64.wrap ((k : Int) + 1) = k + 1 := by unfold bigN at he; rw [wrap64 (by omega) (by omega)]
   obtain ⟨e, hx⟩ : ∃ e, exprs[k]? = some e := ⟨_, List.getElem?_eq_getElem hlt⟩
   have hmem := List.mem_of_getElem? hx
   have hc := rsizeE_c e (hes e hmem)
   have hsz := Ex.sizes_take 1 hx
   have hr := Ex.rows_get hx
   obtain ⟨op2, name2, n2, args2, kids2⟩ := e
   simp only [Ex.cells] at hr hc
   repeat' (first | refine a_seq fun K hK => ?_ | (refine a_block ?_) | ((first | refine a_regionS ?_ | refine a_region (fun K hK => ?_)); simp (maxSteps := 2000000) only [Ty.w, simprocAttr, g1, g3, g4, hlene, hd, hr, w7]) | (refine a_skip ?_; try simp only [pst0, simprocAttr]) | (refine a_cond _ (by (try simp (maxSteps := 2000000) only [Ty.w, simprocAttr, g1, g3, g4, hlene, hd, hr, w7]); rfl) (fun hb => ?_) (fun hb => ?_) <;> (try simp only [hb0, decide_eq_true_eq, decide_eq_false_iff_not, simprocAttr] at hb) <;> (try (exfalso; omega))) | (refine hK _ _ ?_; clear hK; try simp only [pst0, simprocAttr]))
   refine owp_useQ (hc _) (by (try simp only [Ty.w, simprocAttr, g1, g3, g4, hlene, hd, hr]); try rfl) ?_; simp (maxSteps := 2000000) only [Ty.w, simprocAttr, g1, g3, g4, hlene, hd, hr]
   repeat' (first | (refine a_regionS ?_; simp (maxSteps := 2000000) only [Ty.w, simprocAttr, g1, g3, g4, w7]) | (refine hK _ _ ?_; clear hK; try simp only [pst0, simprocAttr]))
   exact ⟨exprs.length - (k + 1), by omega, by simp only [Fm.cells], k + 1, by simp, by omega, rfl, by rw [hsz]⟩
  ·have hd : decide ((k : Int) < (exprs.length : Int)) = false := by simp; omega
   have hke : k = exprs.length := by omega
   subst hke
   rw [List.take_length] at g3
   repeat' (first | refine a_seq fun K hK => ?_ | (refine a_block ?_) | (refine a_regionS ?_; simp (maxSteps := 2000000) only [Ty.w, simprocAttr, g1, g3, g4, hlene, hd]) | (refine a_exit ?_; try simp only [pst0, simprocAttr]) | (refine a_cond _ (by (try simp (maxSteps := 2000000) only [Ty.w, simprocAttr, g1, g3, g4, hlene, hd]); rfl) (fun hb => ?_) (fun hb => ?_) <;> (try simp only [hb0, decide_eq_true_eq, decide_eq_false_iff_not, simprocAttr] at hb) <;> (try (exfalso; omega))) | ((first | refine hK _ _ ?_ | (clear hK; refine hK _ _ ?_)); clear hK; try simp only [pst0, simprocAttr]))
   refine a_loop (fun m S h2 => h2 = h' ∧ S 1 = .cptr (Fm.mk op name args params exprs kids).cells ∧ ∃ k : Nat, S 5 = .sc (.int .i64 k) ∧ k ≤ kids.length ∧ m = kids.length - k ∧ S 3 = .sc (.int .i64 (Fm.sizes (Ex.sizes 1 exprs) (kids.take k)))) kids.length ?_ ?_
   ·simp only [Ty.w, simprocAttr, g1, g3]
    exact ⟨by simp only [Fm.cells], 0, rfl, by omega, rfl, by simp [Fm.sizes]⟩
   ·clear g1 g3 g4
    rintro m S h' ⟨rfl, g1, k, g5, hkl, rfl, g3⟩
    simp only [Fm.cells] at g1
    by_cases hlt : k < kids.length
    ·have hd : decide ((k : Int) < (kids.length : Int)) = true := by simp; omega
     have w7 : IntKind.i64.wrap ((k : Int) + 1) = k + 1 := by unfold bigN at hk; rw [wrap64 (by omega) (by omega)]
     obtain ⟨e, hx⟩ : ∃ e, kids[k]? = some e := ⟨_, List.getElem?_eq_getElem hlt⟩
     have hmem := List.mem_of_getElem? hx
     have hc := ih e hmem (hks e hmem)
     have hsz := Fm.sizes_take (Ex.sizes 1 exprs) hx
     have hr := Fm.rows_get hx
     obtain ⟨op2, name2, args2, params2, exprs2, kids2⟩ := e
     simp only [Fm.cells] at hr hc
     repeat' (first | refine a_seq fun K hK => ?_ | (refine a_block ?_) | ((first | refine a_regionS ?_ | refine a_region (fun K hK => ?_)); simp (maxSteps := 2000000) only [Ty.w, simprocAttr, g1, g3, g5, hlen, hd, hr, w7]) | (refine a_skip ?_; try simp only [pst0, simprocAttr]) | (refine a_cond _ (by (try simp (maxSteps := 2000000) only [Ty.w, simprocAttr, g1, g3, g5, hlen, hd, hr, w7]); rfl) (fun hb => ?_) (fun hb => ?_) <;> (try simp only [hb0, decide_eq_true_eq, decide_eq_false_iff_not, simprocAttr] at hb) <;> (try (exfalso; omega))) | (refine hK _ _ ?_; clear hK; try simp only [pst0, simprocAttr]))
     refine owp_useQ (hc _) (by (try simp only [Ty.w, simprocAttr, g1, g3, g5, hlen, hd, hr]); try rfl) ?_; simp (maxSteps := 2000000) only [Ty.w, simprocAttr, g1, g3, g5, hlen, hd, hr]
     repeat' (first | (refine a_regionS ?_; simp (maxSteps := 2000000) only [Ty.w, simprocAttr, g1, g3, g5, w7]) | (refine hK _ _ ?_; clear hK; try simp only [pst0, simprocAttr]))
     exact ⟨kids.length - (k + 1), by omega, by simp only [Fm.cells], k + 1, by simp, by omega, rfl, by rw [hsz]⟩
    ·have hd : decide ((k : Int) < (kids.length : Int)) = false := by simp; omega
     have hke : k = kids.length := by omega
     subst hke
     rw [List.take_length] at g3
     repeat' (first | refine a_seq fun K hK => ?_ | ((first | refine a_regionS ?_ | refine a_ret ?_); simp (maxSteps := 2000000) only [Ty.w, simprocAttr, g1, g3, g5, hlen, hd]) | (refine a_exit ?_; try simp only [pst0, simprocAttr]) | (refine a_cond _ (by (try simp (maxSteps := 2000000) only [Ty.w, simprocAttr, g1, g3, g5, hlen, hd]); rfl) (fun hb => ?_) (fun hb => ?_) <;> (try simp only [hb0, decide_eq_true_eq, decide_eq_false_iff_not, simprocAttr] at hb) <;> (try (exfalso; omega))) | ((first | refine hK _ _ ?_ | (clear hK; refine hK _ _ ?_)); clear hK; try simp only [pst0, simprocAttr]))
theorem large_c {f : Fm} (hf : f.ok) (h : Heap) : PCall Try.prog 19 [.agg f.cells] h fun r h' => r = .sc (.bool (decide (f.size > 5000))) ∧ h' = h := by
 have hc := rsize_c f hf
 obtain ⟨op, name, args, params, exprs, kids⟩ := f
 simp only [Fm.cells] at hc ⊢
 refine pcall_body (ow := fun _ => false) (wf := fun _ => false) Ty.mixed Try.func19 rfl Ty.hb_19 (by rw [Try.ntmps19]; simp) ?_
 rw [Try.ntmps19, Try.results19]
 repeat' (first | refine a_seq fun K hK => ?_ | (refine a_regionS ?_; simp (maxSteps := 2000000) only [Ty.w, simprocAttr]) | (refine hK _ _ ?_; clear hK; try simp only [pst0, simprocAttr]))
 refine owp_useQ (hc _) (by (try simp only [Ty.w, simprocAttr, ]); try rfl) ?_; simp (maxSteps := 2000000) only [Ty.w, simprocAttr, ]
 repeat' (first | (refine a_ret ?_; simp (maxSteps := 2000000) only [Ty.w, simprocAttr]) | (refine hK _ _ ?_; clear hK; try simp only [pst0, simprocAttr]))
end Go.Proofs.Ytjlkapgpjamnkaa
namespace Go.Proofs.Ytjlkapgpjamnkaa
open Go.AM
set_option maxHeartbeats 4000000
set_option maxRecDepth 20000
structure B3 (h0 : Heap) (a b c : PV) (A B C : List ByteArray) (h : Heap) : Prop where
 grow : Grow h0 h
 ca : Tl h h0.next 1 a (strRows A)
 cb : Tl h h0.next 1 b (strRows B)
 cc : Tl h h0.next 1 c (strRows C)
 ab : ∀ i m n, a = .own i 0 m → b = .own i 0 n → False
 ac : ∀ i m n, a = .own i 0 m → c = .own i 0 n → False
 bc : ∀ i m n, b = .own i 0 m → c = .own i 0 n → False
theorem B3.swapAB {h0 h : Heap} {a b c : PV} {A B C : List ByteArray} (i : B3 h0 a b c A B C h) : B3 h0 b a c B A C h := ⟨i.grow, i.cb, i.ca, i.cc, fun j m n e f => i.ab j n m f e, i.bc, i.ac⟩
theorem tl_id_lt {h : Heap} {id0 z : Nat} {p : PV} {rows : List (List PV)} (t : Tl h id0 z p rows) {i m : Nat} (e : p = .own i 0 m) : i < h.next := by
 rcases t with ⟨_, rfl | rfl⟩ | ⟨id, _, h2, rfl, _⟩
 ·simp at e
 ·simp at e
 ·simp only [PV.own.injEq] at e; omega
theorem B3.app {h0 h : Heap} {a b c : PV} {A B C : List ByteArray} (i : B3 h0 a b c A B C h) : ∃ H, isTail h a = some (H, strRows A) ∧ zOk h 1 a = true ∧ H.next = h.next ∧
  ∀ (s : ByteArray) (m : Nat) (R : List (List PV)), m = A.length + 1 → R = strRows A ++ [[sPV s]] → B3 h0 (.own h.next 0 m) b c (A ++ [s]) B C (H.new (.arr 1 R)) := by
 have hR : ∀ s, strRows (A ++ [s]) = strRows A ++ [[sPV s]] := fun s => by simp [strRows]
 rcases i.ca with ⟨hn, hp⟩ | ⟨id, h1, h2, rfl, h3⟩
 ·refine ⟨h, ?_, ?_, rfl, ?_⟩
  ·rw [hn]; rcases hp with rfl | rfl <;> rfl
  ·rcases hp with rfl | rfl <;> rfl
  ·rintro s m R rfl rfl
   refine ⟨i.grow.new _, ?_, i.cb.up (by simp [Heap.new]) fun j _ hj => ?_, i.cc.up (by simp [Heap.new]) fun j _ hj => ?_, fun j m n e f => ?_, fun j m n e f => ?_, i.bc⟩
   ·rw [← hR]; exact Tl.grow i.grow.le (by rw [strRows_len]; simp)
   ·simp only [Heap.new]; rw [if_neg (by omega)]
   ·simp only [Heap.new]; rw [if_neg (by omega)]
   ·simp only [PV.own.injEq] at e; have := tl_id_lt i.cb f; omega
   ·simp only [PV.own.injEq] at e; have := tl_id_lt i.cc f; omega
 ·have hb : ∀ {p : PV} {rows : List (List PV)} (s : ByteArray), Tl h h0.next 1 p rows → (∀ m n, PV.own id 0 (strRows A).length = .own id 0 m → p = .own id 0 n → False) → Tl ((h.kill id).new (.arr 1 (strRows A ++ [[sPV s]]))) h0.next 1 p rows := fun {p rows} s t hne => by
   rcases t with ht | ⟨k, k1, k2, rfl, k3⟩
   ·exact .inl ht
   ·have hki : ¬ k = id := fun e => by subst e; exact hne _ _ rfl rfl
    refine .inr ⟨k, k1, by simp [Heap.new, Heap.kill]; omega, rfl, ?_⟩
    rw [new_obj, if_neg (by rw [kill_next]; omega), kill_obj, if_neg hki]; exact k3
  refine ⟨h.kill id, ?_, ?_, rfl, ?_⟩
  ·simp only [isTail, h3, Nat.zero_add, Nat.le_refl, if_true, List.drop_zero, List.take_length]
  ·simp only [zOk, h3, beq_self_eq_true]
  ·rintro s m R rfl rfl
   refine ⟨(i.grow.kill h1).new _, ?_, hb s i.cb fun m n e f => i.ab id _ _ rfl f, hb s i.cc fun m n e f => i.ac id _ _ rfl f, fun j m n e f => ?_, fun j m n e f => ?_, i.bc⟩
   ·rw [← hR]
    exact Tl.grow (H := h.kill id) (id0 := h0.next) (z := 1) (len := A.length + 1) (rows := strRows (A ++ [s])) i.grow.le (by rw [strRows_len]; simp)
   ·simp only [PV.own.injEq] at e; have := tl_id_lt i.cb f; omega
   ·simp only [PV.own.injEq] at e; have := tl_id_lt i.cc f; omega
theorem bsEq_self : ∀ l : List ByteArray, bsEq l l = true
 | [] => rfl
 | a :: l => by simp [bsEq, bEq, bsEq_self l]
end Go.Proofs.Ytjlkapgpjamnkaa
namespace Go.Proofs.Ytjlkapgpjamnkaa
open Go.AM
set_option maxHeartbeats 4000000
set_option maxRecDepth 20000
theorem filtR_take (p : ByteArray → Bool) : ∀ (k : Nat) (n a : List ByteArray) {s t : ByteArray}, n[k]? = some s → a[k]? = some t →
  filtR p (n.take (k + 1)) (a.take (k + 1)) = if p s = true then ((filtR p (n.take k) (a.take k)).1 ++ [s], (filtR p (n.take k) (a.take k)).2 ++ [t]) else filtR p (n.take k) (a.take k)
 | 0, n :: ns, a :: aa, s, t, h1, h2 => by
  simp only [List.getElem?_cons_zero, Option.some.injEq] at h1 h2
  subst h1; subst h2
  simp [filtR]
 | k + 1, n :: ns, a :: aa, s, t, h1, h2 => by
  have ih := filtR_take p k ns aa (s := s) (t := t) (by simpa using h1) (by simpa using h2)
  simp only [List.take_succ_cons, filtR] at ih ⊢
  rw [ih]
  by_cases hp : p n = true <;> by_cases hs : p s = true <;> simp [hp, hs]
 | 0, [], _, _, _, h1, _ => by simp at h1
 | 0, _ :: _, [], _, _, _, h2 => by simp at h2
 | k + 1, [], _, _, _, h1, _ => by simp at h1
 | k + 1, _ :: _, [], _, _, _, h2 => by simp at h2
theorem filtR_all (p : ByteArray → Bool) : ∀ (n a : List ByteArray) (k : Nat), min n.length a.length ≤ k → filtR p (n.take k) (a.take k) = filtR p n a
 | [], a, k, _ => by simp [filtR]
 | n :: ns, [], k, _ => by cases k <;> simp [filtR]
 | n :: ns, a :: aa, 0, h => by simp only [List.length_cons] at h; omega
 | n :: ns, a :: aa, k + 1, h => by
  have ih := filtR_all p ns aa k (by simp only [List.length_cons] at h; omega)
  simp only [List.take_succ_cons, filtR, ih]
theorem filtR_len (p : ByteArray → Bool) : ∀ (n a : List ByteArray), (filtR p n a).1.length = (filtR p n a).2.length ∧ (filtR p n a).1.length ≤ n.length
 | [], a => by simp [filtR]
 | n :: ns, [] => by simp [filtR]
 | n :: ns, a :: aa => by
  have ih := filtR_len p ns aa
  simp only [filtR]
  split <;> simp only [List.length_cons] <;> omega
theorem RBindExpr_c {e : Ex} (hsm : e.small) (hsh : shapedE e = true) {n a : List ByteArray} {pN pA : PV} {h : Heap} (hp : Sl h 1 pN (strRows n)) (hq : Sl h 1 pA (strRows a)) (hn : n.length ≤ 1099511627776) (hns : ∀ s ∈ n, s.size ≤ bigN) :
  PCall Try.prog 48 [.agg e.cells, pN, pA] h fun r h' => r = .agg (bindExR (filtR varB n a).1 (filtR varB n a).2 e).cells ∧ h' = h := by
 refine pcall_wf Ty.hb_48 fun hwf => ?_
 refine PCall.frz Ty.hb_48 ?_
 have hlN : ∀ H, lenP H pN = some n.length := fun H => by rw [lenP_sl hp H, strRows_len]
 have hlA : ∀ H, lenP H pA = some a.length := fun H => by rw [lenP_sl hq H, strRows_len]
 have hkN := hp.lk
 have hkA := hq.lk
 have hbd := fun {p q : PV} {H : Heap} (h1 : Sl H 1 p (strRows (filtR varB n a).1)) (h2 : Sl H 1 q (strRows (filtR varB n a).2)) => rbindE_c e hsm hsh h1 h2
 have hfz := fun (n' : Nat) (H : Heap) => ex_frz n' H (bindExR (filtR varB n a).1 (filtR varB n a).2 e)
 generalize bindExR (filtR varB n a).1 (filtR varB n a).2 e = y at hbd hfz ⊢
 obtain ⟨yo, yn, yv, ya, yk⟩ := y
 obtain ⟨op, name, v, args, kids⟩ := e
 simp only [Ex.cells] at hbd hfz ⊢
 refine pcall_body (ow := fun _ => false) (wf := fun _ => false) Ty.mixed Try.func48 rfl Ty.hb_48 (by rw [Try.ntmps48]; simp) ?_
 rw [Try.ntmps48, Try.results48]
 repeat' (first | refine a_seq fun K hK => ?_ | (refine a_block ?_) | (refine a_regionS ?_; simp (maxSteps := 2000000) only [Ty.w, simprocAttr, nsucc]) | (refine hK _ _ ?_; clear hK; try simp only [pst0, simprocAttr]))
 refine a_loop (fun c S h' => S 1 = pN ∧ S 2 = pA ∧ S 3 = .cptr [sPV op, sPV name, .sc (.int .i64 v), .imm 1 (strRows args), .imm 5 (Ex.rows kids)] ∧ S 6 = .ptr h.next 0 0 ∧ ∃ (k : Nat) (pa pb : PV), S 9 = .sc (.int .i64 k) ∧ S 7 = pa ∧ S 8 = pb ∧ k ≤ n.length ∧ k ≤ a.length ∧ c = n.length - k ∧
  B3 (h.new (.arr 5 [[.sc (.string ⟨#[]⟩), .sc (.string ⟨#[]⟩), .sc (.int .i64 0), .sc (.slice none 0 0), .sc (.slice none 0 0)]])) pa pb (.sc (.slice none 0 0)) (filtR varB (n.take k) (a.take k)).1 (filtR varB (n.take k) (a.take k)).2 [] h') n.length ?_ ?_
 ·simp only [Ty.w, simprocAttr]
  refine ⟨0, _, _, rfl, rfl, rfl, by omega, by omega, rfl, ?_⟩
  have e0 : filtR varB (n.take 0) (a.take 0) = ([], []) := by simp [filtR]
  rw [e0]
  refine ⟨Grow.refl _, Tl.nil, Tl.nil, Tl.nil, ?_, ?_, ?_⟩
  ·intro i m n e; simp at e
  ·intro i m n e; simp at e
  ·intro i m n e; simp at e
 ·rintro c S h' ⟨g1, g2, g3, g6, k, pa, pb, g9, g7, g8, hk, hka, rfl, hI⟩
  have hgr : Grow h h' := ((Grow.refl h).new _).trans hI.grow
  have hkeep : Keep h h' := ⟨hgr.le, hgr.old⟩
  have o1 : h'.obj h.next = some (.arr 5 [[.sc (.string ⟨#[]⟩), .sc (.string ⟨#[]⟩), .sc (.int .i64 0), .sc (.slice none 0 0), .sc (.slice none 0 0)]]) := by
   rw [hI.grow.old _ (by simp [Heap.new])]; simp [Heap.new]
  have last : ∀ (he : filtR varB (n.take k) (a.take k) = filtR varB n a), B3 (h.new (.arr 5 [[.sc (.string ⟨#[]⟩), .sc (.string ⟨#[]⟩), .sc (.int .i64 0), .sc (.slice none 0 0), .sc (.slice none 0 0)]])) pa pb (.sc (.slice none 0 0)) (filtR varB n a).1 (filtR varB n a).2 [] h' := fun he => by rw [he] at hI; exact hI
  by_cases hlt : k < n.length
  ·have hd : decide ((k : Int) < (n.length : Int)) = true := by simp; omega
   by_cases hla : k < a.length
   ·have hd2 : decide ((k : Int) < (a.length : Int)) = true := by simp; omega
    have w7 : IntKind.i64.wrap ((k : Int) + 1) = k + 1 := by rw [wrap64 (by omega) (by omega)]
    obtain ⟨s, hx⟩ : ∃ s, n[k]? = some s := ⟨_, List.getElem?_eq_getElem hlt⟩
    obtain ⟨t, hy⟩ : ∃ t, a[k]? = some t := ⟨_, List.getElem?_eq_getElem hla⟩
    obtain ⟨px, hpx, hrx⟩ := hp.kget hwf (strRows_get hx)
    obtain ⟨py, hpy, hry⟩ := hq.kget hwf (strRows_get hy)
    have hsz := hns s (List.mem_of_getElem? hx)
    have hcv := fun H : Heap => rvariable_c (h := H) (s := s) (by unfold bigN at hsz; omega)
    have hT := filtR_take varB k n a hx hy
    obtain ⟨f1, f2⟩ := filtR_len varB (n.take k) (a.take k)
    have hlk : (n.take k).length = k := by rw [List.length_take]; omega
    clear last hbd
    cases q : varB s with
    | false =>
     rw [q] at hcv
     rw [if_neg (by rw [q]; simp)] at hT
     rw [← hT] at hI
     have hpx1 := hpx h' hkeep
     have hrx1 := hrx h' hkeep
     repeat' (first | refine a_seq fun K hK => ?_ | (refine a_regionS ?_; simp (maxSteps := 2000000) only [Ty.w, simprocAttr, g1, g2, g3, g6, g7, g8, g9, hlN, hlA, hkN, hkA, hd, hd2, hpx1, hrx1]) | (refine a_skip ?_; try simp only [pst0, simprocAttr]) | (refine a_cond _ (by (try simp (maxSteps := 2000000) only [Ty.w, simprocAttr, g1, g2, g3, g6, g7, g8, g9, hlN, hlA, hkN, hkA, hd, hd2, hpx1, hrx1]); rfl) (fun hb => ?_) (fun hb => ?_) <;> (try simp only [hb0, decide_eq_true_eq, decide_eq_false_iff_not, simprocAttr] at hb) <;> (try (exfalso; omega))) | (refine hK _ _ ?_; clear hK; try simp only [pst0, simprocAttr]))
     refine owp_useQ (hcv _) (by (try simp only [Ty.w, simprocAttr, g1, g2, g3, g6, g7, g8, g9]); try rfl) ?_; simp (maxSteps := 2000000) only [Ty.w, simprocAttr, g1, g2, g3, g6, g7, g8, g9]
     repeat' (first | (refine a_block ?_) | (refine a_regionS ?_; simp (maxSteps := 2000000) only [Ty.w, simprocAttr, g1, g2, g3, g6, g7, g8, g9, w7]) | (refine a_skip ?_; try simp only [pst0, simprocAttr]) | (refine hK _ _ ?_; clear hK; try simp only [pst0, simprocAttr]))
     exact ⟨n.length - (k + 1), by omega, k + 1, _, _, by simp, rfl, rfl, by omega, by omega, rfl, hI⟩
    | true =>
     rw [q] at hcv
     rw [if_pos q] at hT
     have hpx1 := hpx h' hkeep
     have hrx1 := hrx h' hkeep
     obtain ⟨H1, a1, a2, a3, a4⟩ := hI.app
     have hI2 := a4 s _ _ rfl rfl
     obtain ⟨H2, b1, b2, b3, b4⟩ := hI2.swapAB.app
     have hI3 := (b4 t _ _ rfl rfl).swapAB
     have b3' : (H1.new (.arr 1 (strRows (filtR varB (n.take k) (a.take k)).1 ++ [[sPV s]]))).next = H1.next + 1 := rfl
     have hk2 : Keep h (H1.new (.arr 1 (strRows (filtR varB (n.take k) (a.take k)).1 ++ [[sPV s]]))) := ⟨(((Grow.refl h).new _).trans hI2.grow).le, (((Grow.refl h).new _).trans hI2.grow).old⟩
     have hpy1 := hpy _ hk2
     have hry1 := hry _ hk2
     have hpy0 := hpy h' hkeep
     have hry0 := hry h' hkeep
     have hpr1 := strRows_len (filtR varB (n.take k) (a.take k)).1
     have hpr2 := strRows_len (filtR varB (n.take k) (a.take k)).2
     have hbb : ((filtR varB (n.take k) (a.take k)).1.length + 1) * 16 ≤ 140737488355328 := by omega
     have hbc : ((filtR varB (n.take k) (a.take k)).2.length + 1) * 16 ≤ 140737488355328 := by omega
     have hT1 : (filtR varB (n.take (k + 1)) (a.take (k + 1))).1 = (filtR varB (n.take k) (a.take k)).1 ++ [s] := by rw [hT]
     have hT2 : (filtR varB (n.take (k + 1)) (a.take (k + 1))).2 = (filtR varB (n.take k) (a.take k)).2 ++ [t] := by rw [hT]
     rw [← hT1, ← hT2] at hI3
     have hk3 : Keep h (H2.new (.arr 1 (strRows (filtR varB (n.take k) (a.take k)).2 ++ [[sPV t]]))) := ⟨(((Grow.refl h).new _).trans hI3.grow).le, (((Grow.refl h).new _).trans hI3.grow).old⟩
     have hpx2 := hpx _ hk2
     have hrx2 := hrx _ hk2
     have hpx3 := hpx _ hk3
     have hrx3 := hrx _ hk3
     have hpy3 := hpy _ hk3
     have hry3 := hry _ hk3
     rw [b3'] at hI3
     repeat' (first | refine a_seq fun K hK => ?_ | (refine a_regionS ?_; simp (maxSteps := 2000000) only [Ty.w, simprocAttr, g1, g2, g3, g6, g7, g8, g9, hlN, hlA, hkN, hkA, hd, hd2, hpx1, hrx1]) | (refine a_skip ?_; try simp only [pst0, simprocAttr]) | (refine a_cond _ (by (try simp (maxSteps := 2000000) only [Ty.w, simprocAttr, g1, g2, g3, g6, g7, g8, g9, hlN, hlA, hkN, hkA, hd, hd2, hpx1, hrx1]); rfl) (fun hb => ?_) (fun hb => ?_) <;> (try simp only [hb0, decide_eq_true_eq, decide_eq_false_iff_not, simprocAttr] at hb) <;> (try (exfalso; omega))) | (refine hK _ _ ?_; clear hK; try simp only [pst0, simprocAttr]))
     refine owp_useQ (hcv _) (by (try simp only [Ty.w, simprocAttr, g1, g2, g3, g6, g7, g8, g9]); try rfl) ?_; simp (maxSteps := 2000000) only [Ty.w, simprocAttr, g1, g2, g3, g6, g7, g8, g9]
     repeat' (first | (refine a_block ?_) | (refine hK _ _ ?_; clear hK; try simp only [pst0, simprocAttr]))
     first
      | refine a_drawS (by decide +kernel) ?_
      | refine a_draw (by decide +kernel) (fun K hK => ?_)
     simp (maxSteps := 4000000) only [Ty.w, simprocAttr, Ty.all, List.forall_mem_cons, g1, g2, g3, g6, g7, g8, g9, hpx1, hrx1, hpx2, hrx2, hpx3, hrx3, hpy0, hry0, hpy1, hry1, hpy3, hry3, a1, a2, b1, b2, hpr1, hpr2, hbb, hbc]
     repeat' (first | (refine a_regionS ?_; simp (maxSteps := 2000000) only [Ty.w, simprocAttr, g1, g2, g3, g6, g7, g8, g9, w7]) | (refine hK _ _ ?_; clear hK; try simp only [pst0, simprocAttr]))
     exact ⟨n.length - (k + 1), by omega, k + 1, _, _, by simp, rfl, rfl, by omega, by omega, rfl, hI3⟩
   ·have hd2 : decide ((k : Int) < (a.length : Int)) = false := by simp; omega
    have hF := last (filtR_all varB n a k (by omega))
    have hc := hbd hF.ca.sl hF.cb.sl
    repeat' (first | refine a_seq fun K hK => ?_ | (refine a_regionS ?_; simp (maxSteps := 2000000) only [Ty.w, simprocAttr, g1, g2, g3, g6, g7, g8, g9, hlN, hlA, hkN, hkA, hd, hd2]) | (refine a_exit ?_; try simp only [pst0, simprocAttr]) | (refine a_cond _ (by (try simp (maxSteps := 2000000) only [Ty.w, simprocAttr, g1, g2, g3, g6, g7, g8, g9, hlN, hlA, hkN, hkA, hd, hd2]); rfl) (fun hb => ?_) (fun hb => ?_) <;> (try simp only [hb0, decide_eq_true_eq, decide_eq_false_iff_not, simprocAttr] at hb) <;> (try (exfalso; omega))) | ((first | refine hK _ _ ?_ | (clear hK; refine hK _ _ ?_)); clear hK; try simp only [pst0, simprocAttr]))
    refine owp_useQ (hc) (by (try simp only [Ty.w, simprocAttr, g1, g2, g3, g6, g7, g8, g9, o1, putC]); try rfl) ?_; simp (maxSteps := 2000000) only [Ty.w, simprocAttr, g1, g2, g3, g6, g7, g8, g9, o1, putC]
    repeat' (first | (refine a_ret ?_; simp (maxSteps := 2000000) only [Ty.w, simprocAttr, o1, g6, putC]) | (refine hK _ _ ?_; clear hK; try simp only [pst0, simprocAttr]))
    exact ⟨frz_agg (hfz _ _), hgr.set (Nat.le_refl _) _⟩
  ·have hd : decide ((k : Int) < (n.length : Int)) = false := by simp; omega
   have hF := last (filtR_all varB n a k (by omega))
   have hc := hbd hF.ca.sl hF.cb.sl
   repeat' (first | refine a_seq fun K hK => ?_ | (refine a_regionS ?_; simp (maxSteps := 2000000) only [Ty.w, simprocAttr, g1, g2, g3, g6, g7, g8, g9, hlN, hlA, hkN, hkA, hd]) | (refine a_exit ?_; try simp only [pst0, simprocAttr]) | (refine a_cond _ (by (try simp (maxSteps := 2000000) only [Ty.w, simprocAttr, g1, g2, g3, g6, g7, g8, g9, hlN, hlA, hkN, hkA, hd]); rfl) (fun hb => ?_) (fun hb => ?_) <;> (try simp only [hb0, decide_eq_true_eq, decide_eq_false_iff_not, simprocAttr] at hb) <;> (try (exfalso; omega))) | ((first | refine hK _ _ ?_ | (clear hK; refine hK _ _ ?_)); clear hK; try simp only [pst0, simprocAttr]))
   refine owp_useQ (hc) (by (try simp only [Ty.w, simprocAttr, g1, g2, g3, g6, g7, g8, g9, o1, putC]); try rfl) ?_; simp (maxSteps := 2000000) only [Ty.w, simprocAttr, g1, g2, g3, g6, g7, g8, g9, o1, putC]
   repeat' (first | (refine a_ret ?_; simp (maxSteps := 2000000) only [Ty.w, simprocAttr, o1, g6, putC]) | (refine hK _ _ ?_; clear hK; try simp only [pst0, simprocAttr]))
   exact ⟨frz_agg (hfz _ _), hgr.set (Nat.le_refl _) _⟩
end Go.Proofs.Ytjlkapgpjamnkaa
namespace Go.Proofs.Ytjlkapgpjamnkaa
open Go.AM
set_option maxHeartbeats 8000000
set_option maxRecDepth 20000
theorem rbound_c {params : List Pm} {s : ByteArray} (hpl : params.length ≤ 1048576) (h : Heap) :
  PCall Try.prog 84 [.imm 2 (pmRows params), sPV s] h fun r h' => r = .sc (.bool (memB (params.map Pm.name) s)) ∧ h' = h := by
 have hlP := pmRows_len params
 generalize hR : memB (params.map Pm.name) s = R
 refine pcall_body (ow := fun _ => false) (wf := fun _ => false) Ty.mixed Try.func84 rfl Ty.hb_84 (by rw [Try.ntmps84]; simp) ?_
 rw [Try.ntmps84, Try.results84]
 repeat' (first | refine a_seq fun K hK => ?_ | (refine a_block ?_) | (refine a_regionS ?_; simp (maxSteps := 2000000) only [Ty.w, simprocAttr]) | (refine hK _ _ ?_; clear hK; try simp only [pst0, simprocAttr]))
 refine a_loop (fun c S h' => S 0 = .imm 2 (pmRows params) ∧ S 1 = sPV s ∧ ∃ k : Nat, S 5 = .sc (.int .i64 k) ∧ k ≤ params.length ∧ c = params.length - k ∧ h' = h ∧ R = memB ((params.drop k).map Pm.name) s) params.length ?_ ?_
 ·simp only [Ty.w, simprocAttr]
  exact ⟨0, rfl, by omega, rfl, by rw [List.drop_zero]; exact hR.symm⟩
 ·rintro c S h' ⟨g0, g1, k, g5, hk, rfl, rfl, hinv⟩
  by_cases hlt : k < params.length
  ·have hd : decide ((k : Int) < (params.length : Int)) = true := by simp; omega
   have w7 : IntKind.i64.wrap ((k : Int) + 1) = k + 1 := by rw [wrap64 (by omega) (by omega)]
   obtain ⟨p, hx⟩ : ∃ p, params[k]? = some p := ⟨_, List.getElem?_eq_getElem hlt⟩
   have hr := pmRows_get hx
   rw [drop_get hx] at hinv
   simp only [List.map_cons, memB, List.any_cons] at hinv
   cases q : (p.name.data.toList == s.data.toList) with
   | true =>
    rw [show bEq p.name s = true from q, Bool.true_or] at hinv
    subst hinv
    repeat' (first | refine a_seq fun K hK => ?_ | ((first | refine a_regionS ?_ | refine a_ret ?_); simp (maxSteps := 2000000) only [Ty.w, simprocAttr, g0, g1, g5, hlP, hd, hr, q]) | (refine a_skip ?_; try simp only [pst0, simprocAttr]) | (refine a_cond _ (by (try simp (maxSteps := 2000000) only [Ty.w, simprocAttr, g0, g1, g5, hlP, hd, hr, q]); rfl) (fun hb => ?_) (fun hb => ?_) <;> (try simp only [hb0, decide_eq_true_eq, decide_eq_false_iff_not, simprocAttr] at hb) <;> (try (exfalso; omega))) | (refine hK _ _ ?_; clear hK; try simp only [pst0, simprocAttr]))
   | false =>
    rw [show bEq p.name s = false from q, Bool.false_or] at hinv
    repeat' (first | refine a_seq fun K hK => ?_ | (refine a_block ?_) | (refine a_regionS ?_; simp (maxSteps := 2000000) only [Ty.w, simprocAttr, g0, g1, g5, hlP, hd, hr, q, w7]) | (refine a_skip ?_; try simp only [pst0, simprocAttr]) | (refine a_cond _ (by (try simp (maxSteps := 2000000) only [Ty.w, simprocAttr, g0, g1, g5, hlP, hd, hr, q, w7]); rfl) (fun hb => ?_) (fun hb => ?_) <;> (try simp only [hb0, decide_eq_true_eq, decide_eq_false_iff_not, simprocAttr] at hb) <;> (try (exfalso; omega))) | (refine hK _ _ ?_; clear hK; try simp only [pst0, simprocAttr]))
    exact ⟨params.length - (k + 1), by omega, k + 1, by simp, by omega, rfl, hinv⟩
  ·have hd : decide ((k : Int) < (params.length : Int)) = false := by simp; omega
   have e0 : params.drop k = [] := List.drop_eq_nil_of_le (by omega)
   rw [e0] at hinv
   simp only [List.map_nil, memB, List.any_nil] at hinv
   subst hinv
   repeat' (first | refine a_seq fun K hK => ?_ | ((first | refine a_regionS ?_ | refine a_ret ?_); simp (maxSteps := 2000000) only [Ty.w, simprocAttr, g0, g1, g5, hlP, hd]) | (refine a_exit ?_; try simp only [pst0, simprocAttr]) | (refine a_cond _ (by (try simp (maxSteps := 2000000) only [Ty.w, simprocAttr, g0, g1, g5, hlP, hd]); rfl) (fun hb => ?_) (fun hb => ?_) <;> (try simp only [hb0, decide_eq_true_eq, decide_eq_false_iff_not, simprocAttr] at hb) <;> (try (exfalso; omega))) | ((first | refine hK _ _ ?_ | (clear hK; refine hK _ _ ?_)); clear hK; try simp only [pst0, simprocAttr]))
theorem wf_new {h : Heap} {o : AObj} (hw : Wf h) : Wf (h.new o) := fun id hs => by
 simp only [Heap.new] at hs ⊢
 split at hs
 ·omega
 ·have := hw id hs; omega
theorem wf_tail {h H : Heap} {p : PV} {R : List (List PV)} (ht : isTail h p = some (H, R)) (hw : Wf h) : Wf H := by
 unfold isTail at ht
 split at ht
 ·simp only [Option.some.injEq, Prod.mk.injEq] at ht; rw [← ht.1]; exact hw
 ·simp only [Option.some.injEq, Prod.mk.injEq] at ht; rw [← ht.1]; exact hw
 ·split at ht
  ·split at ht
   ·simp only [Option.some.injEq, Prod.mk.injEq] at ht
    rw [← ht.1]
    intro j hs
    simp only [Heap.kill] at hs ⊢
    split at hs
    ·simp at hs
    ·exact hw j hs
   ·simp at ht
  ·simp at ht
 ·simp at ht
theorem filtR_mem (p : ByteArray → Bool) : ∀ (n a : List ByteArray) {s : ByteArray}, s ∈ (filtR p n a).1 → s ∈ n
 | [], _, s, h => by simp [filtR] at h
 | _ :: _, [], s, h => by simp [filtR] at h
 | x :: n, y :: a, s, h => by
  simp only [filtR] at h
  split at h
  ·rcases List.mem_cons.1 h with rfl | h
   ·simp
   ·exact List.mem_cons.2 (.inr (filtR_mem p n a h))
  ·exact List.mem_cons.2 (.inr (filtR_mem p n a h))
theorem bindsR_map (n a : List ByteArray) : ∀ l, bindsR l n a = l.map (bindR · n a)
 | [] => rfl
 | k :: l => by simp [bindsR, bindsR_map n a l]
structure GI (hM : Heap) (A z : Nat) (row : PV → List PV) (rows : List (List PV)) (p : PV) (h' : Heap) : Prop where
 le : hM.next ≤ h'.next
 la : A < hM.next
 old : ∀ j, j < hM.next → j ≠ A → h'.obj j = hM.obj j
 oA : h'.obj A = some (.arr 6 [row p])
 tl : Tl h' hM.next z p rows
theorem GI.pc {hM h' : Heap} {A z : Nat} {row : PV → List PV} {rows : List (List PV)} {p : PV} (i : GI hM A z row rows p h') : p.cells = [p] ∧ oneC p = true := by
 rcases i.tl with ⟨_, rfl | rfl⟩ | ⟨_, _, _, rfl, _⟩ <;> exact ⟨rfl, rfl⟩
theorem GI.push {hM h' : Heap} {A z : Nat} {row : PV → List PV} {rows : List (List PV)} {p : PV} (i : GI hM A z row rows p h') : ∃ HT, isTail h' p = some (HT, rows) ∧ zOk h' z p = true ∧ HT.next = h'.next ∧ HT.obj A = some (.arr 6 [row p]) ∧
  ∀ (R : List (List PV)) (m : Nat), m = R.length → GI hM A z row R (.own h'.next 0 m) ((HT.new (.arr z R)).set A (.arr 6 [row (.own h'.next 0 m)])) := by
 obtain ⟨HT, t1, t2, t3, t4, t5⟩ := i.tl.tail
 have hl := i.le
 have hla := i.la
 refine ⟨HT, t1, t2, t3, (t4 _ hla).trans i.oA, fun R m hm => ⟨by simp only [Heap.set, Heap.new]; omega, hla, fun j hj hne => ?_, by simp only [Heap.set, if_true], ?_⟩⟩
 ·simp only [Heap.set, Heap.new, hne, if_false]
  rw [if_neg (by omega), t4 _ hj]; exact i.old j hj hne
 ·have : Tl (HT.new (.arr z R)) hM.next z (.own HT.next 0 m) R := Tl.grow (by omega) hm
  rw [t3] at this
  exact this.up (Nat.le_refl _) (fun j hj _ => by simp only [Heap.set]; rw [if_neg (by omega)])
structure R8 (h1 : Heap) (params : List Pm) (z : Nat) (row : PV → List PV) (hM : Heap) (rows : List (List PV)) (p : PV) (h' : Heap) : Prop where
 gi : GI hM (h1.next + 14) z row rows p h'
 nx : h1.next + 17 ≤ hM.next
 old : ∀ j, j < h1.next → h'.obj j = h1.obj j
 oP : h'.obj (h1.next + 16) = some (.arr 2 (pmRows params))
theorem R8.push {h1 hM h' : Heap} {params : List Pm} {z : Nat} {row : PV → List PV} {rows : List (List PV)} {p : PV} (i : R8 h1 params z row hM rows p h') : ∃ HT, isTail h' p = some (HT, rows) ∧ zOk h' z p = true ∧ HT.next = h'.next ∧ HT.obj (h1.next + 14) = some (.arr 6 [row p]) ∧ h1.next + 17 ≤ h'.next ∧
  ∀ (R : List (List PV)) (m : Nat), m = R.length → R8 h1 params z row hM R (.own h'.next 0 m) ((HT.new (.arr z R)).set (h1.next + 14) (.arr 6 [row (.own h'.next 0 m)])) := by
 obtain ⟨HT, t1, t2, t3, t4, t5⟩ := i.gi.push
 have hl := i.gi.le
 have hn := i.nx
 refine ⟨HT, t1, t2, t3, t4, by omega, fun R m hm => ?_⟩
 have hg := t5 R m hm
 refine ⟨hg, hn, fun j hj => ?_, ?_⟩
 ·rw [hg.old j (by omega) (by omega), ← i.gi.old j (by omega) (by omega)]; exact i.old j hj
 ·rw [hg.old _ (by omega) (by omega), ← i.gi.old _ (by omega) (by omega)]; exact i.oP
theorem frz_fm6 {n : Nat} {H : Heap} {op name : ByteArray} {args : List ByteArray} {p p' e e' k k' : PV} (hp : FrzTo n H p p') (he : FrzTo n H e e') (hk : FrzTo n H k k') :
  FrzTo n H (.agg [sPV op, sPV name, .imm 1 (strRows args), p, e, k]) (.agg [sPV op, sPV name, .imm 1 (strRows args), p', e', k']) := by
 refine frz_agg ?_
 unfold FrzL; refine ⟨by simp only [FrzTo], ?_⟩
 unfold FrzL; refine ⟨by simp only [FrzTo], ?_⟩
 unfold FrzL; refine ⟨frz_imm (strs_in _ _), ?_⟩
 unfold FrzL; refine ⟨hp, ?_⟩
 unfold FrzL; refine ⟨he, ?_⟩
 unfold FrzL; refine ⟨hk, ?_⟩
 simp only [FrzL]
theorem rbindF_c : ∀ f : Fm, f.small → shapedF f = true → f.ok → PV.bulkL f.cells ≤ 1099511627776 → ∀ {n a : List ByteArray} {pN pA : PV} {h : Heap}, n.length ≤ 1099511627776 → (∀ s ∈ n, s.size ≤ bigN) → Sl h 1 pN (strRows n) → Sl h 1 pA (strRows a) →
  PCall Try.prog 47 [.agg f.cells, pN, pA] h fun r h' => r = .agg (bindR f n a).cells ∧ h' = h := by
 refine Fm.ind ?_
 intro op name args params exprs kids ih hsm hsh hok hbk n a pN pA h hn hns hp hq
 obtain ⟨hse, hsk⟩ := shapedF_kid hsh
 simp only [Fm.small] at hsm
 obtain ⟨hal, hpl, hes, hkl, hks⟩ := hsm
 simp only [Fm.ok] at hok
 obtain ⟨_, _, _, _, _, _, hko⟩ := hok
 rw [Ex.smalls_iff] at hes
 rw [Fm.smalls_iff] at hks
 rw [Fm.oks_iff] at hko
 have hkb : ∀ k ∈ kids, PV.bulkL k.cells ≤ 1099511627776 := fun k hk => by
  have := bulk_memF hk
  simp only [Fm.cells, PV.bulkL, PV.bulk] at hbk
  omega
 have hel : exprs.length ≤ 1099511627776 := by
  have := bulkR_exs exprs
  simp only [Fm.cells, PV.bulkL, PV.bulk] at hbk
  omega
 refine pcall_wf Ty.hb_47 fun hwf => ?_
 refine PCall.frz Ty.hb_47 ?_
 have hlN : ∀ H, lenP H pN = some n.length := fun H => by rw [lenP_sl hp H, strRows_len]
 have hlA : ∀ H, lenP H pA = some a.length := fun H => by rw [lenP_sl hq H, strRows_len]
 have hkN := hp.lk
 have hkA := hq.lk
 have hlP := pmRows_len params
 have hlE := Ex.rows_len exprs
 have hlK := Fm.rows_len kids
 have hB : bindR (.mk op name args params exprs kids) n a = .mk op name (args.map (replR (filtR (keepR params) n a).1 (filtR (keepR params) n a).2)) params (exprs.map (bindExR (filtR (keepR params) n a).1 (filtR (keepR params) n a).2)) (kids.map (bindR · (filtR (keepR params) n a).1 (filtR (keepR params) n a).2)) := by simp only [bindR, bindExsR_map, bindsR_map]
 rw [hB]
 clear hB
 have hfm := fun s hs => filtR_mem (keepR params) n a (s := s) hs
 obtain ⟨hf1, hf2⟩ := filtR_len (keepR params) n a
 generalize hF0 : filtR (keepR params) n a = F at hfm hf1 hf2 ⊢
 obtain ⟨N, M⟩ := F
 simp only at hfm hf1 hf2 ⊢
 have hNs : ∀ s ∈ N, s.size ≤ bigN := fun s hs => hns s (hfm s hs)
 have hrp := fun {p q : PV} {H : Heap} (h1 : Sl H 1 p (strRows N)) (h2 : Sl H 1 q (strRows M)) => rreplace_c (l := args) h1 h2 hal
 generalize args.map (replR N M) = args2 at hrp ⊢
 simp only [Fm.cells]
 refine pcall_body (ow := fun _ => false) (wf := fun _ => false) Ty.mixed Try.func47 rfl Ty.hb_47 (by rw [Try.ntmps47]; simp) ?_
 rw [Try.ntmps47, Try.results47]
 repeat' (first | (with_reducible refine a_hold 2 ?_) | refine a_seq fun K hK => ?_ | (refine a_regionS ?_; simp (maxSteps := 2000000) only [Ty.w, simprocAttr, nsucc]) | (refine hK _ _ ?_; clear hK; try simp only [pst0, simprocAttr]))
 refine ⟨?_⟩
 refine a_cut (fun S H => S 3 = .cptr [sPV op, sPV name, .imm 1 (strRows args), .imm 2 (pmRows params), .imm 5 (Ex.rows exprs), .imm 6 (Fm.rows kids)] ∧ S 6 = .ptr h.next 0 0 ∧ ∃ pa pb, S 7 = pa ∧ S 8 = pb ∧ B3 (h.new (.arr 6 [[.sc (.string ⟨#[]⟩), .sc (.string ⟨#[]⟩), .sc (.slice none 0 0), .sc (.slice none 0 0), .sc (.slice none 0 0), .sc (.slice none 0 0)]])) pa pb (.sc (.slice none 0 0)) N M [] H ∧ Wf H) ?_ ?_
 ·clear ih hko hks hes hsk hse hlE hlK hrp
  repeat' (first | refine a_seq fun K hK => ?_ | (refine a_block ?_) | (refine a_regionS ?_; simp (maxSteps := 2000000) only [Ty.w, simprocAttr, nsucc]) | (refine hK _ _ ?_; clear hK; try simp only [pst0, simprocAttr]))
  refine a_loop (fun c S h' => S 1 = pN ∧ S 2 = pA ∧ S 3 = .cptr [sPV op, sPV name, .imm 1 (strRows args), .imm 2 (pmRows params), .imm 5 (Ex.rows exprs), .imm 6 (Fm.rows kids)] ∧ S 6 = .ptr h.next 0 0 ∧ ∃ (k : Nat) (pa pb : PV), S 9 = .sc (.int .i64 k) ∧ S 7 = pa ∧ S 8 = pb ∧ k ≤ n.length ∧ k ≤ a.length ∧ c = n.length - k ∧
   B3 (h.new (.arr 6 [[.sc (.string ⟨#[]⟩), .sc (.string ⟨#[]⟩), .sc (.slice none 0 0), .sc (.slice none 0 0), .sc (.slice none 0 0), .sc (.slice none 0 0)]])) pa pb (.sc (.slice none 0 0)) (filtR (keepR params) (n.take k) (a.take k)).1 (filtR (keepR params) (n.take k) (a.take k)).2 [] h' ∧ Wf h') n.length ?_ ?_
  ·simp only [Ty.w, simprocAttr]
   refine ⟨0, _, _, rfl, rfl, rfl, by omega, by omega, rfl, ?_⟩
   have e0 : filtR (keepR params) (n.take 0) (a.take 0) = ([], []) := by simp [filtR]
   rw [e0]
   refine ⟨⟨Grow.refl _, Tl.nil, Tl.nil, Tl.nil, ?_, ?_, ?_⟩, wf_new hwf⟩
   ·intro i m n e; simp at e
   ·intro i m n e; simp at e
   ·intro i m n e; simp at e
  ·rintro c S h' ⟨g1, g2, g3, g6, k, pa, pb, g9, g7, g8, hk, hka, rfl, hI, hwf'⟩
   have hgr : Grow h h' := ((Grow.refl h).new _).trans hI.grow
   have hkeep : Keep h h' := ⟨hgr.le, hgr.old⟩
   have last : ∀ (he : filtR (keepR params) (n.take k) (a.take k) = (N, M)), B3 (h.new (.arr 6 [[.sc (.string ⟨#[]⟩), .sc (.string ⟨#[]⟩), .sc (.slice none 0 0), .sc (.slice none 0 0), .sc (.slice none 0 0), .sc (.slice none 0 0)]])) pa pb (.sc (.slice none 0 0)) N M [] h' := fun he => by rw [he] at hI; exact hI
   by_cases hlt : k < n.length
   ·have hd : decide ((k : Int) < (n.length : Int)) = true := by simp; omega
    by_cases hla : k < a.length
    ·have hd2 : decide ((k : Int) < (a.length : Int)) = true := by simp; omega
     have w7 : IntKind.i64.wrap ((k : Int) + 1) = k + 1 := by rw [wrap64 (by omega) (by omega)]
     obtain ⟨s, hx⟩ : ∃ s, n[k]? = some s := ⟨_, List.getElem?_eq_getElem hlt⟩
     obtain ⟨t, hy⟩ : ∃ t, a[k]? = some t := ⟨_, List.getElem?_eq_getElem hla⟩
     obtain ⟨px, hpx, hrx⟩ := hp.kget hwf (strRows_get hx)
     obtain ⟨py, hpy, hry⟩ := hq.kget hwf (strRows_get hy)
     have hsz := hns s (List.mem_of_getElem? hx)
     have hcv := fun H : Heap => rvariable_c (h := H) (s := s) (by unfold bigN at hsz; omega)
     have hcb := fun H : Heap => rbound_c (params := params) (s := s) hpl H
     have hT := filtR_take (keepR params) k n a hx hy
     obtain ⟨f1, f2⟩ := filtR_len (keepR params) (n.take k) (a.take k)
     have hlk : (n.take k).length = k := by rw [List.length_take]; omega
     have hpx1 := hpx h' hkeep
     have hrx1 := hrx h' hkeep
     have hkp : keepR params s = (varB s && !memB (params.map Pm.name) s) := rfl
     clear last
     have skip : keepR params s = false → B3 (h.new (.arr 6 [[.sc (.string ⟨#[]⟩), .sc (.string ⟨#[]⟩), .sc (.slice none 0 0), .sc (.slice none 0 0), .sc (.slice none 0 0), .sc (.slice none 0 0)]])) pa pb (.sc (.slice none 0 0)) (filtR (keepR params) (n.take (k + 1)) (a.take (k + 1))).1 (filtR (keepR params) (n.take (k + 1)) (a.take (k + 1))).2 [] h' := fun q => by
      rw [if_neg (by rw [q]; simp)] at hT
      rw [hT]; exact hI
     cases q : varB s with
     | false =>
      rw [q] at hcv hkp
      have hI := skip (by rw [hkp]; try rfl)
      have W := And.intro g1 (And.intro g2 (And.intro g3 (And.intro g6 (And.intro g7 (And.intro g8 (And.intro g9 (And.intro hpx1 hrx1)))))))
      repeat' (first | refine a_seq fun K hK => ?_ | ((first | refine a_regionS ?_ | refine a_drawS (by decide +kernel) ?_); simp (maxSteps := 2000000) only [Ty.w, simprocAttr, W, hlN, hlA, hkN, hkA, hd, hd2]) | (refine a_skip ?_; try simp only [pst0, simprocAttr]) | (refine a_cond _ (by (try simp (maxSteps := 2000000) only [Ty.w, simprocAttr, W, hlN, hlA, hkN, hkA, hd, hd2]); rfl) (fun hb => ?_) (fun hb => ?_) <;> (try simp only [hb0, decide_eq_true_eq, decide_eq_false_iff_not, simprocAttr] at hb) <;> (try (exfalso; omega))) | (refine hK _ _ ?_; clear hK; try simp only [pst0, simprocAttr]))
      (first | refine a_dcall0 (hcv _) (by (try simp only [Ty.w, simprocAttr, W]); try rfl) ?_ | refine a_dcallA (hcv _) (by (try simp only [Ty.w, simprocAttr, W]); try rfl) (by simp only [Ty.w, simprocAttr, W]; try trivial) ?_); simp (maxSteps := 2000000) only [Ty.w, simprocAttr, W, Option.getD_some]
      repeat' (first | (refine a_block ?_) | (refine a_regionS ?_; simp (maxSteps := 2000000) only [Ty.w, simprocAttr, W, w7]) | (refine a_skip ?_; try simp only [pst0, simprocAttr]) | (refine hK _ _ ?_; clear hK; try simp only [pst0, simprocAttr]))
      exact ⟨n.length - (k + 1), by omega, k + 1, _, _, by simp, rfl, rfl, by omega, by omega, rfl, hI, hwf'⟩
     | true =>
      rw [q] at hcv hkp
      cases q2 : memB (params.map Pm.name) s with
      | true =>
       rw [q2] at hcb hkp
       have hI := skip (by rw [hkp]; try rfl)
       have W := And.intro g1 (And.intro g2 (And.intro g3 (And.intro g6 (And.intro g7 (And.intro g8 (And.intro g9 (And.intro hpx1 hrx1)))))))
       repeat' (first | refine a_seq fun K hK => ?_ | ((first | refine a_regionS ?_ | refine a_drawS (by decide +kernel) ?_); simp (maxSteps := 2000000) only [Ty.w, simprocAttr, W, hlN, hlA, hkN, hkA, hd, hd2]) | (refine a_skip ?_; try simp only [pst0, simprocAttr]) | (refine a_cond _ (by (try simp (maxSteps := 2000000) only [Ty.w, simprocAttr, W, hlN, hlA, hkN, hkA, hd, hd2]); rfl) (fun hb => ?_) (fun hb => ?_) <;> (try simp only [hb0, decide_eq_true_eq, decide_eq_false_iff_not, simprocAttr] at hb) <;> (try (exfalso; omega))) | (refine hK _ _ ?_; clear hK; try simp only [pst0, simprocAttr]))
       (first | refine a_dcall0 (hcv _) (by (try simp only [Ty.w, simprocAttr, W]); try rfl) ?_ | refine a_dcallA (hcv _) (by (try simp only [Ty.w, simprocAttr, W]); try rfl) (by simp only [Ty.w, simprocAttr, W]; try trivial) ?_); simp (maxSteps := 2000000) only [Ty.w, simprocAttr, W, Option.getD_some]
       skip
       (first | refine a_dcall0 (hcb _) (by (try simp only [Ty.w, simprocAttr, W, Bool.not_true]); try rfl) ?_ | refine a_dcallA (hcb _) (by (try simp only [Ty.w, simprocAttr, W, Bool.not_true]); try rfl) (by simp only [Ty.w, simprocAttr, W, Bool.not_true]; try trivial) ?_); simp (maxSteps := 2000000) only [Ty.w, simprocAttr, W, Option.getD_some, Bool.not_true]
       repeat' (first | (refine a_block ?_) | (refine a_regionS ?_; simp (maxSteps := 2000000) only [Ty.w, simprocAttr, W, w7, Bool.not_true]) | (refine a_skip ?_; try simp only [pst0, simprocAttr]) | (refine hK _ _ ?_; clear hK; try simp only [pst0, simprocAttr]))
       exact ⟨n.length - (k + 1), by omega, k + 1, _, _, by simp, rfl, rfl, by omega, by omega, rfl, hI, hwf'⟩
      | false =>
       rw [q2] at hcb hkp
       rw [if_pos (by rw [hkp]; try rfl)] at hT
       obtain ⟨H1, a1, a2, a3, a4⟩ := hI.app
       have hI2 := a4 s _ _ rfl rfl
       obtain ⟨H2, b1, b2, b3, b4⟩ := hI2.swapAB.app
       have hI3 := (b4 t _ _ rfl rfl).swapAB
       have b3' : (H1.new (.arr 1 (strRows (filtR (keepR params) (n.take k) (a.take k)).1 ++ [[sPV s]]))).next = H1.next + 1 := rfl
       have hk2 : Keep h (H1.new (.arr 1 (strRows (filtR (keepR params) (n.take k) (a.take k)).1 ++ [[sPV s]]))) := ⟨(((Grow.refl h).new _).trans hI2.grow).le, (((Grow.refl h).new _).trans hI2.grow).old⟩
       have hpy1 := hpy _ hk2
       have hry1 := hry _ hk2
       have hpy0 := hpy h' hkeep
       have hry0 := hry h' hkeep
       have hpr1 := strRows_len (filtR (keepR params) (n.take k) (a.take k)).1
       have hpr2 := strRows_len (filtR (keepR params) (n.take k) (a.take k)).2
       have hbb : ((filtR (keepR params) (n.take k) (a.take k)).1.length + 1) * 16 ≤ 140737488355328 := by omega
       have hbc : ((filtR (keepR params) (n.take k) (a.take k)).2.length + 1) * 16 ≤ 140737488355328 := by omega
       have hT1 : (filtR (keepR params) (n.take (k + 1)) (a.take (k + 1))).1 = (filtR (keepR params) (n.take k) (a.take k)).1 ++ [s] := by rw [hT]
       have hT2 : (filtR (keepR params) (n.take (k + 1)) (a.take (k + 1))).2 = (filtR (keepR params) (n.take k) (a.take k)).2 ++ [t] := by rw [hT]
       rw [← hT1, ← hT2] at hI3
       have hk3 : Keep h (H2.new (.arr 1 (strRows (filtR (keepR params) (n.take k) (a.take k)).2 ++ [[sPV t]]))) := ⟨(((Grow.refl h).new _).trans hI3.grow).le, (((Grow.refl h).new _).trans hI3.grow).old⟩
       have hpx2 := hpx _ hk2
       have hrx2 := hrx _ hk2
       have hpx3 := hpx _ hk3
       have hrx3 := hrx _ hk3
       have hpy3 := hpy _ hk3
       have hry3 := hry _ hk3
       rw [b3'] at hI3
       have W := And.intro g1 (And.intro g2 (And.intro g3 (And.intro g6 (And.intro g7 (And.intro g8 (And.intro g9 (And.intro hpx1 hrx1)))))))
       repeat' (first | refine a_seq fun K hK => ?_ | ((first | refine a_regionS ?_ | refine a_drawS (by decide +kernel) ?_); simp (maxSteps := 2000000) only [Ty.w, simprocAttr, W, hlN, hlA, hkN, hkA, hd, hd2]) | (refine a_skip ?_; try simp only [pst0, simprocAttr]) | (refine a_cond _ (by (try simp (maxSteps := 2000000) only [Ty.w, simprocAttr, W, hlN, hlA, hkN, hkA, hd, hd2]); rfl) (fun hb => ?_) (fun hb => ?_) <;> (try simp only [hb0, decide_eq_true_eq, decide_eq_false_iff_not, simprocAttr] at hb) <;> (try (exfalso; omega))) | (refine hK _ _ ?_; clear hK; try simp only [pst0, simprocAttr]))
       (first | refine a_dcall0 (hcv _) (by (try simp only [Ty.w, simprocAttr, W]); try rfl) ?_ | refine a_dcallA (hcv _) (by (try simp only [Ty.w, simprocAttr, W]); try rfl) (by simp only [Ty.w, simprocAttr, W]; try trivial) ?_); simp (maxSteps := 2000000) only [Ty.w, simprocAttr, W, Option.getD_some]
       skip
       (first | refine a_dcall0 (hcb _) (by (try simp only [Ty.w, simprocAttr, W, Bool.not_false]); try rfl) ?_ | refine a_dcallA (hcb _) (by (try simp only [Ty.w, simprocAttr, W, Bool.not_false]); try rfl) (by simp only [Ty.w, simprocAttr, W, Bool.not_false]; try trivial) ?_); simp (maxSteps := 2000000) only [Ty.w, simprocAttr, W, Option.getD_some, Bool.not_false]
       repeat' (first | (refine a_block ?_) | (refine hK _ _ ?_; clear hK; try simp only [pst0, simprocAttr]))
       first
        | refine a_drawS (by decide +kernel) ?_
        | refine a_draw (by decide +kernel) (fun K hK => ?_)
       simp (maxSteps := 4000000) only [Ty.w, simprocAttr, Ty.all, List.forall_mem_cons, g1, g2, g3, g6, g7, g8, g9, hpx1, hrx1, hpx2, hrx2, hpx3, hrx3, hpy0, hry0, hpy1, hry1, hpy3, hry3, a1, a2, b1, b2, hpr1, hpr2, hbb, hbc]
       repeat' (first | (refine a_regionS ?_; simp (maxSteps := 2000000) only [Ty.w, simprocAttr, g1, g2, g3, g6, g7, g8, g9, w7]) | (refine hK _ _ ?_; clear hK; try simp only [pst0, simprocAttr]))
       exact ⟨n.length - (k + 1), by omega, k + 1, _, _, by simp, rfl, rfl, by omega, by omega, rfl, hI3, wf_new (wf_tail b1 (wf_new (wf_tail a1 hwf')))⟩
    ·have hd2 : decide ((k : Int) < (a.length : Int)) = false := by simp; omega
     have hF := last ((filtR_all (keepR params) n a k (by omega)).trans hF0)
     repeat' (first | refine a_seq fun K hK => ?_ | (refine a_regionS ?_; simp (maxSteps := 2000000) only [Ty.w, simprocAttr, g1, g2, g3, g6, g7, g8, g9, hlN, hlA, hkN, hkA, hd, hd2]) | (refine a_exit ?_; try simp only [pst0, simprocAttr]) | (refine a_cond _ (by (try simp (maxSteps := 2000000) only [Ty.w, simprocAttr, g1, g2, g3, g6, g7, g8, g9, hlN, hlA, hkN, hkA, hd, hd2]); rfl) (fun hb => ?_) (fun hb => ?_) <;> (try simp only [hb0, decide_eq_true_eq, decide_eq_false_iff_not, simprocAttr] at hb) <;> (try (exfalso; omega))) | (refine hK _ _ ?_; clear hK; try simp only [pst0, simprocAttr]))
     simp (maxSteps := 2000000) only [Ty.w, simprocAttr, Ty.all, g3, g6, g7, g8]
     exact ⟨_, _, rfl, rfl, hF, hwf'⟩
   ·have hd : decide ((k : Int) < (n.length : Int)) = false := by simp; omega
    have hF := last ((filtR_all (keepR params) n a k (by omega)).trans hF0)
    repeat' (first | refine a_seq fun K hK => ?_ | (refine a_regionS ?_; simp (maxSteps := 2000000) only [Ty.w, simprocAttr, g1, g2, g3, g6, g7, g8, g9, hlN, hlA, hkN, hkA, hd]) | (refine a_exit ?_; try simp only [pst0, simprocAttr]) | (refine a_cond _ (by (try simp (maxSteps := 2000000) only [Ty.w, simprocAttr, g1, g2, g3, g6, g7, g8, g9, hlN, hlA, hkN, hkA, hd]); rfl) (fun hb => ?_) (fun hb => ?_) <;> (try simp only [hb0, decide_eq_true_eq, decide_eq_false_iff_not, simprocAttr] at hb) <;> (try (exfalso; omega))) | (refine hK _ _ ?_; clear hK; try simp only [pst0, simprocAttr]))
    simp (maxSteps := 2000000) only [Ty.w, simprocAttr, Ty.all, g3, g6, g7, g8]
    exact ⟨_, _, rfl, rfl, hF, hwf'⟩
 ·clear hp hq hlN hlA hkN hkA hns hfm hF0
  rintro S h1 ⟨g3, g6, pa, pb, g7, g8, hI, hwf1⟩
  have hgr : Grow h h1 := ((Grow.refl h).new _).trans hI.grow
  have o1 : h1.obj h.next = some (.arr 6 [[.sc (.string ⟨#[]⟩), .sc (.string ⟨#[]⟩), .sc (.slice none 0 0), .sc (.slice none 0 0), .sc (.slice none 0 0), .sc (.slice none 0 0)]]) := by rw [hI.grow.old _ (by simp [Heap.new])]; simp [Heap.new]
  have hlt1 : h.next < h1.next := by have := hI.grow.le; simp only [Heap.new] at this; omega
  have slA : ∀ H : Heap, h1.next ≤ H.next → (∀ j, j < h1.next → H.obj j = h1.obj j) → Sl H 1 pa (strRows N) := fun H hn ho => (hI.ca.up hn fun j _ hj => ho j hj).sl
  have slB : ∀ H : Heap, h1.next ≤ H.next → (∀ j, j < h1.next → H.obj j = h1.obj j) → Sl H 1 pb (strRows M) := fun H hn ho => (hI.cb.up hn fun j _ hj => ho j hj).sl
  have hn14 : h1.obj (h1.next + 14) = none := by
   cases q : h1.obj (h1.next + 14) with
   | none => rfl
   | some o => have := hwf1 _ (show (h1.obj (h1.next + 14)).isSome = true by rw [q]; try rfl); omega
  clear hI hwf1 hwf
  refine a_seq (fun K hK => ?_)
  refine a_draw2S [14] (by decide +kernel) (by decide +kernel) ?_
  have u1 : (h1.next + 14 = h1.next + 16) = False := eq_false (by omega)
  have hb : params.length * 32 ≤ 140737488355328 := by omega
  simp (maxSteps := 4000000) only [drn2, Ty.w, simprocAttr, Ty.all, List.forall_mem_cons, g3, g6, g7, g8, nsucc]
  first
   | refine a_dcall2 [14] (by decide +kernel) (hrp (slA _ (Nat.le_add_right _ _) fun _ _ => rfl) (slB _ (Nat.le_add_right _ _) fun _ _ => rfl)) (by (try simp only [Ty.w, simprocAttr, g3, g6, g7, g8]); try rfl) ?_
   | refine a_dcall2A [14] (by decide +kernel) (hrp (slA _ (Nat.le_add_right _ _) fun _ _ => rfl) (slB _ (Nat.le_add_right _ _) fun _ _ => rfl)) (by (try simp only [Ty.w, simprocAttr, g3, g6, g7, g8]); try rfl) (by simp only [Ty.w, simprocAttr, Ty.all, g3, g6, g7, g8]; try trivial) ?_
  simp (maxSteps := 4000000) only [drn2, Ty.w, simprocAttr, Ty.all, List.forall_mem_cons, List.nil_append, g3, g6, g7, g8, hlP, hb, hn14, u1, nsucc]
  refine ⟨.inl (by decide +kernel), .inr (Does_use (hrp (slA _ (Nat.le_trans (Nat.le_add_right _ 16) (Nat.le_succ _)) (fun j hj => by simp only [Heap.set, Heap.new]; rw [if_neg (by omega), if_neg (by omega)])) (slB _ (Nat.le_trans (Nat.le_add_right _ 16) (Nat.le_succ _)) (fun j hj => by simp only [Heap.set, Heap.new]; rw [if_neg (by omega), if_neg (by omega)]))) (by (try simp only [Ty.w, simprocAttr, g3, g6, g7, g8]); try rfl)), .inl (by decide +kernel), ?_⟩
  refine hK _ _ ?_
  clear hK
  refine a_gen (fun S H => S 3 = .cptr [sPV op, sPV name, .imm 1 (strRows args), .imm 2 (pmRows params), .imm 5 (Ex.rows exprs), .imm 6 (Fm.rows kids)] ∧ S 6 = .ptr h.next 0 0 ∧ S 7 = pa ∧ S 8 = pb ∧ S 10 = .ptr (h1.next + 14) 0 0 ∧ R8 h1 params 5 (fun p => [sPV op, sPV name, .imm 1 (strRows args2), .own (h1.next + 16) 0 params.length, p, .sc (.slice none 0 0)]) H [] (.sc (.slice none 0 0)) H) ?_ ?_
  ·simp only [Ty.w, simprocAttr, g3, g6, g7, g8]
   refine ⟨⟨?_, by simp only [Heap.set, Heap.new]; omega, fun _ _ _ => rfl, by simp only [Heap.set, if_true], .inl ⟨rfl, .inl rfl⟩⟩, ?_, ?_, ?_⟩
   ·exact Nat.le_refl _
   ·simp only [Heap.set, Heap.new]; omega
   ·intro j hj
    simp only [Heap.set, Heap.new]; rw [if_neg (by omega), if_neg (by omega), if_neg (by omega)]
   ·simp only [Heap.set, Heap.new]; rw [if_neg (by omega), if_neg (by omega)]; exact if_pos trivial
  clear hrp g3 g6 g7 g8 hn14
  rintro S hM ⟨g3, g6, g7, g8, g10, hI⟩
  repeat' (first | refine a_seq fun K hK => ?_ | (refine a_block ?_) | (refine a_regionS ?_; simp (maxSteps := 2000000) only [Ty.w, simprocAttr, g3, g6, g7, g8, g10]) | (refine hK _ _ ?_; clear hK; try simp only [pst0, simprocAttr]))
  refine a_loop (fun m S h' => S 3 = .cptr [sPV op, sPV name, .imm 1 (strRows args), .imm 2 (pmRows params), .imm 5 (Ex.rows exprs), .imm 6 (Fm.rows kids)] ∧ S 6 = .ptr h.next 0 0 ∧ S 7 = pa ∧ S 8 = pb ∧ S 10 = .ptr (h1.next + 14) 0 0 ∧ ∃ (k : Nat) (p : PV), S 11 = .sc (.int .i64 k) ∧ k ≤ exprs.length ∧ m = exprs.length - k ∧ R8 h1 params 5 (fun p => [sPV op, sPV name, .imm 1 (strRows args2), .own (h1.next + 16) 0 params.length, p, .sc (.slice none 0 0)]) hM (Ex.rows ((exprs.take k).map (bindExR N M))) p h') exprs.length ?_ ?_
  ·simp only [Ty.w, simprocAttr, g3, g6, g7, g8, g10]
   exact ⟨0, _, rfl, by omega, rfl, by simpa [Ex.rows] using hI⟩
  ·clear hI g3 g6 g7 g8 g10
   rintro m S h' ⟨g3, g6, g7, g8, g10, k, p, g11, hk, rfl, hI⟩
   obtain ⟨hp1, hp2⟩ := hI.gi.pc
   have oA := hI.gi.oA
   by_cases hlt : k < exprs.length
   ·have hd : decide ((k : Int) < (exprs.length : Int)) = true := by simp; omega
    have w7 : IntKind.i64.wrap ((k : Int) + 1) = k + 1 := by rw [wrap64 (by omega) (by omega)]
    obtain ⟨x, hx⟩ : ∃ x, exprs[k]? = some x := ⟨_, List.getElem?_eq_getElem hlt⟩
    have hr := Ex.rows_get hx
    have hmem := List.mem_of_getElem? hx
    have hle : h1.next ≤ h'.next := by have := hI.gi.le; have := hI.nx; omega
    have hc := rbindE_c x (hes x hmem) (hse x hmem) (slA h' hle hI.old) (slB h' hle hI.old)
    have hL : (exprs.take (k + 1)).map (bindExR N M) = (exprs.take k).map (bindExR N M) ++ [bindExR N M x] := by rw [List.take_add_one, hx]; simp
    have hlen : ((exprs.take k).map (bindExR N M)).length ≤ k := by simp; omega
    generalize (exprs.take k).map (bindExR N M) = L at hI hL hlen
    generalize bindExR N M x = y at hc hL
    obtain ⟨HT, t1, t2, t3, oAT, t4, t5⟩ := hI.push
    have n2 : (h1.next + 14 = HT.next) = False := eq_false (by omega)
    have n3 : (h1.next + 14 = h'.next) = False := eq_false (by omega)
    have hpr := Ex.rows_len L
    have hb : (L.length + 1) * 88 ≤ 140737488355328 := by omega
    obtain ⟨yo, yn, yv, ya, yk⟩ := y
    obtain ⟨xo, xn, xv, xa, xk⟩ := x
    simp only [Ex.cells] at hr hc
    have hpush := t5 (Ex.rows L ++ [[sPV yo, sPV yn, .sc (.int .i64 yv), .imm 1 (strRows ya), .imm 5 (Ex.rows yk)]]) (L.length + 1) (by simp [Ex.rows_len])
    have hrow : Ex.rows ((exprs.take (k + 1)).map (bindExR N M)) = Ex.rows L ++ [[sPV yo, sPV yn, .sc (.int .i64 yv), .imm 1 (strRows ya), .imm 5 (Ex.rows yk)]] := by rw [hL]; simp only [Ex.rows_map, List.map_append, List.map_cons, List.map_nil, Ex.cells]
    clear ih
    have W := And.intro g3 (And.intro g6 (And.intro g7 (And.intro g8 (And.intro g10 (And.intro g11 (And.intro oAT (And.intro oA (And.intro hr (And.intro n2 (And.intro hp1 (And.intro n3 (And.intro hp2 (And.intro t1 (And.intro t2 (And.intro t3 (And.intro hpr (And.intro hb w7)))))))))))))))))
    repeat' (first | refine a_seq fun K hK => ?_ | (refine a_block ?_) | ((first | refine a_regionS ?_ | refine a_draw (by decide +kernel) (fun K hK => ?_)); simp (maxSteps := 2000000) only [Ty.w, simprocAttr, W, hlE, hd]) | (refine a_skip ?_; try simp only [pst0, simprocAttr]) | (refine a_cond _ (by (try simp (maxSteps := 2000000) only [Ty.w, simprocAttr, W, hlE, hd]); rfl) (fun hb => ?_) (fun hb => ?_) <;> (try simp only [hb0, decide_eq_true_eq, decide_eq_false_iff_not, simprocAttr] at hb) <;> (try (exfalso; omega))) | (refine hK _ _ ?_; clear hK; try simp only [pst0, simprocAttr]))
    (first | refine a_dcall0 (hc) (by (try simp only [Ty.w, simprocAttr, W, putC]); try rfl) ?_ | refine a_dcallA (hc) (by (try simp only [Ty.w, simprocAttr, W, putC]); try rfl) (by simp only [Ty.w, simprocAttr, W, putC]; try trivial) ?_); simp (maxSteps := 2000000) only [Ty.w, simprocAttr, W, Option.getD_some, putC]
    repeat' (first | (refine a_regionS ?_; simp (maxSteps := 2000000) only [Ty.w, simprocAttr, W, putC]) | (refine hK _ _ ?_; clear hK; try simp only [pst0, simprocAttr]) | (with_reducible refine a_past2 (by simp only [List.forall_mem_cons, Ty.w, simprocAttr, g3, g6, g7, g8, g10, g11, oA, oAT, n2, n3, t1, t2, t3, hpr, hp1, hp2, hb, w7, putC]; (repeat' apply And.intro) <;> first | trivial | exact .inl (by decide +kernel)) ?_; try simp (maxSteps := 2000000) only [Ty.w, simprocAttr, W, putC]) | (rw [if_pos]; rotate_left 1; omega; simp (maxSteps := 2000000) only [Ty.w, simprocAttr, W, putC]))
    exact ⟨exprs.length - (k + 1), by omega, k + 1, _, by simp, by omega, rfl, by rw [hrow]; exact hpush⟩
   ·have hd : decide ((k : Int) < (exprs.length : Int)) = false := by simp; omega
    have hke : k = exprs.length := by omega
    subst hke
    rw [List.take_length] at hI
    repeat' (first | refine a_seq fun K hK => ?_ | (refine a_block ?_) | (refine a_regionS ?_; simp (maxSteps := 2000000) only [Ty.w, simprocAttr, g3, g6, g7, g8, g10, g11, hlE, hd]) | (refine a_exit ?_; try simp only [pst0, simprocAttr]) | (refine a_cond _ (by (try simp (maxSteps := 2000000) only [Ty.w, simprocAttr, g3, g6, g7, g8, g10, g11, hlE, hd]); rfl) (fun hb => ?_) (fun hb => ?_) <;> (try simp only [hb0, decide_eq_true_eq, decide_eq_false_iff_not, simprocAttr] at hb) <;> (try (exfalso; omega))) | ((first | refine hK _ _ ?_ | (clear hK; refine hK _ _ ?_)); clear hK; try simp only [pst0, simprocAttr]))
    have hEt := hI.gi.tl
    have hMx := hI.nx
    have hIn : R8 h1 params 6 (fun q => [sPV op, sPV name, .imm 1 (strRows args2), .own (h1.next + 16) 0 params.length, p, q]) h' [] (.sc (.slice none 0 0)) h' := ⟨⟨Nat.le_refl _, by have := hI.gi.le; omega, fun _ _ _ => rfl, hI.gi.oA, .inl ⟨rfl, .inl rfl⟩⟩, by have := hI.gi.le; omega, hI.old, hI.oP⟩
    clear hI oA
    revert p
    intro pE hE1 hE2 hEt hIn
    refine a_loop (fun m S H2 => S 3 = .cptr [sPV op, sPV name, .imm 1 (strRows args), .imm 2 (pmRows params), .imm 5 (Ex.rows exprs), .imm 6 (Fm.rows kids)] ∧ S 6 = .ptr h.next 0 0 ∧ S 7 = pa ∧ S 8 = pb ∧ S 10 = .ptr (h1.next + 14) 0 0 ∧ ∃ (k : Nat) (p : PV), S 12 = .sc (.int .i64 k) ∧ k ≤ kids.length ∧ m = kids.length - k ∧ R8 h1 params 6 (fun q => [sPV op, sPV name, .imm 1 (strRows args2), .own (h1.next + 16) 0 params.length, pE, q]) h' (Fm.rows ((kids.take k).map (bindR · N M))) p H2) kids.length ?_ ?_
    ·simp only [Ty.w, simprocAttr, g3, g6, g7, g8, g10]
     exact ⟨0, _, rfl, by omega, rfl, by simpa [Fm.rows] using hIn⟩
    ·clear hIn g3 g6 g7 g8 g10 g11 hd
     rintro m S H2 ⟨g3, g6, g7, g8, g10, k, p, g12, hk, rfl, hI⟩
     obtain ⟨hp1, hp2⟩ := hI.gi.pc
     have oA := hI.gi.oA
     by_cases hlt : k < kids.length
     ·have hd : decide ((k : Int) < (kids.length : Int)) = true := by simp; omega
      have w7 : IntKind.i64.wrap ((k : Int) + 1) = k + 1 := by rw [wrap64 (by omega) (by omega)]
      obtain ⟨x, hx⟩ : ∃ x, kids[k]? = some x := ⟨_, List.getElem?_eq_getElem hlt⟩
      have hr := Fm.rows_get hx
      have hmem := List.mem_of_getElem? hx
      have hle : h1.next ≤ H2.next := by have := hI.gi.le; have := hI.nx; omega
      have hc := ih x hmem (hks x hmem) (hsk x hmem) (hko x hmem) (hkb x hmem) (Nat.le_trans hf2 hn) hNs (slA H2 hle hI.old) (slB H2 hle hI.old)
      have hL : (kids.take (k + 1)).map (bindR · N M) = (kids.take k).map (bindR · N M) ++ [bindR x N M] := by rw [List.take_add_one, hx]; simp
      have hlen : ((kids.take k).map (bindR · N M)).length ≤ k := by simp; omega
      generalize (kids.take k).map (bindR · N M) = L at hI hL hlen
      generalize bindR x N M = y at hc hL
      obtain ⟨HT, t1, t2, t3, oAT, t4, t5⟩ := hI.push
      have n2 : (h1.next + 14 = HT.next) = False := eq_false (by omega)
      have n3 : (h1.next + 14 = H2.next) = False := eq_false (by omega)
      have hpr := Fm.rows_len L
      have hb : (L.length + 1) * 128 ≤ 140737488355328 := by omega
      obtain ⟨yo, yn, ya, yp, ye, yk⟩ := y
      obtain ⟨xo, xn, xa, xp, xe, xk⟩ := x
      simp only [Fm.cells] at hr hc
      have hpush := t5 (Fm.rows L ++ [[sPV yo, sPV yn, .imm 1 (strRows ya), .imm 2 (pmRows yp), .imm 5 (Ex.rows ye), .imm 6 (Fm.rows yk)]]) (L.length + 1) (by simp [Fm.rows_len])
      have hrow : Fm.rows ((kids.take (k + 1)).map (bindR · N M)) = Fm.rows L ++ [[sPV yo, sPV yn, .imm 1 (strRows ya), .imm 2 (pmRows yp), .imm 5 (Ex.rows ye), .imm 6 (Fm.rows yk)]] := by rw [hL]; simp only [Fm.rows_map, List.map_append, List.map_cons, List.map_nil, Fm.cells]
      clear ih
      have W := And.intro g3 (And.intro g6 (And.intro g7 (And.intro g8 (And.intro g10 (And.intro g12 (And.intro oAT (And.intro oA (And.intro hr (And.intro n2 (And.intro hp1 (And.intro n3 (And.intro hp2 (And.intro t1 (And.intro hE1 (And.intro t2 (And.intro hE2 (And.intro t3 (And.intro hpr (And.intro hb w7)))))))))))))))))))
      repeat' (first | refine a_seq fun K hK => ?_ | (refine a_block ?_) | ((first | refine a_regionS ?_ | refine a_draw (by decide +kernel) (fun K hK => ?_)); simp (maxSteps := 2000000) only [Ty.w, simprocAttr, W, hlK, hd]) | (refine a_skip ?_; try simp only [pst0, simprocAttr]) | (refine a_cond _ (by (try simp (maxSteps := 2000000) only [Ty.w, simprocAttr, W, hlK, hd]); rfl) (fun hb => ?_) (fun hb => ?_) <;> (try simp only [hb0, decide_eq_true_eq, decide_eq_false_iff_not, simprocAttr] at hb) <;> (try (exfalso; omega))) | (refine hK _ _ ?_; clear hK; try simp only [pst0, simprocAttr]))
      (first | refine a_dcall0 (hc) (by (try simp only [Ty.w, simprocAttr, W, putC]); try rfl) ?_ | refine a_dcallA (hc) (by (try simp only [Ty.w, simprocAttr, W, putC]); try rfl) (by simp only [Ty.w, simprocAttr, W, putC]; try trivial) ?_); simp (maxSteps := 2000000) only [Ty.w, simprocAttr, W, Option.getD_some, putC]
      repeat' (first | (refine a_regionS ?_; simp (maxSteps := 2000000) only [Ty.w, simprocAttr, W, putC]) | (refine hK _ _ ?_; clear hK; try simp only [pst0, simprocAttr]) | (with_reducible refine a_past2 (by simp only [List.forall_mem_cons, Ty.w, simprocAttr, g3, g6, g7, g8, g10, g12, oA, oAT, n2, n3, t1, t2, t3, hpr, hp1, hp2, hE1, hE2, hb, w7, putC]; (repeat' apply And.intro) <;> first | trivial | exact .inl (by decide +kernel)) ?_; try simp (maxSteps := 2000000) only [Ty.w, simprocAttr, W, putC]) | (rw [if_pos]; rotate_left 1; omega; simp (maxSteps := 2000000) only [Ty.w, simprocAttr, W, putC]))
      exact ⟨kids.length - (k + 1), by omega, k + 1, _, by simp, by omega, rfl, by rw [hrow]; exact hpush⟩
     ·have hd : decide ((k : Int) < (kids.length : Int)) = false := by simp; omega
      have hke : k = kids.length := by omega
      subst hke
      rw [List.take_length] at hI
      have o1x : H2.obj h.next = some (.arr 6 [[.sc (.string ⟨#[]⟩), .sc (.string ⟨#[]⟩), .sc (.slice none 0 0), .sc (.slice none 0 0), .sc (.slice none 0 0), .sc (.slice none 0 0)]]) := (hI.old _ hlt1).trans o1
      have hl2 := hI.gi.le
      have hlx := hI.nx
      repeat' (first | refine a_seq fun K hK => ?_ | ((first | refine a_regionS ?_ | refine a_ret ?_); simp (maxSteps := 2000000) only [Ty.w, simprocAttr, g3, g6, g7, g8, g10, g12, hlK, hd, oA, o1x, hp1, hp2, hE1, hE2, putC]) | (refine a_exit ?_; try simp only [pst0, simprocAttr]) | (refine a_cond _ (by (try simp (maxSteps := 2000000) only [Ty.w, simprocAttr, g3, g6, g7, g8, g10, g12, hlK, hd, oA, o1x, hp1, hp2, hE1, hE2, putC]); rfl) (fun hb => ?_) (fun hb => ?_) <;> (try simp only [hb0, decide_eq_true_eq, decide_eq_false_iff_not, simprocAttr] at hb) <;> (try (exfalso; omega))) | ((first | refine hK _ _ ?_ | (clear hK; refine hK _ _ ?_)); clear hK; try simp only [pst0, simprocAttr]))
      refine ⟨frz_fm6 ?_ (tl_frzE (by omega) (hEt.up (Nat.le_trans (Nat.le_refl _) (by simp only [Heap.set]; omega)) fun j hj hj2 => ?_)) (tl_frzF (by omega) (hI.gi.tl.up (Nat.le_refl _) fun j hj _ => by simp only [Heap.set]; rw [if_neg (by omega)])), ?_⟩
      ·have hob : (H2.set h.next (.arr 6 [[sPV op, sPV name, .imm 1 (strRows args2), .own (h1.next + 16) 0 params.length, pE, p]])).obj (h1.next + 16) = some (.arr 2 (pmRows params)) := by
        simp only [Heap.set]; rw [if_neg (by omega)]; exact hI.oP
       unfold FrzTo
       refine .inr (.inr ⟨h1.next + 16, 0, params.length, pmRows params, rfl, by omega, hob, by rw [hlP]; omega, ?_⟩)
       rw [List.drop_zero, ← hlP, List.take_length]
       exact frz_pms params
      ·simp only [Heap.set]; rw [if_neg (by omega)]
       exact hI.gi.old j hj2 (by omega)
      ·exact Grow.set ⟨by omega, fun j hj => (hI.old j (by omega)).trans (hgr.old j hj)⟩ (Nat.le_refl _) _
end Go.Proofs.Ytjlkapgpjamnkaa
namespace Go.Proofs.Ytjlkapgpjamnkaa
open Go.AM
set_option maxHeartbeats 4000000
set_option maxRecDepth 20000
theorem lookR_mem {s t : ByteArray} : ∀ n a : List ByteArray, lookR n a s = some t → t ∈ a
 | [], _, h => by simp [lookR] at h
 | _ :: _, [], h => by simp [lookR] at h
 | x :: n, y :: a, h => by
  simp only [lookR] at h
  split at h
  ·simp only [Option.some.injEq] at h; subst h; simp
  ·exact List.mem_cons.2 (.inr (lookR_mem n a h))
theorem filtR_mem2 (p : ByteArray → Bool) : ∀ (n a : List ByteArray) {s : ByteArray}, s ∈ (filtR p n a).2 → s ∈ a
 | [], _, s, h => by simp [filtR] at h
 | _ :: _, [], s, h => by simp [filtR] at h
 | x :: n, y :: a, s, h => by
  simp only [filtR] at h
  split at h
  ·rcases List.mem_cons.1 h with rfl | h
   ·simp
   ·exact List.mem_cons.2 (.inr (filtR_mem2 p n a h))
  ·exact List.mem_cons.2 (.inr (filtR_mem2 p n a h))
theorem toM_mem {n a : List ByteArray} {s t : ByteArray} (h : toM n a s = some t) : t ∈ a := filtR_mem2 _ _ _ (lookR_mem _ _ h)
section
variable {to : ByteArray → Option ByteArray}
theorem repls_okk (hts : ∀ s t, to s = some t → t.size ≤ bigN) (bound : List ByteArray) {l : List ByteArray} (h : ∀ a ∈ l, a.size ≤ bigN) : ∀ a ∈ l.map (replS to bound), a.size ≤ bigN := by
 intro a ha
 obtain ⟨s, hs, rfl⟩ := List.mem_map.1 ha
 unfold replS
 split
 ·rename_i t ht
  split
  ·exact h s hs
  ·exact hts _ _ ht
 ·exact h s hs
mutual
theorem bindEx_okk (hts : ∀ s t, to s = some t → t.size ≤ bigN) (bound : List ByteArray) : ∀ e : Ex, e.ok → (bindEx to bound e).ok
 | .mk op name n args kids => fun h => by
  have h2 := bindExs_okk hts bound kids
  have h5 : (bindExs to bound kids).length = kids.length := by rw [bindExs_map, List.length_map]
  simp only [bindEx, Ex.ok] at h ⊢
  obtain ⟨a1, a2, a3, ⟨a4, a5⟩, a6, a7⟩ := h
  exact ⟨a1, a2, a3, ⟨by rw [List.length_map]; exact a4, repls_okk hts bound a5⟩, by rw [h5]; exact a6, h2 a7⟩
theorem bindExs_okk (hts : ∀ s t, to s = some t → t.size ≤ bigN) (bound : List ByteArray) : ∀ l : List Ex, Ex.oks l → Ex.oks (bindExs to bound l)
 | [] => fun _ => by simp [bindExs, Ex.oks]
 | k :: l => fun h => by
  simp only [bindExs, Ex.oks] at h ⊢
  exact ⟨bindEx_okk hts bound k h.1, bindExs_okk hts bound l h.2⟩
end
mutual
theorem bindFm_okk (hts : ∀ s t, to s = some t → t.size ≤ bigN) : ∀ (f : Fm) (bound : List ByteArray), f.ok → (bindFm to f bound).ok
 | .mk op name args params exprs kids, bound => fun h => by
  have h2 := bindFms_okk hts kids (bound ++ params.map Pm.name)
  have g2 := bindExs_okk hts bound exprs
  have h5 : (bindExs to bound exprs).length = exprs.length := by rw [bindExs_map, List.length_map]
  have h6 : (bindFms to kids (bound ++ params.map Pm.name)).length = kids.length := by rw [bindFms_map, List.length_map]
  simp only [bindFm, Fm.ok] at h ⊢
  obtain ⟨a1, a2, ⟨a3, a4⟩, a5, ⟨a6, a7⟩, a8, a9⟩ := h
  exact ⟨a1, a2, ⟨by rw [List.length_map]; exact a3, repls_okk hts bound a4⟩, a5, ⟨by rw [h5]; exact a6, g2 a7⟩, by rw [h6]; exact a8, h2 a9⟩
theorem bindFms_okk (hts : ∀ s t, to s = some t → t.size ≤ bigN) : ∀ (l : List Fm) (bound : List ByteArray), Fm.oks l → Fm.oks (bindFms to l bound)
 | [], _ => fun _ => by simp [bindFms, Fm.oks]
 | k :: l, bound => fun h => by
  simp only [bindFms, Fm.oks] at h ⊢
  exact ⟨bindFm_okk hts k bound h.1, bindFms_okk hts l bound h.2⟩
end
end
theorem bindEx_same (n a : List ByteArray) (e : Ex) : bindEx (toM n a) [] e = bindExR (filtR varB n a).1 (filtR varB n a).2 e :=
 bindEx_eqR (fun s => by
  unfold replS replR toM
  cases lookR (filtR varB n a).1 (filtR varB n a).2 s <;> simp [memB]) e
theorem exsB_refl : ∀ l : List Ex, (∀ e ∈ l, e.same e = true) → Ex.sames l l = true
 | [], _ => rfl
 | a :: l, h => by rw [Ex.sames, h a (List.mem_cons_self ..), exsB_refl l fun e he => h e (List.mem_cons_of_mem _ he)]; try rfl
theorem bsB_refl : ∀ l : List ByteArray, bsEq l l = true
 | [] => rfl
 | a :: l => by simp only [bsEq, bEq, beq_self_eq_true, bsB_refl l, Bool.and_true]
theorem exB_refl : ∀ e : Ex, e.same e = true := by
 refine Ex.ind ?_
 intro op name n args kids ih
 simp only [Ex.same, bEq, beq_self_eq_true, bsB_refl, exsB_refl kids ih, Bool.and_true]
end Go.Proofs.Ytjlkapgpjamnkaa
namespace Go.Proofs.Ytjlkapgpjamnkaa
open Go.AM
set_option maxHeartbeats 4000000
set_option maxRecDepth 20000
theorem same_self {f : Fm} : f.same f = true := by
 have hb : ∀ l : List ByteArray, bsEq l l = true := bsEq_self
 have hp : ∀ l : List Pm, pmsEq l l = true := by
  intro l
  induction l with
  | nil => rfl
  | cons a l ih => simp [pmsEq, pmEq, bEq, ih]
 have hE : ∀ e : Ex, e.same e = true := by
  intro e
  induction e using Ex.ind with
  | hC op name n args kids ih =>
   have hl : ∀ l : List Ex, (∀ k ∈ l, k.same k = true) → Ex.sames l l = true := by
    intro l
    induction l with
    | nil => intro _; rfl
    | cons a l ih2 => intro h; simp only [Ex.sames, h a (by simp), ih2 fun k hk => h k (by simp [hk]), Bool.and_self]
   simp only [Ex.same, bEq, beq_self_eq_true, hb, hl kids ih, Bool.and_self]
 have hEs : ∀ l : List Ex, Ex.sames l l = true := by
  intro l
  induction l with
  | nil => rfl
  | cons a l ih => simp only [Ex.sames, hE, ih, Bool.and_self]
 induction f using Fm.ind with
 | hC op name args params exprs kids ih =>
  have hl : ∀ l : List Fm, (∀ k ∈ l, k.same k = true) → Fm.sames l l = true := by
   intro l
   induction l with
   | nil => intro _; rfl
   | cons a l ih2 => intro h; simp only [Fm.sames, h a (by simp), ih2 fun k hk => h k (by simp [hk]), Bool.and_self]
  simp only [Fm.same, bEq, beq_self_eq_true, hb, hp, hEs, hl kids ih, Bool.and_self]
end Go.Proofs.Ytjlkapgpjamnkaa
