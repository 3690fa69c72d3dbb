/- Which objects a value names; fewer of them. -/
import Derived.Test.YtdnpmfjfgamaeaaGreatAmDraw3
set_option linter.unusedVariables false
set_option linter.unusedSimpArgs false
set_option linter.unusedSectionVars false
namespace Go.AM
mutual
/-- all objects named are below n -/
def inN (n : Nat) : PV → Prop
  | .sc _ => True
  | .ptr id _ _ => id < n
  | .cptr cs => inNL n cs
  | .own id _ _ => id < n
  | .imm _ rows => inNR n rows
  | .emp => True
  | .mp id => id < n
  | .agg cs => inNL n cs
  | .tup cs => inNL n cs
  | .fn _ a b => inNL n a ∧ inNL n b
  | .ab _ _ _ _ _ => True
def inNL (n : Nat) : List PV → Prop
  | [] => True
  | p :: ps => inN n p ∧ inNL n ps
def inNR (n : Nat) : List (List PV) → Prop
  | [] => True
  | r :: rs => inNL n r ∧ inNR n rs
end
mutual
theorem inN_up {n m : Nat} (h : n ≤ m) : (p : PV) → inN n p → inN m p
  | .sc _, _ => by simp only [inN]
  | .ptr _ _ _, hp => by simp only [inN] at hp ⊢; omega
  | .cptr cs, hp => by simp only [inN] at hp ⊢; exact inNL_up h cs hp
  | .own _ _ _, hp => by simp only [inN] at hp ⊢; omega
  | .imm _ rows, hp => by simp only [inN] at hp ⊢; exact inNR_up h rows hp
  | .emp, _ => by simp only [inN]
  | .mp _, hp => by simp only [inN] at hp ⊢; omega
  | .agg cs, hp => by simp only [inN] at hp ⊢; exact inNL_up h cs hp
  | .tup cs, hp => by simp only [inN] at hp ⊢; exact inNL_up h cs hp
  | .fn _ a b, hp => by simp only [inN] at hp ⊢; exact ⟨inNL_up h a hp.1, inNL_up h b hp.2⟩
  | .ab _ _ _ _ _, _ => by simp only [inN]
theorem inNL_up {n m : Nat} (h : n ≤ m) : (l : List PV) → inNL n l → inNL m l
  | [], _ => by simp only [inNL]
  | p :: ps, hp => by simp only [inNL] at hp ⊢; exact ⟨inN_up h p hp.1, inNL_up h ps hp.2⟩
theorem inNR_up {n m : Nat} (h : n ≤ m) : (l : List (List PV)) → inNR n l → inNR m l
  | [], _ => by simp only [inNR]
  | p :: ps, hp => by simp only [inNR] at hp ⊢; exact ⟨inNL_up h p hp.1, inNR_up h ps hp.2⟩
end
def inNO (n : Nat) : AObj → Prop
  | .arr _ rows => inNR n rows
  | .map es => inNL n (es.map (·.2))
  | .glb _ _ _ => True
section
variable {β : Env} {n m : Nat} {F F' : Nat → Prop} {w : World}
mutual
theorem Rep.inN : (p : PV) → (x : Value) → Rep β m F w p x → inN m p
  | .sc _, _, _ => by simp only [inN]
  | .ptr _ _ _, _, h => by simp only [inN]; simp only [Rep] at h; exact h.1
  | .cptr cs, _, h => by simp only [inN]; simp only [Rep] at h; obtain ⟨b, o, _, _, h3⟩ := h; exact RepS.inN cs b o h3
  | .own _ _ _, _, h => by simp only [inN]; simp only [Rep] at h; exact h.1
  | .imm z rows, _, h => by
    simp only [inN]; simp only [Rep] at h
    obtain ⟨a, cap, _, _, _, h3⟩ := h
    rcases h3 with rfl | ⟨b, o, _, _, h5⟩
    · simp only [inNR]
    · exact RepR.inN z rows b o h5
  | .emp, _, _ => by simp only [inN]
  | .mp _, _, h => by simp only [inN]; simp only [Rep] at h; exact h.1
  | .agg cs, _, h => by simp only [inN]; simp only [Rep] at h; obtain ⟨xs, _, _, h3⟩ := h; exact RepL.inN cs xs h3
  | .tup cs, _, h => by simp only [inN]; simp only [Rep] at h; obtain ⟨xs, _, h3⟩ := h; exact RepL.inN cs xs h3
  | .fn _ a b, _, h => by simp only [inN]; simp only [Rep] at h; obtain ⟨xs, ys, _, h3, h4⟩ := h; exact ⟨RepL.inN a xs h3, RepL.inN b ys h4⟩
  | .ab _ _ _ _ _, _, _ => by simp only [inN]
theorem RepS.inN : (l : List PV) → (b o : Nat) → RepS β m F w l b o → inNL m l
  | [], _, _, _ => by simp only [inNL]
  | p :: ps, b, o, h => by
    simp only [inNL]; simp only [RepS] at h
    obtain ⟨⟨v, _, _, h3⟩, h4⟩ := h
    exact ⟨Rep.inN p v h3, RepS.inN ps b (o + 1) h4⟩
theorem RepR.inN (z : Nat) : (l : List (List PV)) → (b o : Nat) → RepR β m F w z l b o → inNR m l
  | [], _, _, _ => by simp only [inNR]
  | r :: rs, b, o, h => by
    simp only [inNR]; simp only [RepR] at h
    exact ⟨RepS.inN r b o h.1.2, RepR.inN z rs b (o + z) h.2⟩
theorem RepL.inN : (l : List PV) → (xs : List Value) → RepL β m F w l xs → inNL m l
  | [], _, _ => by simp only [inNL]
  | _ :: _, [], h => by simp only [RepL] at h
  | p :: ps, v :: vs, h => by
    simp only [inNL]; simp only [RepL] at h
    exact ⟨Rep.inN p v h.1, RepL.inN ps vs h.2⟩
end
mutual
/-- fewer objects named, more memory at rest -/
theorem Rep.low (hF : ∀ b, F b → F' b) : (p : PV) → (x : Value) → inN n p → Rep β m F w p x → Rep β n F' w p x
  | .sc _, _, _, h => by simpa only [Rep] using h
  | .ptr _ _ _, _, hs, h => by simp only [inN] at hs; simp only [Rep] at h ⊢; exact ⟨hs, h.2⟩
  | .cptr cs, _, hs, h => by
    simp only [inN] at hs; simp only [Rep] at h ⊢
    obtain ⟨b, o, h1, h2, h3⟩ := h
    exact ⟨b, o, hF b h1, h2, RepS.low hF cs b o hs h3⟩
  | .own _ _ _, _, hs, h => by simp only [inN] at hs; simp only [Rep] at h ⊢; exact ⟨hs, h.2⟩
  | .imm z rows, _, hs, h => by
    simp only [inN] at hs; simp only [Rep] at h ⊢
    obtain ⟨a, cap, h1, h2, h2', h3⟩ := h
    exact ⟨a, cap, h1, h2, h2', h3.imp id fun ⟨b, o, g1, g2, g3⟩ => ⟨b, o, hF b g1, g2, RepR.low hF z rows b o hs g3⟩⟩
  | .emp, _, _, h => by simpa only [Rep] using h
  | .mp _, _, hs, h => by simp only [inN] at hs; simp only [Rep] at h ⊢; exact ⟨hs, h.2⟩
  | .agg cs, _, hs, h => by
    simp only [inN] at hs; simp only [Rep] at h ⊢
    obtain ⟨xs, h1, h2, h3⟩ := h
    exact ⟨xs, h1, h2, RepL.low hF cs xs hs h3⟩
  | .tup cs, _, hs, h => by
    simp only [inN] at hs; simp only [Rep] at h ⊢
    obtain ⟨xs, h1, h3⟩ := h
    exact ⟨xs, h1, RepL.low hF cs xs hs h3⟩
  | .fn _ a b, _, hs, h => by
    simp only [inN] at hs; simp only [Rep] at h ⊢
    obtain ⟨xs, ys, h1, h3, h4⟩ := h
    exact ⟨xs, ys, h1, RepL.low hF a xs hs.1 h3, RepL.low hF b ys hs.2 h4⟩
  | .ab _ _ _ _ _, _, _, h => by simpa only [Rep] using h
theorem RepS.low (hF : ∀ b, F b → F' b) : (l : List PV) → (b o : Nat) → inNL n l → RepS β m F w l b o → RepS β n F' w l b o
  | [], _, _, _, _ => by simp only [RepS]
  | p :: ps, b, o, hs, h => by
    simp only [inNL] at hs; simp only [RepS] at h ⊢
    obtain ⟨⟨v, h1, h2, h3⟩, h4⟩ := h
    exact ⟨⟨v, h1, h2, Rep.low hF p v hs.1 h3⟩, RepS.low hF ps b (o + 1) hs.2 h4⟩
theorem RepR.low (hF : ∀ b, F b → F' b) (z : Nat) : (l : List (List PV)) → (b o : Nat) → inNR n l → RepR β m F w z l b o → RepR β n F' w z l b o
  | [], _, _, _, _ => by simp only [RepR]
  | r :: rs, b, o, hs, h => by
    simp only [inNR] at hs; simp only [RepR] at h ⊢
    exact ⟨⟨h.1.1, RepS.low hF r b o hs.1 h.1.2⟩, RepR.low hF z rs b (o + z) hs.2 h.2⟩
theorem RepL.low (hF : ∀ b, F b → F' b) : (l : List PV) → (xs : List Value) → inNL n l → RepL β m F w l xs → RepL β n F' w l xs
  | [], [], _, _ => by simp only [RepL]
  | [], _ :: _, _, h => by simp only [RepL] at h
  | _ :: _, [], _, h => by simp only [RepL] at h
  | p :: ps, v :: vs, hs, h => by
    simp only [inNL] at hs; simp only [RepL] at h ⊢
    exact ⟨Rep.low hF p v hs.1 h.1, RepL.low hF ps vs hs.2 h.2⟩
end
end
theorem ObjOk.low {β : Env} {n m : Nat} {F F' : Nat → Prop} {w : World} (hF : ∀ b, F b → F' b) {k : Blk} {o : AObj} (hs : inNO n o) (hk : ObjOk β m F w k o) : ObjOk β n F' w k o := by
  cases o with
  | arr z rows =>
    simp only [ObjOk] at hk ⊢
    refine ⟨hk.1, hk.2.imp id ?_⟩
    rintro ⟨b, c, e, fr, g1, g2, g3, g4, g5, g6⟩
    exact ⟨b, c, e, fr, g1, g2, g3, g4, g5, RepR.low hF z rows _ _ hs g6⟩
  | map es =>
    simp only [ObjOk] at hk ⊢
    obtain ⟨b, fs, cl, g1, g2, g3⟩ := hk
    refine ⟨b, fs, cl, g1, g2, ?_⟩
    simp only [inNO] at hs
    have : ∀ (es : List (Value × PV)) (fs : List MapEntry), inNL n (es.map (·.2)) → RepM β m F w es fs → RepM β n F' w es fs := by
      intro es
      induction es with
      | nil => intro fs _ h; cases fs <;> simp_all [RepM]
      | cons e es ih =>
        intro fs hs h
        cases fs with
        | nil => simp [RepM] at h
        | cons f fs =>
          simp only [List.map_cons, inNL] at hs
          simp only [RepM] at h ⊢
          exact ⟨⟨h.1.1, Rep.low hF _ _ hs.1 h.1.2⟩, ih fs hs.2 h.2⟩
    exact this _ _ hs g3
  | glb g lo hi =>
    simp only [ObjOk] at hk ⊢
    exact ⟨hk.1, hF g hk.2.1, hk.2.2⟩
theorem ObjOk.inN {β : Env} {m : Nat} {F : Nat → Prop} {w : World} {k : Blk} {o : AObj} (hk : ObjOk β m F w k o) : inNO m o := by
  cases o with
  | arr z rows =>
    simp only [ObjOk] at hk
    simp only [inNO]
    rcases hk.2 with ⟨_, rfl⟩ | ⟨b, c, e, fr, g1, g2, g3, g4, g5, g6⟩
    · simp only [inNR]
    · exact RepR.inN z rows _ _ g6
  | map es =>
    simp only [ObjOk] at hk
    obtain ⟨b, fs, cl, g1, g2, g3⟩ := hk
    simp only [inNO]
    have : ∀ (es : List (Value × PV)) (fs : List MapEntry), RepM β m F w es fs → inNL m (es.map (·.2)) := by
      intro es
      induction es with
      | nil => intro fs _; simp only [List.map_nil, inNL]
      | cons e es ih =>
        intro fs h
        cases fs with
        | nil => simp [RepM] at h
        | cons f fs =>
          simp only [RepM] at h
          simp only [List.map_cons, inNL]
          exact ⟨Rep.inN _ _ h.1.2, ih fs h.2⟩
    exact this _ _ g3
  | glb g lo hi => simp only [inNO]

end Go.AM
