/- What a touch says; how little an access changes; no condition. -/
import Derived.Test.YtcoiboghdmmdcadPureAskLaws
set_option linter.unusedVariables false
set_option linter.unusedSimpArgs false
namespace Go.Proofs.Ytcoiboghdmmdcad.Pure
open Go Go.RowKit Go.Proofs.YtcoiboghdmmdcadFn Go.Proofs.YtcoiboghdmmdcadPx

theorem len1 (q : Touch) : (0 : Int) < (([q] : List Touch).length : Int) := (by decide : (0 : Int) < ((1 : Nat) : Int))
theorem noR_l (e : Int) : (noR e).2.2.1 = [] := rfl
theorem endR_nil (r : Sh × Int × Int) : (endR r []).2.2.1 = [] := by
  by_cases h : r.2.2 = 0
  · rw [endR_ok h]
  · rw [endR_err h]; rfl
theorem do_nil {c : Cfg} {s : Sh} {t : Int} {a : Acc} (h : ¬ (a.1 = 3 ∨ a.1 = 4)) : (doV c s t a).2.2.1 = [] := by
  unfold doV
  split
  · split
    · rfl
    · split
      · exact endR_nil _
      · split
        · exact endR_nil _
        · rfl
  · rfl
theorem noR_e (e : Int) : (noR e).2.2.2 = e := rfl
theorem do_words_cases {c : Cfg} {s : Sh} {t : Int} {a : Acc} (k : a.1 = 3 ∨ a.1 = 4) : ((doV c s t a).2.2.2 ≠ 0 ∧ (doV c s t a).2.2.1 = []) ∨ ((doV c s t a).2.2.2 = 0 ∧ a.2.2.1 = 0 ∧ (doV c s t a).2.2.1 = []) ∨ ((doV c s t a).2.2.2 = 0 ∧ a.2.2.1 ≠ 0 ∧ okSh c s ∧ (whereC c s.1 a.2.2.1 a.2.2.2.1 a.2.2.2.2.1).2 = 0 ∧ (doV c s t a).2.2.1 = touchV s t a) := by
  by_cases ho : okSh c s
  · rw [do_words ho k]
    by_cases e : (wordsV c s a).2.2 = 0
    · rw [endR_ok e]
      by_cases z : a.2.2.1 = 0
      · rw [if_pos z]; exact Or.inr (Or.inl ⟨rfl, z, rfl⟩)
      · rw [if_neg z]
        refine Or.inr (Or.inr ⟨rfl, z, ho, ?_, rfl⟩)
        refine Classical.byContradiction fun q => ?_
        unfold wordsV at e
        by_cases h3 : a.1 = 3
        · rw [if_pos h3, if_neg z] at e
          have : fieldC c s.1 a.2.2.1 a.2.2.2.1 a.2.2.2.2.1 = (0, (whereC c s.1 a.2.2.1 a.2.2.2.1 a.2.2.2.2.1).2) := if_neg q
          rw [this] at e; exact q e
        · rw [if_neg h3, if_neg z] at e
          have : putC c s.1 a.2.2.1 a.2.2.2.1 a.2.2.2.2.1 a.2.2.2.2.2 = ([], (whereC c s.1 a.2.2.1 a.2.2.2.1 a.2.2.2.2.1).2) := if_neg q
          rw [this] at e; exact q e
    · rw [endR_err e]; exact Or.inl ⟨e, rfl⟩
  · rw [do_no ho]; exact Or.inl ⟨(by decide : (1 : Int) ≠ 0), rfl⟩

theorem where_facts {c : Cfg} {s : Sh} {w r f : Int} (ho : okSh c s) (h : (whereC c s.1 w r f).2 = 0) : (unpackV r).2.2 = 0 ∧ kindOk w ∧ 0 ≤ (unpackV r).1 ∧ (unpackV r).1 < ((pl s w).1.length : Int) := by
  unfold whereC at h
  by_cases e : (unpackV r).2.2 = 0
  · rw [if_pos e] at h
    by_cases g : (s.1.length : Int) = (if ok c then sizeC c else 0)
    · rw [if_pos g] at h
      refine ⟨e, ?_⟩
      obtain ⟨l1, l2, l3⟩ := ho.2.2.2.2.1
      unfold fieldV at h
      rw [if_pos ho.1] at h
      by_cases c1 : w = 1 ∧ 0 ≤ (unpackV r).1 ∧ (unpackV r).1 < c.1 ∧ 0 ≤ f ∧ f < 4
      · obtain ⟨rfl, a1, a2, _⟩ := c1
        exact ⟨by omega, a1, by rw [show pl s 1 = s.2.2.1.1 from rfl]; omega⟩
      · rw [if_neg c1] at h
        by_cases c2 : w = 2 ∧ 0 ≤ (unpackV r).1 ∧ (unpackV r).1 < c.2.1 ∧ 0 ≤ f ∧ f < 5
        · obtain ⟨rfl, a1, a2, _⟩ := c2
          exact ⟨by omega, a1, by rw [show pl s 2 = s.2.2.1.2.1 from rfl]; omega⟩
        · rw [if_neg c2] at h
          by_cases c3 : w = 3 ∧ 0 ≤ (unpackV r).1 ∧ (unpackV r).1 < c.2.2.1 ∧ 0 ≤ f ∧ f < 3
          · obtain ⟨rfl, a1, a2, _⟩ := c3
            exact ⟨by omega, a1, by rw [show pl s 3 = s.2.2.1.2.2 from rfl]; omega⟩
          · rw [if_neg c3] at h; exact absurd h (by decide)
    · rw [if_neg g] at h; exact absurd h (by decide)
  · rw [if_neg e] at h; exact absurd h (by decide)

theorem touch_is {c : Cfg} {s : Sh} {t k p w r f v : Int} (ho : okSh c s) (h : (whereC c s.1 w r f).2 = 0) : touchV s t (k, p, w, r, f, v) = [(t, w, (unpackV r).1, f, (unpackV r).2.1, (pl s w).1.getD (unpackV r).1.toNat 0, (pl s w).2.1.getD (unpackV r).1.toNat 0, k == 4)] := by
  obtain ⟨h1, h2, h3, h4⟩ := where_facts ho h
  unfold touchV
  have : genA s w r = ((pl s w).1.getD (unpackV r).1.toNat 0, (pl s w).2.1.getD (unpackV r).1.toNat 0, 0) := if_pos ⟨h1, h2, ho.2.1, h4⟩
  simp only [this]

theorem AskTouches (x : Cfg × Sh × Int × Acc) (hx : InRT [⟨true, (.pair .int (.pair .int (.pair .int (.pair .int .int))))⟩, ⟨true, (.pair (.sl .int) (.pair (.sl .int) (.pair (.pair (.pair (.sl .int) (.pair (.sl .int) (.pair (.sl .int) (.sl .int)))) (.pair (.pair (.sl .int) (.pair (.sl .int) (.pair (.sl .int) (.sl .int)))) (.pair (.sl .int) (.pair (.sl .int) (.pair (.sl .int) (.sl .int)))))) (.pair .int (.sl .int)))))⟩, ⟨false, .int⟩, ⟨true, (.pair .int (.pair .int (.pair .int (.pair .int (.pair .int .int)))))⟩] x) : tendrillaw16_AskTouches x = some true := by
  obtain ⟨c, s, t, k, p, w, r, f, v⟩ := x
  have hr : -9223372036854775808 ≤ r ∧ r ≤ 9223372036854775807 := hx.2.2.2.2.2.2.1
  unfold tendrillaw16_AskTouches
  simp only [live16_eq, Option.bind_some, Bool.not_true, cond_false, etaS, fewA_eq]
  by_cases hf : fewB s
  · have hs := hf.fewS
    simp only [hf, decide_true, Bool.not_true, cond_false, etaC, do_eq c s t (k, p, w, r, f, v) hr hs, unpack_eq r hr, Option.bind_some, nec, eqc]
    by_cases hk3 : k = 3
    · subst hk3
      rw [if_pos rfl]
      rcases do_words_cases (c := c) (s := s) (t := t) (a := (3, p, w, r, f, v)) (Or.inl rfl) with ⟨h1, h2⟩ | ⟨h1, h2, h3⟩ | ⟨h1, h2, ho, hw, h3⟩
      · rw [if_neg h1, h2]; rfl
      · simp only at h2
        subst h2
        rw [if_pos h1, h3]; rfl
      · simp only at h2 hw
        obtain ⟨u1_, u2_, u3_, u4_⟩ := where_facts ho hw
        rw [touch_is ho hw] at h3
        have hlen := (ho.2.1.pl w).lens
        rw [if_pos h1, h3]
        have ew : (w != 0) = true := by rw [ne_dec, decide_eq_false h2]; rfl
        rw [ew, Bool.not_true, cond_false, if_pos u1_, if_pos (by rfl), cf (by omega), cf (by omega)]
        rcases three u2_ with rfl | rfl | rfl
        · rw [show pl s 1 = s.2.2.1.1 from rfl] at u4_ hlen ⊢
          simp only [u1]
          rw [cf (by decide), cf (by decide), ct (by rfl), cf (by omega), ct (len1 _), cf (by decide), cf (by decide), ct (by rfl)]
          simp only [show ∀ (q : Touch) d, [q].getD (Int.toNat 0) d = q from fun _ _ => rfl]
          rw [if_pos trivial, if_pos trivial, if_pos trivial, if_pos trivial, if_pos trivial, ct u3_, ct u4_, if_pos trivial, ct u3_, ct (by omega), if_pos trivial]
          rfl
        · rw [show pl s 2 = s.2.2.1.2.1 from rfl] at u4_ hlen ⊢
          simp only [u2]
          rw [cf (by decide), ct (by rfl), cf (by omega), ct (len1 _), cf (by decide), ct (by rfl)]
          simp only [show ∀ (q : Touch) d, [q].getD (Int.toNat 0) d = q from fun _ _ => rfl]
          rw [if_pos trivial, if_pos trivial, if_pos trivial, if_pos trivial, if_pos trivial, ct u3_, ct u4_, if_pos trivial, ct u3_, ct (by omega), if_pos trivial]
          rfl
        · rw [show pl s 3 = s.2.2.1.2.2 from rfl] at u4_ hlen ⊢
          simp only [u3]
          rw [ct (by rfl), cf (by omega), ct (len1 _), ct (by rfl)]
          simp only [show ∀ (q : Touch) d, [q].getD (Int.toNat 0) d = q from fun _ _ => rfl]
          rw [if_pos trivial, if_pos trivial, if_pos trivial, if_pos trivial, if_pos trivial, ct u3_, ct u4_, if_pos trivial, ct u3_, ct (by omega), if_pos trivial]
          rfl
    · rw [if_neg hk3]
      by_cases hk4 : k = 4
      · subst hk4
        rw [if_pos rfl]
        rcases do_words_cases (c := c) (s := s) (t := t) (a := (4, p, w, r, f, v)) (Or.inr rfl) with ⟨h1, h2⟩ | ⟨h1, h2, h3⟩ | ⟨h1, h2, ho, hw, h3⟩
        · rw [if_neg h1, h2]; rfl
        · simp only at h2
          subst h2
          rw [if_pos h1, h3]; rfl
        · simp only at h2 hw
          obtain ⟨u1_, u2_, u3_, u4_⟩ := where_facts ho hw
          rw [touch_is ho hw] at h3
          have hlen := (ho.2.1.pl w).lens
          rw [if_pos h1, h3]
          have ew : (w != 0) = true := by rw [ne_dec, decide_eq_false h2]; rfl
          rw [ew, Bool.not_true, cond_false, if_pos u1_, if_pos (by rfl), cf (by omega), cf (by omega)]
          rcases three u2_ with rfl | rfl | rfl
          · rw [show pl s 1 = s.2.2.1.1 from rfl] at u4_ hlen ⊢
            simp only [u1]
            rw [cf (by decide), cf (by decide), ct (by rfl), cf (by omega), ct (len1 _), cf (by decide), cf (by decide), ct (by rfl)]
            simp only [show ∀ (q : Touch) d, [q].getD (Int.toNat 0) d = q from fun _ _ => rfl]
            rw [if_pos trivial, if_pos trivial, if_pos trivial, if_pos trivial, if_pos trivial, ct u3_, ct u4_, if_pos trivial, ct u3_, ct (by omega), if_pos trivial]
            rfl
          · rw [show pl s 2 = s.2.2.1.2.1 from rfl] at u4_ hlen ⊢
            simp only [u2]
            rw [cf (by decide), ct (by rfl), cf (by omega), ct (len1 _), cf (by decide), ct (by rfl)]
            simp only [show ∀ (q : Touch) d, [q].getD (Int.toNat 0) d = q from fun _ _ => rfl]
            rw [if_pos trivial, if_pos trivial, if_pos trivial, if_pos trivial, if_pos trivial, ct u3_, ct u4_, if_pos trivial, ct u3_, ct (by omega), if_pos trivial]
            rfl
          · rw [show pl s 3 = s.2.2.1.2.2 from rfl] at u4_ hlen ⊢
            simp only [u3]
            rw [ct (by rfl), cf (by omega), ct (len1 _), ct (by rfl)]
            simp only [show ∀ (q : Touch) d, [q].getD (Int.toNat 0) d = q from fun _ _ => rfl]
            rw [if_pos trivial, if_pos trivial, if_pos trivial, if_pos trivial, if_pos trivial, ct u3_, ct u4_, if_pos trivial, ct u3_, ct (by omega), if_pos trivial]
            rfl
      · rw [if_neg hk4, do_nil (show ¬ ((k : Int) = 3 ∨ k = 4) by omega)]
        split <;> rfl
  · simp only [hf, decide_false, Bool.not_false, cond_true]
end Go.Proofs.Ytcoiboghdmmdcad.Pure
