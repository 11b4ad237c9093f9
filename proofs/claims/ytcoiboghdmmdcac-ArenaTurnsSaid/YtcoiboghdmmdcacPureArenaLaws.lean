/- Four laws of arena; no condition. -/
import Derived.Test.YtcoiboghdmmdcacPureArena2
import Derived.Test.YtcoiboghdmmdcacPurePoolDoes
set_option linter.unusedVariables false
set_option linter.unusedSimpArgs false
namespace Go.Proofs.Ytcoiboghdmmdcac.Pure
open Go Go.RowKit Go.Proofs.YtcoiboghdmmdcacFn Go.Proofs.YtcoiboghdmmdcacPx

theorem few_noS : fewS noS := ⟨⟨small_noP, small_noP, small_noP⟩, by decide, by decide, by decide⟩
theorem small_pl {s : Sh} (w : Int) (h : fewS s) : small (pl s w) := by
  unfold pl
  split
  · exact h.1.1
  · split
    · exact h.1.2.1
    · exact h.1.2.2
theorem few_setpl {s : Sh} (w : Int) {p : Pool} (h : fewS s) (hp : small p) : fewS (setpl s w p) := by
  unfold setpl
  refine ⟨?_, h.2⟩
  split
  · exact ⟨hp, h.1.2⟩
  · split
    · exact ⟨h.1.1, hp, h.1.2.2⟩
    · exact ⟨h.1.1, h.1.2.1, hp⟩
theorem few_take {s : Sh} (w : Int) (h : fewS s) : fewS (takeA s w).1 := by
  unfold takeA
  split
  · split
    · exact few_setpl w h (small_take _ (small_pl w h))
    · exact few_noS
  · exact few_noS
theorem few_ret {s : Sh} (w r : Int) (h : fewS s) : fewS (retA s w r).1 := by
  unfold retA
  split
  · split
    · exact few_setpl w h (small_retire _ _ _ (small_pl w h))
    · exact few_noS
  · exact few_noS
theorem few_pinA {s : Sh} (t : Int) (h : fewS s) : fewS (pinA s t).1 := by
  unfold pinA
  split
  · split
    · exact few_pin s t h
    · exact few_noS
  · exact few_noS
theorem few_turnA {s : Sh} (h : fewS s) : fewS (turnA s).1 := by
  unfold turnA
  have ht := turn_len s.2.2.2 h.2.1
  split
  · split
    · exact ⟨⟨small_reclaim _ _, small_reclaim _ _, small_reclaim _ _⟩, ht, h.2.2⟩
    · exact ⟨h.1, ht, h.2.2⟩
  · exact few_noS
theorem few_endA {s : Sh} (t : Int) (h : fewS s) : fewS (endA s t).1 := by
  unfold endA
  split
  · split
    · exact few_turnA (few_unpin s t h)
    · exact few_noS
  · exact few_noS
theorem few_newA (c : Int × Int × Int × Int × Int) (n : Int) : fewS (newA c n).1 := by
  unfold newA
  split
  · rename_i h
    obtain ⟨⟨h1, h2, h3, _⟩, hn⟩ := h
    have q : ∀ N : Int, 1 ≤ N ∧ N ≤ 64 → small (newV N).1 := fun N hN => by
      unfold newV; rw [if_pos hN]
      exact (okP_new N.toNat (by omega) (by omega)).small
    exact ⟨⟨q _ h1, q _ h2, q _ h3⟩, newE_len n, Nat.zero_le _, Nat.zero_le _⟩
  · exact few_noS

open Classical in
theorem same_self {s : Sh} (h : fewS s) : tendrilref07_Same (s, s) = some true := (sameA_eq s s h).trans (congrArg some (decide_eq_true rfl))

theorem live7_eq : tendrillaw07_live () = some true := by kernel_rfl

theorem ArenaMakes (x : (Int × Int × Int × Int × Int) × Int × Sh) (_ : InRT [⟨true, (.pair .int (.pair .int (.pair .int (.pair .int .int))))⟩, ⟨false, .int⟩, ⟨true, (.pair (.sl .int) (.pair (.sl .int) (.pair (.pair (.pair (.sl .int) (.pair (.sl .int) (.pair (.sl .int) (.sl .int)))) (.pair (.pair (.sl .int) (.pair (.sl .int) (.pair (.sl .int) (.sl .int)))) (.pair (.sl .int) (.pair (.sl .int) (.pair (.sl .int) (.sl .int)))))) (.pair .int (.sl .int)))))⟩] x) : tendrillaw07_ArenaMakes x = some true := by
  obtain ⟨c, n, s⟩ := x
  unfold tendrillaw07_ArenaMakes
  simp only [live7_eq, Option.bind_some, Bool.not_true, cond_false, etaS, fewA_eq]
  by_cases hf : fewB s
  · have hs := hf.fewS
    simp only [hf, decide_true, Bool.not_true, cond_false, show ((c.1, c.2.1, c.2.2.1, c.2.2.2.1, c.2.2.2.2) : Int × Int × Int × Int × Int) = c from rfl, pnewA_eq, rnewA_eq, pcheckA_eq s hs, rcheckA_eq s hs, Option.bind_some, etaS, same_self (few_newA c n), cond_true, beq_self_eq_true]
  · simp only [hf, decide_false, Bool.not_false, cond_true]

theorem ArenaSlots (x : Sh × Int × Int) (hx : InRT [⟨true, (.pair (.sl .int) (.pair (.sl .int) (.pair (.pair (.pair (.sl .int) (.pair (.sl .int) (.pair (.sl .int) (.sl .int)))) (.pair (.pair (.sl .int) (.pair (.sl .int) (.pair (.sl .int) (.sl .int)))) (.pair (.sl .int) (.pair (.sl .int) (.pair (.sl .int) (.sl .int)))))) (.pair .int (.sl .int)))))⟩, ⟨false, .int⟩, ⟨false, .int⟩] x) : tendrillaw07_ArenaSlots x = some true := by
  obtain ⟨s, w, r⟩ := x
  have hr : -9223372036854775808 ≤ r ∧ r ≤ 9223372036854775807 := hx.2.2
  unfold tendrillaw07_ArenaSlots
  simp only [live7_eq, Option.bind_some, Bool.not_true, cond_false, etaS, fewA_eq]
  by_cases hf : fewB s
  · have hs := hf.fewS
    simp only [hf, decide_true, Bool.not_true, cond_false, ptakeA_eq s w hs, rtakeA_eq s w hs, pretA_eq s w r hs hr, rretA_eq s w r hs hr, pgenA_eq s w r hs hr, rgenA_eq s w r hs hr, Option.bind_some, etaS, same_self (few_take w hs), same_self (few_ret w r hs), cond_true, beq_self_eq_true]
  · simp only [hf, decide_false, Bool.not_false, cond_true]

theorem ArenaTurns (x : Sh × Int) (_ : InRT [⟨true, (.pair (.sl .int) (.pair (.sl .int) (.pair (.pair (.pair (.sl .int) (.pair (.sl .int) (.pair (.sl .int) (.sl .int)))) (.pair (.pair (.sl .int) (.pair (.sl .int) (.pair (.sl .int) (.sl .int)))) (.pair (.sl .int) (.pair (.sl .int) (.pair (.sl .int) (.sl .int)))))) (.pair .int (.sl .int)))))⟩, ⟨false, .int⟩] x) : tendrillaw07_ArenaTurns x = some true := by
  obtain ⟨s, t⟩ := x
  unfold tendrillaw07_ArenaTurns
  simp only [live7_eq, Option.bind_some, Bool.not_true, cond_false, etaS, fewA_eq]
  by_cases hf : fewB s
  · have hs := hf.fewS
    simp only [hf, decide_true, Bool.not_true, cond_false, ppinA_eq s t hs, rpinA_eq s t hs, pturnA_eq s hs, rturnA_eq s hs, pendA_eq s t hs, rendA_eq s t hs, Option.bind_some, etaS, same_self (few_pinA t hs), same_self (few_turnA hs), same_self (few_endA t hs), cond_true, beq_self_eq_true]
  · simp only [hf, decide_false, Bool.not_false, cond_true]

/-! ### ArenaApart -/
theorem samePP {p : Pool} (h : small p) : tendrilref05_Same (p, p) = some true := (sameP_eq p p h).trans (congrArg some (decide_eq_true rfl))
theorem sameEE {e : Era} (h : e.2.length ≤ 1000000) : tendrilref06_Same (e, e) = some true := (sameE_eq e e h).trans (congrArg some (decide_eq_true rfl))
theorem apart26 (k : Nat) (w e1 e2 i : Int) (s : Sh) (hs : fewS s) (XS : List Sh) (p : Pool) (hw : kindOk w) :
    tendrillaw07_ArenaApart_L26 (k + 4) w e1 e2 2 i 0 s.1 s.2.1 s.2.2.1.1.1 s.2.2.1.1.2.1 s.2.2.1.1.2.2.1 s.2.2.1.1.2.2.2 s.2.2.1.2.1.1 s.2.2.1.2.1.2.1 s.2.2.1.2.1.2.2.1 s.2.2.1.2.1.2.2.2 s.2.2.1.2.2.1 s.2.2.1.2.2.2.1 s.2.2.1.2.2.2.2.1 s.2.2.1.2.2.2.2.2 s.2.2.2.1 s.2.2.2.2
      (setpl s w p).1 (setpl s w p).2.1 (setpl s w p).2.2.1.1.1 (setpl s w p).2.2.1.1.2.1 (setpl s w p).2.2.1.1.2.2.1 (setpl s w p).2.2.1.1.2.2.2 (setpl s w p).2.2.1.2.1.1 (setpl s w p).2.2.1.2.1.2.1 (setpl s w p).2.2.1.2.1.2.2.1 (setpl s w p).2.2.1.2.1.2.2.2 (setpl s w p).2.2.1.2.2.1 (setpl s w p).2.2.1.2.2.2.1 (setpl s w p).2.2.1.2.2.2.2.1 (setpl s w p).2.2.1.2.2.2.2.2 (setpl s w p).2.2.2.1 (setpl s w p).2.2.2.2 XS
    = tendrillaw07_ArenaApart_L18 k w e1 e2 2 (wrap64 (i + 1)) s.1 s.2.1 s.2.2.1.1.1 s.2.2.1.1.2.1 s.2.2.1.1.2.2.1 s.2.2.1.1.2.2.2 s.2.2.1.2.1.1 s.2.2.1.2.1.2.1 s.2.2.1.2.1.2.2.1 s.2.2.1.2.1.2.2.2 s.2.2.1.2.2.1 s.2.2.1.2.2.2.1 s.2.2.1.2.2.2.2.1 s.2.2.1.2.2.2.2.2 s.2.2.2.1 s.2.2.2.2 XS := by
  obtain ⟨m, l, ⟨a, b, c⟩, e⟩ := s
  have ha : small a := hs.1.1
  have hb : small b := hs.1.2.1
  have hc : small c := hs.1.2.2
  have he : e.2.length ≤ 1000000 := by have : e.2.length ≤ 1000 := hs.2.1; omega
  have ea : ((((a.1, a.2.1, a.2.2.1, a.2.2.2), a.1, a.2.1, a.2.2.1, a.2.2.2)) : Pool × Pool) = (a, a) := rfl
  have eb : ((((b.1, b.2.1, b.2.2.1, b.2.2.2), b.1, b.2.1, b.2.2.1, b.2.2.2)) : Pool × Pool) = (b, b) := rfl
  have ec : ((((c.1, c.2.1, c.2.2.1, c.2.2.2), c.1, c.2.1, c.2.2.1, c.2.2.2)) : Pool × Pool) = (c, c) := rfl
  have ee : (((e.1, e.2), e.1, e.2) : Era × Era) = (e, e) := rfl
  have es : (((m, l, ((a.1, a.2.1, a.2.2.1, a.2.2.2), (b.1, b.2.1, b.2.2.1, b.2.2.2), c.1, c.2.1, c.2.2.1, c.2.2.2), e.1, e.2), m, l, ((a.1, a.2.1, a.2.2.1, a.2.2.2), (b.1, b.2.1, b.2.2.1, b.2.2.2), c.1, c.2.1, c.2.2.1, c.2.2.2), e.1, e.2) : Sh × Sh) = ((m, l, (a, b, c), e), (m, l, (a, b, c), e)) := rfl
  rcases three hw with rfl | rfl | rfl
  · rw [show setpl (m, l, (a, b, c), e) 1 p = (m, l, (p, b, c), e) from rfl]
    simp only []
    rw [tendrillaw07_ArenaApart_L26, ct (by decide), u1, nec, if_pos rfl, w01]
    rw [tendrillaw07_ArenaApart_L26, ct (by decide), u1, nec, if_neg (by decide), cf (by decide), ct (by rfl), cf (by decide), ct (by rfl), eb, samePP hb, Option.bind_some, Bool.not_true, cond_false, w12]
    rw [tendrillaw07_ArenaApart_L26, ct (by decide), u1, nec, if_neg (by decide), ct (by rfl), ct (by rfl), ec, samePP hc, Option.bind_some, Bool.not_true, cond_false, w23]
    rw [tendrillaw07_ArenaApart_L26, cf (by decide), ee, sameEE he, Option.bind_some, Bool.not_true, cond_false, es, same_self hs, Option.bind_some, Bool.not_true, cond_false]
  · rw [show setpl (m, l, (a, b, c), e) 2 p = (m, l, (a, p, c), e) from rfl]
    simp only []
    rw [tendrillaw07_ArenaApart_L26, ct (by decide), u2, nec, if_neg (by decide), cf (by decide), cf (by decide), ct (by rfl), cf (by decide), cf (by decide), ct (by rfl), ea, samePP ha, Option.bind_some, Bool.not_true, cond_false, w01]
    rw [tendrillaw07_ArenaApart_L26, ct (by decide), u2, nec, if_pos rfl, w12]
    rw [tendrillaw07_ArenaApart_L26, ct (by decide), u2, nec, if_neg (by decide), ct (by rfl), ct (by rfl), ec, samePP hc, Option.bind_some, Bool.not_true, cond_false, w23]
    rw [tendrillaw07_ArenaApart_L26, cf (by decide), ee, sameEE he, Option.bind_some, Bool.not_true, cond_false, es, same_self hs, Option.bind_some, Bool.not_true, cond_false]
  · rw [show setpl (m, l, (a, b, c), e) 3 p = (m, l, (a, b, p), e) from rfl]
    simp only []
    rw [tendrillaw07_ArenaApart_L26, ct (by decide), u3, nec, if_neg (by decide), cf (by decide), cf (by decide), ct (by rfl), cf (by decide), cf (by decide), ct (by rfl), ea, samePP ha, Option.bind_some, Bool.not_true, cond_false, w01]
    rw [tendrillaw07_ArenaApart_L26, ct (by decide), u3, nec, if_neg (by decide), cf (by decide), ct (by rfl), cf (by decide), ct (by rfl), eb, samePP hb, Option.bind_some, Bool.not_true, cond_false, w12]
    rw [tendrillaw07_ArenaApart_L26, ct (by decide), u3, nec, if_pos rfl, w23]
    rw [tendrillaw07_ArenaApart_L26, cf (by decide), ee, sameEE he, Option.bind_some, Bool.not_true, cond_false, es, same_self hs, Option.bind_some, Bool.not_true, cond_false]

theorem take_set {s : Sh} {w : Int} (h : (takeA s w).2.2 = 0) : kindOk w ∧ ∃ p, (takeA s w).1 = setpl s w p := by
  unfold takeA at h ⊢
  by_cases g : kindOk w ∧ okA s
  · rw [if_pos g] at h ⊢
    by_cases e : (takeV (pl s w)).2.2 = 0
    · rw [if_pos e]; exact ⟨g.1, _, rfl⟩
    · rw [if_neg e] at h; exact absurd h e
  · rw [if_neg g] at h; exact absurd h (by decide)
theorem ret_set {s : Sh} {w r : Int} (h : (retA s w r).2 = 0) : kindOk w ∧ ∃ p, (retA s w r).1 = setpl s w p := by
  unfold retA at h ⊢
  by_cases g : kindOk w ∧ okA s
  · rw [if_pos g] at h ⊢
    by_cases e : (retireV (pl s w) r s.2.2.2.1).2 = 0
    · rw [if_pos e]; exact ⟨g.1, _, rfl⟩
    · rw [if_neg e] at h; exact absurd h e
  · rw [if_neg g] at h; exact absurd h (by decide)

theorem apart18 (k : Nat) (w e1 e2 : Int) (s : Sh) (hs : fewS s) (X Y : Sh) (hX : e1 = 0 → kindOk w ∧ ∃ p, X = setpl s w p) (hY : e2 = 0 → kindOk w ∧ ∃ p, Y = setpl s w p) :
    tendrillaw07_ArenaApart_L18 (k + 11) w e1 e2 2 0 s.1 s.2.1 s.2.2.1.1.1 s.2.2.1.1.2.1 s.2.2.1.1.2.2.1 s.2.2.1.1.2.2.2 s.2.2.1.2.1.1 s.2.2.1.2.1.2.1 s.2.2.1.2.1.2.2.1 s.2.2.1.2.1.2.2.2 s.2.2.1.2.2.1 s.2.2.1.2.2.2.1 s.2.2.1.2.2.2.2.1 s.2.2.1.2.2.2.2.2 s.2.2.2.1 s.2.2.2.2 [X, Y] = some true := by
  have A1 : ∀ k, tendrillaw07_ArenaApart_L18 (k + 1) w e1 e2 2 2 s.1 s.2.1 s.2.2.1.1.1 s.2.2.1.1.2.1 s.2.2.1.1.2.2.1 s.2.2.1.1.2.2.2 s.2.2.1.2.1.1 s.2.2.1.2.1.2.1 s.2.2.1.2.1.2.2.1 s.2.2.1.2.1.2.2.2 s.2.2.1.2.2.1 s.2.2.1.2.2.2.1 s.2.2.1.2.2.2.2.1 s.2.2.1.2.2.2.2.2 s.2.2.2.1 s.2.2.2.2 [X, Y] = some true := fun k => by rw [tendrillaw07_ArenaApart_L18, cf (by decide)]
  have A2 : ∀ k, tendrillaw07_ArenaApart_L18 (k + 6) w e1 e2 2 1 s.1 s.2.1 s.2.2.1.1.1 s.2.2.1.1.2.1 s.2.2.1.1.2.2.1 s.2.2.1.1.2.2.2 s.2.2.1.2.1.1 s.2.2.1.2.1.2.1 s.2.2.1.2.1.2.2.1 s.2.2.1.2.1.2.2.2 s.2.2.1.2.2.1 s.2.2.1.2.2.2.1 s.2.2.1.2.2.2.2.1 s.2.2.1.2.2.2.2.2 s.2.2.2.1 s.2.2.2.2 [X, Y] = some true := fun k => by
    rw [tendrillaw07_ArenaApart_L18, ct (by decide), ct (by decide), ct (by simp), ct (by decide), ct (by simp), show [e1, e2].getD (Int.toNat 1) 0 = e2 from rfl, nec]
    by_cases h : e2 = 0
    · rw [if_pos h]
      obtain ⟨hw, p, rfl⟩ := hY h
      have := apart26 (k + 1) w e1 e2 1 s hs [X, setpl s w p] p hw
      rw [w12, A1] at this
      exact this
    · rw [if_neg h, w12]; exact A1 (k + 4)
  rw [tendrillaw07_ArenaApart_L18, ct (by decide), ct (by decide), ct (by simp), ct (by decide), ct (by simp), show [e1, e2].getD (Int.toNat 0) 0 = e1 from rfl, nec]
  by_cases h : e1 = 0
  · rw [if_pos h]
    obtain ⟨hw, p, rfl⟩ := hX h
    have := apart26 (k + 6) w e1 e2 0 s hs [setpl s w p, Y] p hw
    rw [w01, A2] at this
    exact this
  · rw [if_neg h, w01]; exact A2 (k + 4)

theorem ArenaApart_K (k : Nat) (x : Sh × Int × Int) (hr : -9223372036854775808 ≤ x.2.2 ∧ x.2.2 ≤ 9223372036854775807) : tendrillaw07_ArenaApart_K (k + 11) x = some true := by
  obtain ⟨s, w, r⟩ := x
  simp only at hr
  unfold tendrillaw07_ArenaApart_K
  simp only [live7_eq, Option.bind_some, Bool.not_true, cond_false, etaS, fewA_eq]
  by_cases hf : fewB s
  · have hs := hf.fewS
    simp only [hf, decide_true, Bool.not_true, cond_false, ptakeA_eq s w hs, pretA_eq s w r hs hr, Option.bind_some, etaS]
    exact apart18 k w _ _ s hs _ _ take_set ret_set
  · simp only [hf, decide_false, Bool.not_false, cond_true]
theorem ArenaApart (x : Sh × Int × Int) (hx : InRT [⟨true, (.pair (.sl .int) (.pair (.sl .int) (.pair (.pair (.pair (.sl .int) (.pair (.sl .int) (.pair (.sl .int) (.sl .int)))) (.pair (.pair (.sl .int) (.pair (.sl .int) (.pair (.sl .int) (.sl .int)))) (.pair (.sl .int) (.pair (.sl .int) (.pair (.sl .int) (.sl .int)))))) (.pair .int (.sl .int)))))⟩, ⟨false, .int⟩, ⟨false, .int⟩] x) : tendrillaw07_ArenaApart x = some true := ArenaApart_K 1999989 x hx.2.2
end Go.Proofs.Ytcoiboghdmmdcac.Pure
