/- Four laws of arena; no condition. -/
import Derived.Test.YtcoiboghdmmdcacPureArena2
import Derived.Test.YtcoiboghdmmdcacPurePoolDoes
set_option linter.unusedVariables false
set_option linter.unusedSimpArgs false
namespace Go.Proofs.Ytcoiboghdmmdcac.Pure
open Go Go.RowKit Go.Proofs.YtcoiboghdmmdcacFn Go.Proofs.YtcoiboghdmmdcacPx

theorem few_noS : fewS noS := ⟨⟨small_noP, small_noP, small_noP⟩, by decide, by decide, by decide⟩
theorem small_pl {s : Sh} (w : Int) (h : fewS s) : small (pl s w) := by
  unfold pl
  split
  · exact h.1.1
  · split
    · exact h.1.2.1
    · exact h.1.2.2
theorem few_setpl {s : Sh} (w : Int) {p : Pool} (h : fewS s) (hp : small p) : fewS (setpl s w p) := by
  unfold setpl
  refine ⟨?_, h.2⟩
  split
  · exact ⟨hp, h.1.2⟩
  · split
    · exact ⟨h.1.1, hp, h.1.2.2⟩
    · exact ⟨h.1.1, h.1.2.1, hp⟩
theorem few_take {s : Sh} (w : Int) (h : fewS s) : fewS (takeA s w).1 := by
  unfold takeA
  split
  · split
    · exact few_setpl w h (small_take _ (small_pl w h))
    · exact few_noS
  · exact few_noS
theorem few_ret {s : Sh} (w r : Int) (h : fewS s) : fewS (retA s w r).1 := by
  unfold retA
  split
  · split
    · exact few_setpl w h (small_retire _ _ _ (small_pl w h))
    · exact few_noS
  · exact few_noS
theorem few_pinA {s : Sh} (t : Int) (h : fewS s) : fewS (pinA s t).1 := by
  unfold pinA
  split
  · split
    · exact few_pin s t h
    · exact few_noS
  · exact few_noS
theorem few_turnA {s : Sh} (h : fewS s) : fewS (turnA s).1 := by
  unfold turnA
  have ht := turn_len s.2.2.2 h.2.1
  split
  · split
    · exact ⟨⟨small_reclaim _ _, small_reclaim _ _, small_reclaim _ _⟩, ht, h.2.2⟩
    · exact ⟨h.1, ht, h.2.2⟩
  · exact few_noS
theorem few_endA {s : Sh} (t : Int) (h : fewS s) : fewS (endA s t).1 := by
  unfold endA
  split
  · split
    · exact few_turnA (few_unpin s t h)
    · exact few_noS
  · exact few_noS
theorem few_newA (c : Int × Int × Int × Int × Int) (n : Int) : fewS (newA c n).1 := by
  unfold newA
  split
  · rename_i h
    obtain ⟨⟨h1, h2, h3, _⟩, hn⟩ := h
    have q : ∀ N : Int, 1 ≤ N ∧ N ≤ 64 → small (newV N).1 := fun N hN => by
      unfold newV; rw [if_pos hN]
      exact (okP_new N.toNat (by omega) (by omega)).small
    exact ⟨⟨q _ h1, q _ h2, q _ h3⟩, newE_len n, Nat.zero_le _, Nat.zero_le _⟩
  · exact few_noS

theorem live7_eq : tendrillaw07_live () = some true := by kernel_rfl

/-! ### ArenaApart -/
theorem take_set {s : Sh} {w : Int} (h : (takeA s w).2.2 = 0) : kindOk w ∧ ∃ p, (takeA s w).1 = setpl s w p := by
  unfold takeA at h ⊢
  by_cases g : kindOk w ∧ okA s
  · rw [if_pos g] at h ⊢
    by_cases e : (takeV (pl s w)).2.2 = 0
    · rw [if_pos e]; exact ⟨g.1, _, rfl⟩
    · rw [if_neg e] at h; exact absurd h e
  · rw [if_neg g] at h; exact absurd h (by decide)
theorem ret_set {s : Sh} {w r : Int} (h : (retA s w r).2 = 0) : kindOk w ∧ ∃ p, (retA s w r).1 = setpl s w p := by
  unfold retA at h ⊢
  by_cases g : kindOk w ∧ okA s
  · rw [if_pos g] at h ⊢
    by_cases e : (retireV (pl s w) r s.2.2.2.1).2 = 0
    · rw [if_pos e]; exact ⟨g.1, _, rfl⟩
    · rw [if_neg e] at h; exact absurd h e
  · rw [if_neg g] at h; exact absurd h (by decide)
end Go.Proofs.Ytcoiboghdmmdcac.Pure
