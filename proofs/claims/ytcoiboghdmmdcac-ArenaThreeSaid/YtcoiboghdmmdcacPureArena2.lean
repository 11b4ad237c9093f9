/- What is shared, as arena and the reference treat it: made, told, pinned, turned, ended; no condition. -/
import Derived.Test.YtcoiboghdmmdcacPureArena
set_option linter.unusedVariables false
set_option linter.unusedSimpArgs false
namespace Go.Proofs.Ytcoiboghdmmdcac.Pure
open Go Go.RowKit Go.Proofs.YtcoiboghdmmdcacFn Go.Proofs.YtcoiboghdmmdcacPx

/-! ### Turned -/
theorem pturn_loop_yes (k : Nat) (m l : List Int) (a b c : Pool) (n1 n2 n3 : Int) (pins : List Int) (ha : a.2.2.2.length ≤ 1000) (hb : b.2.2.2.length ≤ 1000) (hc : c.2.2.2.length ≤ 1000) :
    arena_Turn_L16 (k + 4) true a.1 a.2.1 a.2.2.1 a.2.2.2 b.1 b.2.1 b.2.2.1 b.2.2.2 c.1 c.2.1 c.2.2.1 c.2.2.2 0 m l a.1 a.2.1 a.2.2.1 a.2.2.2 b.1 b.2.1 b.2.2.1 b.2.2.2 c.1 c.2.1 c.2.2.1 c.2.2.2 n1 n2 n3 pins = some ((m, l, ((reclaimV a (safeV (n3, pins))).1, (reclaimV b (safeV (n3, pins))).1, (reclaimV c (safeV (n3, pins))).1), n1, pins), true) := by
  rw [arena_Turn_L16, ct (by decide), cf (by decide), cf (by decide), ct (by rfl), psafe_eq, Option.bind_some, etaP, preclaim_eq a _ ha, Option.bind_some, cf (by decide), cf (by decide), ct (by rfl), w01]
  rw [arena_Turn_L16x3, ct (by decide), cf (by decide), ct (by rfl), psafe_eq, Option.bind_some, etaP, preclaim_eq b _ hb, Option.bind_some, cf (by decide), ct (by rfl), w12]
  rw [arena_Turn_L16x6, ct (by decide), ct (by rfl), psafe_eq, Option.bind_some, etaP, preclaim_eq c _ hc, Option.bind_some, ct (by rfl), w23]
  rw [arena_Turn_L16x7, cf (by decide)]
open Classical in
noncomputable def turnA (s : Sh) : Sh × Bool := if okA s then (if (turnV s.2.2.2).2 = true then ((s.1, s.2.1, ((reclaimV s.2.2.1.1 (safeV (turnV s.2.2.2).1)).1, (reclaimV s.2.2.1.2.1 (safeV (turnV s.2.2.2).1)).1, (reclaimV s.2.2.1.2.2 (safeV (turnV s.2.2.2).1)).1), (turnV s.2.2.2).1), true) else ((s.1, s.2.1, s.2.2.1, (turnV s.2.2.2).1), false)) else (noS, false)

theorem pturnA_eq (s : Sh) (h : fewS s) : arena_Turn s = some (turnA s) := by
  unfold arena_Turn arena_Turn_K
  by_cases ho : okA s
  · simp only [etaS, etaEr, may_yes (w := 1) h ⟨by omega, ho⟩, pturn_eq, Option.bind_some, ho, Bool.not_true, cond_false, turnA, if_true]
    by_cases ht : (turnV s.2.2.2).2 = true
    · have := pturn_loop_yes 1999996 s.1 s.2.1 s.2.2.1.1 s.2.2.1.2.1 s.2.2.1.2.2 (turnV s.2.2.2).1.1 0 (turnV s.2.2.2).1.1 (turnV s.2.2.2).1.2 h.1.1.2.2.2 h.1.2.1.2.2.2 h.1.2.2.2.2.2
      rw [show (1999996 + 4 : Nat) = 2000000 from rfl] at this
      simp only [ht, cond_true, if_true]
      rw [this]
    · simp only [ht, if_false]; rfl
  · simp only [etaS, etaEr, may_no (w := 1) h (fun q => ho q.2), Option.bind_some, ho, Bool.not_false, cond_true, turnA, if_false]; rfl

/-! ### Pinned, and ended -/
open Classical in
noncomputable def pinA (s : Sh) (t : Int) : Sh × Int := if okA s then (if (pinV s.2.2.2 t).2 = 0 then ((s.1, s.2.1, s.2.2.1, (pinV s.2.2.2 t).1), 0) else (noS, (pinV s.2.2.2 t).2)) else (noS, 1)
open Classical in
noncomputable def endA (s : Sh) (t : Int) : Sh × Int := if okA s then (if (unpinV s.2.2.2 t).2 = 0 then ((turnA (s.1, s.2.1, s.2.2.1, (unpinV s.2.2.2 t).1)).1, 0) else (noS, (unpinV s.2.2.2 t).2)) else (noS, 1)

theorem few_unpin (s : Sh) (t : Int) (h : fewS s) : fewS (s.1, s.2.1, s.2.2.1, (unpinV s.2.2.2 t).1) := ⟨h.1, unpin_len _ t h.2.1, h.2.2⟩
theorem few_pin (s : Sh) (t : Int) (h : fewS s) : fewS (s.1, s.2.1, s.2.2.1, (pinV s.2.2.2 t).1) := ⟨h.1, pin_len _ t h.2.1, h.2.2⟩
/-! ### Told -/
open Classical in
noncomputable def genA (s : Sh) (w r : Int) : Int × Int × Int := if (unpackV r).2.2 = 0 ∧ kindOk w ∧ okA s ∧ (unpackV r).1 < ((pl s w).1.length : Int) then ((pl s w).1.getD (unpackV r).1.toNat 0, (pl s w).2.1.getD (unpackV r).1.toNat 0, 0) else (0, 0, 1)
theorem okA.pl {s : Sh} (h : okA s) (w : Int) : okP (pl s w) := by
  unfold Pure.pl
  split
  · exact h.1
  · split
    · exact h.2.1
    · exact h.2.2.1
theorem unpack_nn (r : Int) : 0 ≤ (unpackV r).1 := by
  unfold unpackV
  split
  · exact Int.emod_nonneg _ (by decide)
  · exact Int.le_refl _

/-! ### Made -/
def newA (c : Int × Int × Int × Int × Int) (n : Int) : Sh × Int := if ok c ∧ 1 ≤ n ∧ n ≤ 64 then (([], [], ((newV c.1).1, (newV c.2.1).1, (newV c.2.2.1).1), (newE n).1), 0) else (noS, 1)
theorem newV_zero {n : Int} (h : 1 ≤ n ∧ n ≤ 64) : (newV n).2 = 0 := by unfold newV; rw [if_pos h]
theorem newE_zero (n : Int) : (newE n).2 = 0 ↔ (1 ≤ n ∧ n ≤ 64) := by
  unfold newE
  by_cases h : 1 ≤ n ∧ n ≤ 64
  · rw [if_pos h]; simp [h]
  · rw [if_neg h]; simp [h]
theorem newE_err {n : Int} (h : ¬ (1 ≤ n ∧ n ≤ 64)) : newE n = (noE, 1) := if_neg h

theorem pnew_loop7 (k : Nat) (N E P : Int) (z e1 : Int) (e2 : List Int) (hN : 1 ≤ N ∧ N ≤ 64) (hE : 1 ≤ E ∧ E ≤ 64) (hP : 1 ≤ P ∧ P ≤ 64) :
    arena_New_L20 (k + 4) N E P 0 z e1 e2 = some (([], [], ((newV N).1, (newV E).1, (newV P).1), e1, e2), 0) := by
  rw [arena_New_L20, ct (by decide), cf (by decide), cf (by decide), ct (by rfl), pnew_eq, Option.bind_some, cf (by decide), cf (by decide), ct (by rfl), nec, if_pos (newV_zero hN), w01]
  rw [arena_New_L20x3, ct (by decide), cf (by decide), ct (by rfl), pnew_eq, Option.bind_some, cf (by decide), ct (by rfl), nec, if_pos (newV_zero hE), w12]
  rw [arena_New_L20x6, ct (by decide), ct (by rfl), pnew_eq, Option.bind_some, ct (by rfl), nec, if_pos (newV_zero hP), w23]
  rw [arena_New_L20x7, cf (by decide)]
theorem pnewA_eq (c : Int × Int × Int × Int × Int) (n : Int) : arena_New (c, n) = some (newA c n) := by
  unfold arena_New arena_New_K
  simp only [show ((c.1, c.2.1, c.2.2.1, c.2.2.2.1, c.2.2.2.2) : Int × Int × Int × Int × Int) = c from rfl, check_eq, pnewE_eq, Option.bind_some, nec]
  by_cases hc : ok c
  · rw [if_pos hc, if_pos rfl]
    by_cases hn : 1 ≤ n ∧ n ≤ 64
    · rw [if_pos ((newE_zero n).2 hn), newA, if_pos ⟨hc, hn⟩]
      have := pnew_loop7 1999996 c.1 c.2.1 c.2.2.1 0 (newE n).1.1 (newE n).1.2 hc.1 hc.2.1 hc.2.2.1
      rw [show (1999996 + 4 : Nat) = 2000000 from rfl] at this
      rw [this]
    · rw [newE_err hn, if_neg (by decide), newA, if_neg (fun q => hn q.2)]; rfl
  · rw [if_neg hc, if_neg (by decide), newA, if_neg (fun q => hc q.1)]; rfl
end Go.Proofs.Ytcoiboghdmmdcac.Pure
