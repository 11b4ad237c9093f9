/- How little an access changes; no condition. -/
import Derived.Test.YtcoiboghdmmdcadPureAskLaws2
set_option linter.unusedVariables false
set_option linter.unusedSimpArgs false
namespace Go.Proofs.Ytcoiboghdmmdcad.Pure
open Go Go.RowKit Go.Proofs.YtcoiboghdmmdcadFn Go.Proofs.YtcoiboghdmmdcadPx

/-- How many of so many places, from one on, differ. -/
def dc (l l' : List Int) : Nat → Nat → Nat
  | 0, _ => 0
  | d + 1, i => (if l'.getD i 0 = l.getD i 0 then 0 else 1) + dc l l' d (i + 1)
theorem dc_le (l l' : List Int) : ∀ (d i : Nat), dc l l' d i ≤ d
  | 0, _ => Nat.le_refl _
  | d + 1, i => by have := dc_le l l' d (i + 1); unfold dc; split <;> omega
theorem dc_same (l : List Int) : ∀ (d i : Nat), dc l l d i = 0
  | 0, _ => rfl
  | d + 1, i => by unfold dc; rw [if_pos rfl, dc_same l d (i + 1)]
theorem dc_set (l : List Int) (a : Nat) (v : Int) (ha : a < l.length) : ∀ (d i : Nat), dc l (l.set a v) d i = if i ≤ a ∧ a < i + d ∧ v ≠ l.getD a 0 then 1 else 0
  | 0, i => by unfold dc; rw [if_neg (by omega)]
  | d + 1, i => by
    unfold dc
    rw [dc_set l a v ha d (i + 1), getD_set l a i v 0 ha]
    by_cases e : a = i
    · subst e
      rw [if_pos rfl, if_neg (show ¬ (a + 1 ≤ a ∧ a < a + 1 + d ∧ v ≠ l.getD a 0) by omega)]
      by_cases z : v = l.getD a 0
      · rw [if_pos z, if_neg (fun q => q.2.2 z)]
      · rw [if_neg z, if_pos ⟨by omega, by omega, z⟩]
    · rw [if_neg e, if_pos rfl]
      by_cases q : i + 1 ≤ a ∧ a < i + 1 + d ∧ v ≠ l.getD a 0
      · rw [if_pos q, if_pos ⟨by omega, by omega, q.2.2⟩]
      · rw [if_neg q, if_neg (fun z => q ⟨by omega, by omega, z.2.2⟩)]

theorem one26 (s X : Sh) (a : Acc) (p1 : Int) (hs : s.1.length ≤ 5000) (hx : X.1.length = s.1.length) : ∀ (d k i p : Nat), i + d = s.1.length → p + d ≤ 5000 → tendrillaw16_AskOne_L26 (k + d + 1) p p1 s.1.length i s.1 s.2.1 s.2.2.1.1.1 s.2.2.1.1.2.1 s.2.2.1.1.2.2.1 s.2.2.1.1.2.2.2 s.2.2.1.2.1.1 s.2.2.1.2.1.2.1 s.2.2.1.2.1.2.2.1 s.2.2.1.2.1.2.2.2 s.2.2.1.2.2.1 s.2.2.1.2.2.2.1 s.2.2.1.2.2.2.2.1 s.2.2.1.2.2.2.2.2 s.2.2.2.1 s.2.2.2.2 a.1 a.2.1 a.2.2.1 a.2.2.2.1 a.2.2.2.2.1 a.2.2.2.2.2 X.1 X.2.1 X.2.2.1.1.1 X.2.2.1.1.2.1 X.2.2.1.1.2.2.1 X.2.2.1.1.2.2.2 X.2.2.1.2.1.1 X.2.2.1.2.1.2.1 X.2.2.1.2.1.2.2.1 X.2.2.1.2.1.2.2.2 X.2.2.1.2.2.1 X.2.2.1.2.2.2.1 X.2.2.1.2.2.2.2.1 X.2.2.1.2.2.2.2.2 X.2.2.2.1 X.2.2.2.2 = tendrillaw16_AskOne_L38 k ((p + dc s.1 X.1 d i : Nat) : Int) p1 s.2.1.length 0 s.1 s.2.1 s.2.2.1.1.1 s.2.2.1.1.2.1 s.2.2.1.1.2.2.1 s.2.2.1.1.2.2.2 s.2.2.1.2.1.1 s.2.2.1.2.1.2.1 s.2.2.1.2.1.2.2.1 s.2.2.1.2.1.2.2.2 s.2.2.1.2.2.1 s.2.2.1.2.2.2.1 s.2.2.1.2.2.2.2.1 s.2.2.1.2.2.2.2.2 s.2.2.2.1 s.2.2.2.2 a.1 a.2.1 a.2.2.1 a.2.2.2.1 a.2.2.2.2.1 a.2.2.2.2.2 X.1 X.2.1 X.2.2.1.1.1 X.2.2.1.1.2.1 X.2.2.1.1.2.2.1 X.2.2.1.1.2.2.2 X.2.2.1.2.1.1 X.2.2.1.2.1.2.1 X.2.2.1.2.1.2.2.1 X.2.2.1.2.1.2.2.2 X.2.2.1.2.2.1 X.2.2.1.2.2.2.1 X.2.2.1.2.2.2.2.1 X.2.2.1.2.2.2.2.2 X.2.2.2.1 X.2.2.2.2
  | 0, k, i, p, hi, hp => by
    have : i = s.1.length := by omega
    subst this
    rw [tendrillaw16_AskOne_L26, cf (by omega)]; rfl
  | d + 1, k, i, p, hi, hp => by
    rw [show k + (d + 1) + 1 = (k + d + 1) + 1 by omega, tendrillaw16_AskOne_L26, ct (by omega), ct (by omega), ct (by omega), ct (by omega), ct (by omega), nec, Int.toNat_natCast, wi (by omega), wi (by omega)]
    unfold dc
    by_cases e : X.1.getD i 0 = s.1.getD i 0
    · rw [if_pos e, if_pos e, one26 s X a p1 hs hx d k (i + 1) p (by omega) (by omega), Nat.zero_add]
    · rw [if_neg e, if_neg e, one26 s X a p1 hs hx d k (i + 1) (p + 1) (by omega) (by omega), Nat.add_assoc p 1]

theorem one38 (s X : Sh) (a : Acc) (p0 : Int) (hs : s.2.1.length ≤ 5000) (hx : X.2.1.length = s.2.1.length) (b : Bool) (hb : tendrilref06_Same (X.2.2.2, s.2.2.2) = some b) : ∀ (d k i p : Nat), i + d = s.2.1.length → p + d ≤ 5000 → tendrillaw16_AskOne_L38 (k + d + 1) p0 p s.2.1.length i s.1 s.2.1 s.2.2.1.1.1 s.2.2.1.1.2.1 s.2.2.1.1.2.2.1 s.2.2.1.1.2.2.2 s.2.2.1.2.1.1 s.2.2.1.2.1.2.1 s.2.2.1.2.1.2.2.1 s.2.2.1.2.1.2.2.2 s.2.2.1.2.2.1 s.2.2.1.2.2.2.1 s.2.2.1.2.2.2.2.1 s.2.2.1.2.2.2.2.2 s.2.2.2.1 s.2.2.2.2 a.1 a.2.1 a.2.2.1 a.2.2.2.1 a.2.2.2.2.1 a.2.2.2.2.2 X.1 X.2.1 X.2.2.1.1.1 X.2.2.1.1.2.1 X.2.2.1.1.2.2.1 X.2.2.1.1.2.2.2 X.2.2.1.2.1.1 X.2.2.1.2.1.2.1 X.2.2.1.2.1.2.2.1 X.2.2.1.2.1.2.2.2 X.2.2.1.2.2.1 X.2.2.1.2.2.2.1 X.2.2.1.2.2.2.2.1 X.2.2.1.2.2.2.2.2 X.2.2.2.1 X.2.2.2.2 = tendrillaw16_AskOne_L52 k p0 ((p + dc s.2.1 X.2.1 d i : Nat) : Int) b 0 s.1 s.2.1 s.2.2.1.1.1 s.2.2.1.1.2.1 s.2.2.1.1.2.2.1 s.2.2.1.1.2.2.2 s.2.2.1.2.1.1 s.2.2.1.2.1.2.1 s.2.2.1.2.1.2.2.1 s.2.2.1.2.1.2.2.2 s.2.2.1.2.2.1 s.2.2.1.2.2.2.1 s.2.2.1.2.2.2.2.1 s.2.2.1.2.2.2.2.2 s.2.2.2.1 s.2.2.2.2 a.1 a.2.1 a.2.2.1 a.2.2.2.1 a.2.2.2.2.1 a.2.2.2.2.2 X.1 X.2.1 X.2.2.1.1.1 X.2.2.1.1.2.1 X.2.2.1.1.2.2.1 X.2.2.1.1.2.2.2 X.2.2.1.2.1.1 X.2.2.1.2.1.2.1 X.2.2.1.2.1.2.2.1 X.2.2.1.2.1.2.2.2 X.2.2.1.2.2.1 X.2.2.1.2.2.2.1 X.2.2.1.2.2.2.2.1 X.2.2.1.2.2.2.2.2 X.2.2.2.1 X.2.2.2.2
  | 0, k, i, p, hi, hp => by
    have : i = s.2.1.length := by omega
    subst this
    rw [tendrillaw16_AskOne_L38, cf (by omega), show ((((X.2.2.2.1, X.2.2.2.2), s.2.2.2.1, s.2.2.2.2)) : Era × Era) = (X.2.2.2, s.2.2.2) from rfl, hb]; rfl
  | d + 1, k, i, p, hi, hp => by
    rw [show k + (d + 1) + 1 = (k + d + 1) + 1 by omega, tendrillaw16_AskOne_L38, ct (by omega), ct (by omega), ct (by omega), ct (by omega), ct (by omega), nec, Int.toNat_natCast, wi (by omega), wi (by omega)]
    unfold dc
    by_cases e : X.2.1.getD i 0 = s.2.1.getD i 0
    · rw [if_pos e, if_pos e, one38 s X a p0 hs hx b hb d k (i + 1) p (by omega) (by omega), Nat.zero_add]
    · rw [if_neg e, if_neg e, one38 s X a p0 hs hx b hb d k (i + 1) (p + 1) (by omega) (by omega), Nat.add_assoc p 1]

theorem one52 (s X : Sh) (a : Acc) (w l : Int) (b : Bool) (hX : fewS X) (k : Nat) : ∃ b' : Bool, tendrillaw16_AskOne_L52 (k + 4) w l b 0 s.1 s.2.1 s.2.2.1.1.1 s.2.2.1.1.2.1 s.2.2.1.1.2.2.1 s.2.2.1.1.2.2.2 s.2.2.1.2.1.1 s.2.2.1.2.1.2.1 s.2.2.1.2.1.2.2.1 s.2.2.1.2.1.2.2.2 s.2.2.1.2.2.1 s.2.2.1.2.2.2.1 s.2.2.1.2.2.2.2.1 s.2.2.1.2.2.2.2.2 s.2.2.2.1 s.2.2.2.2 a.1 a.2.1 a.2.2.1 a.2.2.2.1 a.2.2.2.2.1 a.2.2.2.2.2 X.1 X.2.1 X.2.2.1.1.1 X.2.2.1.1.2.1 X.2.2.1.1.2.2.1 X.2.2.1.1.2.2.2 X.2.2.1.2.1.1 X.2.2.1.2.1.2.1 X.2.2.1.2.1.2.2.1 X.2.2.1.2.1.2.2.2 X.2.2.1.2.2.1 X.2.2.1.2.2.2.1 X.2.2.1.2.2.2.2.1 X.2.2.1.2.2.2.2.2 X.2.2.2.1 X.2.2.2.2 = tendrillaw16_AskOne_L52 (k + 1) w l b' 3 s.1 s.2.1 s.2.2.1.1.1 s.2.2.1.1.2.1 s.2.2.1.1.2.2.1 s.2.2.1.1.2.2.2 s.2.2.1.2.1.1 s.2.2.1.2.1.2.1 s.2.2.1.2.1.2.2.1 s.2.2.1.2.1.2.2.2 s.2.2.1.2.2.1 s.2.2.1.2.2.2.1 s.2.2.1.2.2.2.2.1 s.2.2.1.2.2.2.2.2 s.2.2.2.1 s.2.2.2.2 a.1 a.2.1 a.2.2.1 a.2.2.2.1 a.2.2.2.2.1 a.2.2.2.2.2 X.1 X.2.1 X.2.2.1.1.1 X.2.2.1.1.2.1 X.2.2.1.1.2.2.1 X.2.2.1.1.2.2.2 X.2.2.1.2.1.1 X.2.2.1.2.1.2.1 X.2.2.1.2.1.2.2.1 X.2.2.1.2.1.2.2.2 X.2.2.1.2.2.1 X.2.2.1.2.2.2.1 X.2.2.1.2.2.2.2.1 X.2.2.1.2.2.2.2.2 X.2.2.2.1 X.2.2.2.2 ∧ (b = true → X.2.2.1 = s.2.2.1 → b' = true) := by
  have s0 := sameP_eq X.2.2.1.1 s.2.2.1.1 hX.1.1
  have s1 := sameP_eq X.2.2.1.2.1 s.2.2.1.2.1 hX.1.2.1
  have s2 := sameP_eq X.2.2.1.2.2 s.2.2.1.2.2 hX.1.2.2
  have st0 : ∃ b1 : Bool, tendrillaw16_AskOne_L52 (k + 4) w l b 0 s.1 s.2.1 s.2.2.1.1.1 s.2.2.1.1.2.1 s.2.2.1.1.2.2.1 s.2.2.1.1.2.2.2 s.2.2.1.2.1.1 s.2.2.1.2.1.2.1 s.2.2.1.2.1.2.2.1 s.2.2.1.2.1.2.2.2 s.2.2.1.2.2.1 s.2.2.1.2.2.2.1 s.2.2.1.2.2.2.2.1 s.2.2.1.2.2.2.2.2 s.2.2.2.1 s.2.2.2.2 a.1 a.2.1 a.2.2.1 a.2.2.2.1 a.2.2.2.2.1 a.2.2.2.2.2 X.1 X.2.1 X.2.2.1.1.1 X.2.2.1.1.2.1 X.2.2.1.1.2.2.1 X.2.2.1.1.2.2.2 X.2.2.1.2.1.1 X.2.2.1.2.1.2.1 X.2.2.1.2.1.2.2.1 X.2.2.1.2.1.2.2.2 X.2.2.1.2.2.1 X.2.2.1.2.2.2.1 X.2.2.1.2.2.2.2.1 X.2.2.1.2.2.2.2.2 X.2.2.2.1 X.2.2.2.2 = tendrillaw16_AskOne_L52 (k + 3) w l b1 1 s.1 s.2.1 s.2.2.1.1.1 s.2.2.1.1.2.1 s.2.2.1.1.2.2.1 s.2.2.1.1.2.2.2 s.2.2.1.2.1.1 s.2.2.1.2.1.2.1 s.2.2.1.2.1.2.2.1 s.2.2.1.2.1.2.2.2 s.2.2.1.2.2.1 s.2.2.1.2.2.2.1 s.2.2.1.2.2.2.2.1 s.2.2.1.2.2.2.2.2 s.2.2.2.1 s.2.2.2.2 a.1 a.2.1 a.2.2.1 a.2.2.2.1 a.2.2.2.2.1 a.2.2.2.2.2 X.1 X.2.1 X.2.2.1.1.1 X.2.2.1.1.2.1 X.2.2.1.1.2.2.1 X.2.2.1.1.2.2.2 X.2.2.1.2.1.1 X.2.2.1.2.1.2.1 X.2.2.1.2.1.2.2.1 X.2.2.1.2.1.2.2.2 X.2.2.1.2.2.1 X.2.2.1.2.2.2.1 X.2.2.1.2.2.2.2.1 X.2.2.1.2.2.2.2.2 X.2.2.2.1 X.2.2.2.2 ∧ (b = true → X.2.2.1 = s.2.2.1 → b1 = true) := by
    rw [tendrillaw16_AskOne_L52, ct (by decide)]
    cases b
    · rw [cond_false, w01]; exact ⟨false, rfl, fun h => absurd h (by decide)⟩
    · rw [cond_true, cf (by decide), cf (by decide), ct (by rfl), cf (by decide), cf (by decide), ct (by rfl), w01]
      refine ⟨_, by rw [show tendrilref05_Same _ = _ from s0, Option.bind_some], fun _ h => decide_eq_true (by rw [h])⟩
  obtain ⟨b1, e1, i1⟩ := st0
  have st1 : ∃ b2 : Bool, tendrillaw16_AskOne_L52 (k + 3) w l b1 1 s.1 s.2.1 s.2.2.1.1.1 s.2.2.1.1.2.1 s.2.2.1.1.2.2.1 s.2.2.1.1.2.2.2 s.2.2.1.2.1.1 s.2.2.1.2.1.2.1 s.2.2.1.2.1.2.2.1 s.2.2.1.2.1.2.2.2 s.2.2.1.2.2.1 s.2.2.1.2.2.2.1 s.2.2.1.2.2.2.2.1 s.2.2.1.2.2.2.2.2 s.2.2.2.1 s.2.2.2.2 a.1 a.2.1 a.2.2.1 a.2.2.2.1 a.2.2.2.2.1 a.2.2.2.2.2 X.1 X.2.1 X.2.2.1.1.1 X.2.2.1.1.2.1 X.2.2.1.1.2.2.1 X.2.2.1.1.2.2.2 X.2.2.1.2.1.1 X.2.2.1.2.1.2.1 X.2.2.1.2.1.2.2.1 X.2.2.1.2.1.2.2.2 X.2.2.1.2.2.1 X.2.2.1.2.2.2.1 X.2.2.1.2.2.2.2.1 X.2.2.1.2.2.2.2.2 X.2.2.2.1 X.2.2.2.2 = tendrillaw16_AskOne_L52 (k + 2) w l b2 2 s.1 s.2.1 s.2.2.1.1.1 s.2.2.1.1.2.1 s.2.2.1.1.2.2.1 s.2.2.1.1.2.2.2 s.2.2.1.2.1.1 s.2.2.1.2.1.2.1 s.2.2.1.2.1.2.2.1 s.2.2.1.2.1.2.2.2 s.2.2.1.2.2.1 s.2.2.1.2.2.2.1 s.2.2.1.2.2.2.2.1 s.2.2.1.2.2.2.2.2 s.2.2.2.1 s.2.2.2.2 a.1 a.2.1 a.2.2.1 a.2.2.2.1 a.2.2.2.2.1 a.2.2.2.2.2 X.1 X.2.1 X.2.2.1.1.1 X.2.2.1.1.2.1 X.2.2.1.1.2.2.1 X.2.2.1.1.2.2.2 X.2.2.1.2.1.1 X.2.2.1.2.1.2.1 X.2.2.1.2.1.2.2.1 X.2.2.1.2.1.2.2.2 X.2.2.1.2.2.1 X.2.2.1.2.2.2.1 X.2.2.1.2.2.2.2.1 X.2.2.1.2.2.2.2.2 X.2.2.2.1 X.2.2.2.2 ∧ (b1 = true → X.2.2.1 = s.2.2.1 → b2 = true) := by
    rw [tendrillaw16_AskOne_L52, ct (by decide)]
    cases b1
    · rw [cond_false, w12]; exact ⟨false, rfl, fun h => absurd h (by decide)⟩
    · rw [cond_true, cf (by decide), ct (by rfl), cf (by decide), ct (by rfl), w12]
      refine ⟨_, by rw [show tendrilref05_Same _ = _ from s1, Option.bind_some], fun _ h => decide_eq_true (by rw [h])⟩
  obtain ⟨b2, e2, i2⟩ := st1
  have st2 : ∃ b3 : Bool, tendrillaw16_AskOne_L52 (k + 2) w l b2 2 s.1 s.2.1 s.2.2.1.1.1 s.2.2.1.1.2.1 s.2.2.1.1.2.2.1 s.2.2.1.1.2.2.2 s.2.2.1.2.1.1 s.2.2.1.2.1.2.1 s.2.2.1.2.1.2.2.1 s.2.2.1.2.1.2.2.2 s.2.2.1.2.2.1 s.2.2.1.2.2.2.1 s.2.2.1.2.2.2.2.1 s.2.2.1.2.2.2.2.2 s.2.2.2.1 s.2.2.2.2 a.1 a.2.1 a.2.2.1 a.2.2.2.1 a.2.2.2.2.1 a.2.2.2.2.2 X.1 X.2.1 X.2.2.1.1.1 X.2.2.1.1.2.1 X.2.2.1.1.2.2.1 X.2.2.1.1.2.2.2 X.2.2.1.2.1.1 X.2.2.1.2.1.2.1 X.2.2.1.2.1.2.2.1 X.2.2.1.2.1.2.2.2 X.2.2.1.2.2.1 X.2.2.1.2.2.2.1 X.2.2.1.2.2.2.2.1 X.2.2.1.2.2.2.2.2 X.2.2.2.1 X.2.2.2.2 = tendrillaw16_AskOne_L52 (k + 1) w l b3 3 s.1 s.2.1 s.2.2.1.1.1 s.2.2.1.1.2.1 s.2.2.1.1.2.2.1 s.2.2.1.1.2.2.2 s.2.2.1.2.1.1 s.2.2.1.2.1.2.1 s.2.2.1.2.1.2.2.1 s.2.2.1.2.1.2.2.2 s.2.2.1.2.2.1 s.2.2.1.2.2.2.1 s.2.2.1.2.2.2.2.1 s.2.2.1.2.2.2.2.2 s.2.2.2.1 s.2.2.2.2 a.1 a.2.1 a.2.2.1 a.2.2.2.1 a.2.2.2.2.1 a.2.2.2.2.2 X.1 X.2.1 X.2.2.1.1.1 X.2.2.1.1.2.1 X.2.2.1.1.2.2.1 X.2.2.1.1.2.2.2 X.2.2.1.2.1.1 X.2.2.1.2.1.2.1 X.2.2.1.2.1.2.2.1 X.2.2.1.2.1.2.2.2 X.2.2.1.2.2.1 X.2.2.1.2.2.2.1 X.2.2.1.2.2.2.2.1 X.2.2.1.2.2.2.2.2 X.2.2.2.1 X.2.2.2.2 ∧ (b2 = true → X.2.2.1 = s.2.2.1 → b3 = true) := by
    rw [tendrillaw16_AskOne_L52, ct (by decide)]
    cases b2
    · rw [cond_false, w23]; exact ⟨false, rfl, fun h => absurd h (by decide)⟩
    · rw [cond_true, ct (by rfl), ct (by rfl), w23]
      refine ⟨_, by rw [show tendrilref05_Same _ = _ from s2, Option.bind_some], fun _ h => decide_eq_true (by rw [h])⟩
  obtain ⟨b3, e3, i3⟩ := st2
  exact ⟨b3, by rw [e1, e2, e3], fun h1 h2 => i3 (i2 (i1 h1 h2) h2) h2⟩

theorem do_err {c : Cfg} {s : Sh} {t : Int} {a : Acc} (h : (doV c s t a).2.2.2 ≠ 0) : (doV c s t a).1 = noS := by
  have q : ∀ (r : Sh × Int × Int) (l : List Touch), (endR r l).2.2.2 ≠ 0 → (endR r l).1 = noS := fun r l h => by
    by_cases e : r.2.2 = 0
    · rw [endR_ok e] at h; exact absurd rfl h
    · rw [endR_err e]; rfl
  unfold doV at h ⊢
  split at h
  · rename_i ho
    rw [if_pos ho]
    split at h
    · rename_i hw; rw [if_pos hw]; rfl
    · rename_i hw; rw [if_neg hw]
      split at h
      · rename_i h1; rw [if_pos h1]; exact q _ _ h
      · rename_i h1; rw [if_neg h1]
        split at h
        · rename_i h2; rw [if_pos h2]; exact q _ _ h
        · rename_i h2; rw [if_neg h2]
          split at h
          · rename_i h3; rw [if_pos h3]; exact q _ _ h
          · rename_i h3; rw [if_neg h3]; rfl
  · rename_i ho; rw [if_neg ho]; rfl

/-- What an access may change. -/
def oneV (s X : Sh) (k : Int) : Prop := fewS X ∧ X.1.length = s.1.length ∧ X.2.1.length = s.2.1.length ∧
  (((k = 3 ∨ k = 7) ∧ X = s) ∨
   (k = 4 ∧ X.2 = s.2 ∧ dc s.1 X.1 s.1.length 0 ≤ 1) ∨
   ((k = 5 ∨ k = 6) ∧ X.1 = s.1 ∧ X.2.2 = s.2.2 ∧ dc s.2.1 X.2.1 s.2.1.length 0 = 1) ∨
   ((k = 1 ∨ k = 2 ∨ k = 8 ∨ k = 9) ∧ X.1 = s.1 ∧ X.2.1 = s.2.1))

theorem setpl_12 (s : Sh) (w : Int) (p : Pool) : (setpl s w p).1 = s.1 ∧ (setpl s w p).2.1 = s.2.1 := ⟨rfl, rfl⟩
theorem turnA_12 {s : Sh} (h : okA s) : (turnA s).1.1 = s.1 ∧ (turnA s).1.2.1 = s.2.1 := by
  unfold turnA
  rw [if_pos h]
  split <;> exact ⟨rfl, rfl⟩
theorem okA_unpin {s : Sh} (t : Int) (h : okA s) (e : (unpinV s.2.2.2 t).2 = 0) : okA (s.1, s.2.1, s.2.2.1, (unpinV s.2.2.2 t).1) := by
  refine ⟨h.1, h.2.1, h.2.2.1, ?_⟩
  unfold unpinV at e ⊢
  by_cases g : okE s.2.2.2 ∧ 0 ≤ t ∧ t < (s.2.2.2.2.length : Int)
  · rw [if_pos g] at e ⊢
    by_cases z : s.2.2.2.2.getD t.toNat 0 = -1
    · rw [if_pos z] at e; exact absurd e (by decide)
    · rw [if_neg z]
      exact okE_set (t := t.toNat) (v := -1) g.1 (Or.inl rfl)
  · rw [if_neg g] at e; exact absurd e (by decide)

theorem do_one {c : Cfg} {s : Sh} {t : Int} {a : Acc} (hs : fewS s) (h : (doV c s t a).2.2.2 = 0) : oneV s (doV c s t a).1 a.1 := by
  by_cases ho : okSh c s
  rotate_left
  · rw [do_no ho] at h; exact absurd h (by decide)
  by_cases hw : waitsV s a
  · rw [do_wait ho hw] at h; exact absurd h (by decide)
  by_cases k3 : a.1 = 3 ∨ a.1 = 4
  · rw [do_words ho k3] at h ⊢
    by_cases e : (wordsV c s a).2.2 = 0
    rotate_left
    · rw [endR_err e] at h; exact absurd h e
    rw [endR_ok e]
    simp only
    unfold wordsV at e ⊢
    by_cases h3 : a.1 = 3
    · rw [if_pos h3] at e ⊢
      by_cases z : a.2.2.1 = 0
      · rw [if_pos z]; exact ⟨hs, rfl, rfl, Or.inl ⟨Or.inl h3, rfl⟩⟩
      · rw [if_neg z]; exact ⟨hs, rfl, rfl, Or.inl ⟨Or.inl h3, rfl⟩⟩
    · have h4 : a.1 = 4 := by omega
      rw [if_neg h3] at e ⊢
      have st : ∀ p v : Int, (storeV s.1 p v).2 = 0 → oneV s ((storeV s.1 p v).1, s.2) a.1 := fun p v hq => by
        unfold storeV at hq ⊢
        by_cases g : 0 ≤ p ∧ p < (s.1.length : Int)
        · rw [if_pos g]
          refine ⟨few_set _ _ hs, by simp, rfl, Or.inr (Or.inl ⟨h4, rfl, ?_⟩)⟩
          simp only
          rw [dc_set s.1 p.toNat v (by omega)]
          split <;> omega
        · rw [if_neg g] at hq; exact absurd hq (by decide)
      by_cases z : a.2.2.1 = 0
      · rw [if_pos z] at e ⊢; exact st _ _ e
      · rw [if_neg z] at e ⊢
        simp only at e ⊢
        unfold putC at e ⊢
        by_cases q : (whereC c s.1 a.2.2.1 a.2.2.2.1 a.2.2.2.2.1).2 = 0
        · rw [if_pos q] at e ⊢; exact st _ _ e
        · rw [if_neg q] at e; exact absurd e q
  by_cases k5 : a.1 = 5 ∨ a.1 = 6 ∨ a.1 = 7
  · rw [do_latches ho hw k5] at h ⊢
    by_cases e : (latchesV s a).2.2 = 0
    rotate_left
    · rw [endR_err e] at h; exact absurd h e
    rw [endR_ok e]
    simp only
    unfold latchesV at e ⊢
    by_cases g : hasV s a.2.1
    rotate_left
    · rw [if_neg g] at e; exact absurd e (show ¬ (1 : Int) = 0 by decide)
    rw [if_pos g] at e ⊢
    have g0 := g.1
    have g1 := g.2
    have st : ∀ v : Int, v ≠ s.2.1.getD a.2.1.toNat 0 → (a.1 = 5 ∨ a.1 = 6) → oneV s (s.1, s.2.1.set a.2.1.toNat v, s.2.2) a.1 := fun v hv hk => by
      refine ⟨few_lat _ _ hs, rfl, by simp, Or.inr (Or.inr (Or.inl ⟨hk, rfl, rfl, ?_⟩))⟩
      simp only
      rw [dc_set s.2.1 a.2.1.toNat v (by omega), if_pos ⟨by omega, by omega, hv⟩]
    by_cases h5 : a.1 = 5
    · rw [if_pos h5] at e ⊢
      by_cases z : (tryV (s.2.1.getD a.2.1.toNat 0)).2 = true
      · rw [if_pos z]
        refine st _ ?_ (Or.inl h5)
        unfold tryV at z ⊢
        split
        · omega
        · rename_i q; rw [if_neg q] at z; exact absurd z (by simp)
      · rw [if_neg z] at e; exact absurd e (by simp)
    · rw [if_neg h5] at e ⊢
      by_cases h6 : a.1 = 6
      · rw [if_pos h6] at e ⊢
        by_cases z : (freeV (s.2.1.getD a.2.1.toNat 0)).2 = 0
        · rw [if_pos z]
          refine st _ ?_ (Or.inr h6)
          unfold freeV at z ⊢
          by_cases q1 : okL (s.2.1.getD a.2.1.toNat 0)
          · rw [if_pos q1] at z ⊢
            by_cases q2 : heldV (s.2.1.getD a.2.1.toNat 0)
            · rw [if_pos q2]; simp only; omega
            · rw [if_neg q2] at z; exact absurd z (by decide)
          · rw [if_neg q1] at z; exact absurd z (by decide)
        · rw [if_neg z] at e; exact absurd e z
      · rw [if_neg h6]
        exact ⟨hs, rfl, rfl, Or.inl ⟨by omega, rfl⟩⟩
  by_cases k1 : a.1 = 1 ∨ a.1 = 2 ∨ a.1 = 8 ∨ a.1 = 9
  · rw [do_records ho k1] at h ⊢
    by_cases e : (recordsV s t a).2.2 = 0
    rotate_left
    · rw [endR_err e] at h; exact absurd h e
    rw [endR_ok e]
    simp only
    have fin : ∀ X : Sh, fewS X → X.1 = s.1 → X.2.1 = s.2.1 → oneV s X a.1 := fun X q1 q2 q3 => ⟨q1, by rw [q2], by rw [q3], Or.inr (Or.inr (Or.inr ⟨k1, q2, q3⟩))⟩
    have hA := ho.2.1
    unfold recordsV at e ⊢
    by_cases h1 : a.1 = 1
    · rw [if_pos h1] at e ⊢
      simp only at e ⊢
      refine fin _ (few_pinA t hs) ?_ ?_ <;>
      · unfold pinA at e ⊢
        rw [if_pos hA] at e ⊢
        by_cases z : (pinV s.2.2.2 t).2 = 0
        · rw [if_pos z]
        · rw [if_neg z] at e; exact absurd e z
    rw [if_neg h1] at e ⊢
    by_cases h2 : a.1 = 2
    · rw [if_pos h2] at e ⊢
      simp only at e ⊢
      refine fin _ (few_endA t hs) ?_ ?_
      · unfold endA at e ⊢
        rw [if_pos hA] at e ⊢
        by_cases z : (unpinV s.2.2.2 t).2 = 0
        · rw [if_pos z]; exact (turnA_12 (okA_unpin t hA z)).1
        · rw [if_neg z] at e; exact absurd e z
      · unfold endA at e ⊢
        rw [if_pos hA] at e ⊢
        by_cases z : (unpinV s.2.2.2 t).2 = 0
        · rw [if_pos z]; exact (turnA_12 (okA_unpin t hA z)).2
        · rw [if_neg z] at e; exact absurd e z
    rw [if_neg h2] at e ⊢
    by_cases h9 : a.1 = 9
    · rw [if_pos h9] at e ⊢
      simp only at e ⊢
      obtain ⟨_, p, hp⟩ := ret_set e
      refine fin _ (few_ret _ _ hs) ?_ ?_ <;> rw [hp] <;> rfl
    rw [if_neg h9] at e ⊢
    by_cases h8 : a.1 = 8
    · rw [if_pos h8] at e ⊢
      by_cases z : (takeA s a.2.2.1).2.2 = 3
      · rw [if_pos z]; exact fin _ hs rfl rfl
      · rw [if_neg z] at e ⊢
        obtain ⟨_, p, hp⟩ := take_set e
        refine fin _ (few_take _ hs) ?_ ?_ <;> rw [hp] <;> rfl
    rw [if_neg h8]
    exact fin _ hs rfl rfl
  · unfold doV at h
    rw [if_pos ho, if_neg hw, if_neg k3, if_neg k5, if_neg k1] at h
    exact absurd h (by decide)

theorem one_fin (s X : Sh) (a : Acc) (w l : Nat) (b : Bool) (k : Nat)
    (h : ((a.1 = 3 ∨ a.1 = 7) ∧ w = 0 ∧ l = 0 ∧ b = true) ∨ (a.1 = 4 ∧ w ≤ 1 ∧ l = 0 ∧ b = true) ∨ ((a.1 = 5 ∨ a.1 = 6) ∧ w = 0 ∧ l = 1 ∧ b = true) ∨ ((a.1 = 1 ∨ a.1 = 2 ∨ a.1 = 8 ∨ a.1 = 9) ∧ w = 0 ∧ l = 0)) :
    tendrillaw16_AskOne_L52 (k + 1) w l b 3 s.1 s.2.1 s.2.2.1.1.1 s.2.2.1.1.2.1 s.2.2.1.1.2.2.1 s.2.2.1.1.2.2.2 s.2.2.1.2.1.1 s.2.2.1.2.1.2.1 s.2.2.1.2.1.2.2.1 s.2.2.1.2.1.2.2.2 s.2.2.1.2.2.1 s.2.2.1.2.2.2.1 s.2.2.1.2.2.2.2.1 s.2.2.1.2.2.2.2.2 s.2.2.2.1 s.2.2.2.2 a.1 a.2.1 a.2.2.1 a.2.2.2.1 a.2.2.2.2.1 a.2.2.2.2.2 X.1 X.2.1 X.2.2.1.1.1 X.2.2.1.1.2.1 X.2.2.1.1.2.2.1 X.2.2.1.1.2.2.2 X.2.2.1.2.1.1 X.2.2.1.2.1.2.1 X.2.2.1.2.1.2.2.1 X.2.2.1.2.1.2.2.2 X.2.2.1.2.2.1 X.2.2.1.2.2.2.1 X.2.2.1.2.2.2.2.1 X.2.2.1.2.2.2.2.2 X.2.2.2.1 X.2.2.2.2 = some true := by
  rw [tendrillaw16_AskOne_L52, cf (by decide)]
  simp only [eqc, dec]
  rcases h with ⟨hk, rfl, rfl, rfl⟩ | ⟨hk, hw, rfl, rfl⟩ | ⟨hk, rfl, rfl, rfl⟩ | ⟨hk, rfl, rfl⟩
  · rcases hk with hk | hk
    · rw [if_pos hk, if_pos (by rfl), if_pos (by rfl)]
    · rw [if_neg (by omega), if_pos hk, if_pos (by rfl), if_pos (by rfl)]
  · rw [if_neg (by omega), if_neg (by omega), if_pos hk, if_pos (by omega), if_pos (by rfl)]
  · rcases hk with hk | hk
    · rw [if_neg (by omega), if_neg (by omega), if_neg (by omega), if_pos hk, if_pos (by rfl), if_pos (by rfl)]
    · rw [if_neg (by omega), if_neg (by omega), if_neg (by omega), if_neg (by omega), if_pos hk, if_pos (by rfl), if_pos (by rfl)]
  · rw [if_neg (by omega), if_neg (by omega), if_neg (by omega), if_neg (by omega), if_neg (by omega), if_pos (by rfl)]
    rfl

theorem one_all (s X : Sh) (a : Acc) (hs : fewS s) (h : oneV s X a.1) (K : Nat) (hK : 20000 ≤ K) : tendrillaw16_AskOne_L26 K 0 0 s.1.length 0 s.1 s.2.1 s.2.2.1.1.1 s.2.2.1.1.2.1 s.2.2.1.1.2.2.1 s.2.2.1.1.2.2.2 s.2.2.1.2.1.1 s.2.2.1.2.1.2.1 s.2.2.1.2.1.2.2.1 s.2.2.1.2.1.2.2.2 s.2.2.1.2.2.1 s.2.2.1.2.2.2.1 s.2.2.1.2.2.2.2.1 s.2.2.1.2.2.2.2.2 s.2.2.2.1 s.2.2.2.2 a.1 a.2.1 a.2.2.1 a.2.2.2.1 a.2.2.2.2.1 a.2.2.2.2.2 X.1 X.2.1 X.2.2.1.1.1 X.2.2.1.1.2.1 X.2.2.1.1.2.2.1 X.2.2.1.1.2.2.2 X.2.2.1.2.1.1 X.2.2.1.2.1.2.1 X.2.2.1.2.1.2.2.1 X.2.2.1.2.1.2.2.2 X.2.2.1.2.2.1 X.2.2.1.2.2.2.1 X.2.2.1.2.2.2.2.1 X.2.2.1.2.2.2.2.2 X.2.2.2.1 X.2.2.2.2 = some true := by
  obtain ⟨hX, l1, l2, hc⟩ := h
  have hm := hs.2.2.1
  have hl := hs.2.2.2
  obtain ⟨b, hb⟩ : ∃ b, tendrilref06_Same (X.2.2.2, s.2.2.2) = some b := ⟨_, sameE_eq _ _ (by have := hX.2.1; omega)⟩
  have hbt : X.2.2.2 = s.2.2.2 → b = true := fun q => by
    rw [q, sameEE (by have := hs.2.1; omega)] at hb
    exact (Option.some.inj hb).symm
  obtain ⟨k, rfl⟩ : ∃ k, K = (((k + 4) + s.2.1.length + 1) + s.1.length + 1) := ⟨K - (4 + s.2.1.length + 1 + s.1.length + 1), by omega⟩
  have e1 := one26 s X a 0 hm l1 s.1.length ((k + 4) + s.2.1.length + 1) 0 0 (by omega) (by omega)
  have e2 := one38 s X a ((0 + dc s.1 X.1 s.1.length 0 : Nat) : Int) (by omega) l2 b hb s.2.1.length (k + 4) 0 0 (by omega) (by omega)
  obtain ⟨b', e3, i3⟩ := one52 s X a ((0 + dc s.1 X.1 s.1.length 0 : Nat) : Int) ((0 + dc s.2.1 X.2.1 s.2.1.length 0 : Nat) : Int) b hX k
  rw [show ((0 : Nat) : Int) = 0 from rfl] at e1 e2
  rw [e1, e2, e3]
  refine one_fin s X a _ _ b' k ?_
  rw [Nat.zero_add, Nat.zero_add]
  rcases hc with ⟨hk, rfl⟩ | ⟨hk, h2, h3⟩ | ⟨hk, h1, h2, h3⟩ | ⟨hk, h1, h2⟩
  · exact Or.inl ⟨hk, dc_same _ _ _, dc_same _ _ _, i3 (hbt rfl) rfl⟩
  · exact Or.inr (Or.inl ⟨hk, h3, by rw [h2]; exact dc_same _ _ _, i3 (hbt (by rw [h2])) (by rw [h2])⟩)
  · exact Or.inr (Or.inr (Or.inl ⟨hk, by rw [h1]; exact dc_same _ _ _, h3, i3 (hbt (by rw [h2])) (by rw [h2])⟩))
  · exact Or.inr (Or.inr (Or.inr ⟨hk, by rw [h1]; exact dc_same _ _ _, by rw [h2]; exact dc_same _ _ _⟩))

theorem AskOne_K (K : Nat) (hK : 20000 ≤ K) (x : Cfg × Sh × Int × Acc) (hr : -9223372036854775808 ≤ x.2.2.2.2.2.2.1 ∧ x.2.2.2.2.2.2.1 ≤ 9223372036854775807) : tendrillaw16_AskOne_K K x = some true := by
  obtain ⟨c, s, t, a⟩ := x
  have ea : ((a.1, a.2.1, a.2.2.1, a.2.2.2.1, a.2.2.2.2.1, a.2.2.2.2.2) : Acc) = a := rfl
  unfold tendrillaw16_AskOne_K
  simp only [live16_eq, Option.bind_some, Bool.not_true, cond_false, etaS, fewA_eq]
  by_cases hf : fewB s
  · have hs := hf.fewS
    simp only [hf, decide_true, Bool.not_true, cond_false, etaC, ea, do_eq c s t a hr hs, Option.bind_some, nec]
    by_cases e : (doV c s t a).2.2.2 = 0
    · have h1 := do_one hs e
      rw [if_pos e, if_pos (by rw [h1.2.1]), if_pos (by rw [h1.2.2.1])]
      exact one_all s (doV c s t a).1 a hs h1 K hK
    · rw [if_neg e, do_err e]
      show ((tendrilref07_Same (noS, noS)).bind fun r3 => some r3) = some true
      rw [same_self few_noS]; rfl
  · simp only [hf, decide_false, Bool.not_false, cond_true]

theorem AskOne (x : Cfg × Sh × Int × Acc) (hx : InRT [⟨true, (.pair .int (.pair .int (.pair .int (.pair .int .int))))⟩, ⟨true, (.pair (.sl .int) (.pair (.sl .int) (.pair (.pair (.pair (.sl .int) (.pair (.sl .int) (.pair (.sl .int) (.sl .int)))) (.pair (.pair (.sl .int) (.pair (.sl .int) (.pair (.sl .int) (.sl .int)))) (.pair (.sl .int) (.pair (.sl .int) (.pair (.sl .int) (.sl .int)))))) (.pair .int (.sl .int)))))⟩, ⟨false, .int⟩, ⟨true, (.pair .int (.pair .int (.pair .int (.pair .int (.pair .int .int)))))⟩] x) : tendrillaw16_AskOne x = some true := AskOne_K 2000000 (by decide) x hx.2.2.2.2.2.2.1
end Go.Proofs.Ytcoiboghdmmdcad.Pure
