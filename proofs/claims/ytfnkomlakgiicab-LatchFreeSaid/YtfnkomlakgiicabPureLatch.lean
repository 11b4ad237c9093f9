/- Plain facts about the functions of latch; no condition. -/
import Derived.Test.YtfnkomlakgiicabFns
import Derived.IntWalk
import Derived.Laws.BitsLemmas
set_option linter.unusedVariables false
set_option linter.unusedSimpArgs false
namespace Go.Proofs.Ytfnkomlakgiicab.Pure
open Go Go.RowKit Go.Proofs.YtfnkomlakgiicabFn Go.Proofs.YtfnkomlakgiicabPx

theorem ne_dec (a b : Int) : (a != b) = !decide (a = b) := rfl
theorem eq_dec (a b : Int) : (a == b) = decide (a = b) := rfl
theorem nec (a b : Int) {α : Type} (x y : α) : (bif a != b then x else y) = if a = b then y else x := by by_cases h : a = b <;> simp [h, ne_dec]
theorem eqc (a b : Int) {α : Type} (x y : α) : (bif a == b then x else y) = if a = b then x else y := by by_cases h : a = b <;> simp [h, eq_dec]
theorem dec {p : Prop} [Decidable p] {α : Type} (x y : α) : (bif decide p then x else y) = if p then x else y := by by_cases h : p <;> simp [h]

theorem and1 (n : Int) (h0 : 0 ≤ n) (h1 : n < 9223372036854775808) : Go.bits .and .i64 n 1 = n % 2 :=
  bits_mask .i64 63 (by decide) (fun m a b => by rw [IntKind.wrap_i64]; omega) 1 (by decide) n h0 h1
theorem or1 (n : Int) (h0 : 0 ≤ n) (h1 : n < 9223372036854775808) (he : n % 2 = 0) : Go.bits .or .i64 n 1 = n + 1 :=
  bits_join .i64 63 (by decide) (fun m a b => by rw [IntKind.wrap_i64]; omega) 1 n 1 h0 (by omega) h1 (by omega) (by decide) (by decide)

theorem chk (w : Int) : latch_Check w = some (if 0 ≤ w ∧ w ≤ 4611686018427387904 then 0 else 1) := by
  unfold latch_Check
  simp only [dec]
  by_cases h : 0 ≤ w ∧ w ≤ 4611686018427387904
  · rw [if_neg (by omega), if_neg (by omega), if_pos h]
  · rw [if_neg h]
    by_cases h1 : w < 0
    · rw [if_pos h1]
    · rw [if_neg h1, if_pos (by omega)]

theorem held (w : Int) : latch_Held w = some (decide ((0 ≤ w ∧ w ≤ 4611686018427387904) ∧ w % 2 = 1)) := by
  unfold latch_Held
  simp only [chk, Option.bind_some, eqc]
  by_cases h : 0 ≤ w ∧ w ≤ 4611686018427387904
  · simp only [h, and_self, if_true, true_and]
    rw [and1 w (by omega) (by omega)]
    by_cases ho : w % 2 = 1
    · simp [ho]
    · have : w % 2 = 0 := by omega
      simp [this]
  · simp [h]

theorem tryV (w : Int) (h : 0 ≤ w ∧ w ≤ 4611686018427387904) : latch_Try w = some (if w % 2 = 0 ∧ w < 4611686018427387904 then (w + 1, true) else (w, false)) := by
  unfold latch_Try
  simp only [chk, held, Option.bind_some, nec, eqc, dec, h, and_self, if_true, true_and]
  by_cases ho : w % 2 = 1
  · rw [if_pos ho, if_neg (by omega)]
  · rw [if_neg ho]
    by_cases hl : w = 4611686018427387904
    · rw [if_pos hl, if_neg (by omega)]
    · rw [if_neg hl, if_pos (by omega), or1 w (by omega) (by omega) (by omega)]

theorem freeV (w : Int) (h : 0 ≤ w ∧ w ≤ 4611686018427387904) : latch_Free w = some (if w % 2 = 1 then (w + 1, 0) else (0, 2)) := by
  unfold latch_Free
  simp only [chk, held, Option.bind_some, nec, h, and_self, if_true, true_and]
  have e : wrap64 (w + 1) = w + 1 := IntWalk.wrap64_in _ (by omega)
  by_cases ho : w % 2 = 1
  · simp [ho, e]
  · simp [ho]

theorem live_eq : tendrillaw08_live () = some true := by kernel_rfl

theorem LatchFree (x : Int) (_ : InRT [⟨false, .int⟩] x) : tendrillaw08_LatchFree x = some true := by
  unfold tendrillaw08_LatchFree
  simp only [live_eq, Option.bind_some, Bool.not_true, cond_false, chk, held, nec, eqc]
  by_cases h : 0 ≤ x ∧ x ≤ 4611686018427387904
  · have e : wrap64 (x + 1) = x + 1 := IntWalk.wrap64_in _ (by omega)
    rw [freeV x h]
    by_cases ho : x % 2 = 1
    · simp [h, ho, e]
    · simp [h, ho]
  · have hf : latch_Free x = some (0, 1) := by
      unfold latch_Free
      simp only [chk, Option.bind_some, nec, h, if_false]
      rfl
    have hv : latch_Version x = some (-1) := by
      unfold latch_Version
      simp only [chk, Option.bind_some, nec, h, if_false]
      rfl
    simp [h, hf, hv]

theorem seen_loop (w : Int) (hw : 0 ≤ w ∧ w ≤ 4611686018427387904) (he : w % 2 = 0) (l : List Bool) (n : Nat) (hl : l.length = n) (hn : n ≤ 60) : ∀ (k i : Nat) (now : Int) (was : Bool), (w ≤ now ∧ now ≤ 4611686018427387904) → (was = true ↔ w < now) → i ≤ n → n < k + i →
    tendrillaw08_LatchSeen_L18 k w now was l n i = some true
  | 0, i, _, _, _, _, hi, hk => by omega
  | k + 1, i, now, was, h, hwas, hi, hk => by
    rw [tendrillaw08_LatchSeen_L18]
    by_cases hlt : i < n
    · have hwr : Go.RowKit.wrap64 ((i : Int) + 1) = ((i + 1 : Nat) : Int) := by rw [IntWalk.wrap64_in _ (by omega)]; omega
      have rest := fun now was a b => seen_loop w hw he l n hl hn k (i + 1) now was a b (by omega) (by omega)
      have hok : 0 ≤ now ∧ now ≤ 4611686018427387904 := by omega
      simp only [show (i : Int) < (n : Int) by omega, show (0 : Int) ≤ (i : Int) by omega, hl, decide_true, cond_true, hwr, tryV now hok, freeV now hok, Option.bind_some]
      cases l.getD (i : Int).toNat false with
      | true =>
        simp only [cond_true]
        by_cases c : now % 2 = 0 ∧ now < 4611686018427387904
        · have g1 : ¬ now + 1 = w := by omega
          have g2 : 0 ≤ now + 1 ∧ now + 1 ≤ 4611686018427387904 := by omega
          have g3 : (now + 1) % 2 = 1 := by omega
          have r := rest (now + 1) true (by omega) (by simp; omega)
          simp only [c, and_self, if_true, held, chk, g2, g3, true_and, decide_true, eqc, nec, g1, if_false, Option.bind_some, r]
          cases was <;> rfl
        · rw [if_neg c]
          by_cases e : now = w
          · have hf : was = false := by cases was <;> simp_all
            have g3 : ¬ now % 2 = 1 := by omega
            have r := rest now false (by omega) (by simp; omega)
            simp only [hf, cond_false, held, chk, hok, g3, and_false, decide_false, eqc, nec, e, if_true, if_false, Option.bind_some, and_self] at r ⊢
            subst e
            simpa [hok, g3] using r
          · have ht : was = true := hwas.2 (by omega)
            have r := rest now true (by omega) (by simp; omega)
            simp only [ht, cond_true, chk, hok, eqc, nec, e, if_false, if_true, Option.bind_some, and_self, r]
      | false =>
        simp only [cond_false]
        by_cases c : now % 2 = 1
        · have g1 : ¬ now + 1 = w := by omega
          have ht : was = true := hwas.2 (by omega)
          have g2 : 0 ≤ now + 1 ∧ now + 1 ≤ 4611686018427387904 := by omega
          have r := rest (now + 1) true (by omega) (by simp; omega)
          simp only [c, ht, if_true, eqc, nec, cond_true, g1, if_false, chk, g2, and_self, Option.bind_some, r]
        · simp only [c, if_false, eqc, show ¬ ((2 : Int) = 0) by omega]
          by_cases e : now = w
          · have hf : was = false := by cases was <;> simp_all
            have r := rest now false (by omega) (by simp; omega)
            simp only [hf, cond_false, held, chk, hok, c, and_false, decide_false, eqc, nec, e, if_true, if_false, Option.bind_some, and_self] at r ⊢
            subst e
            simpa [hok, c] using r
          · have ht : was = true := hwas.2 (by omega)
            have r := rest now true (by omega) (by simp; omega)
            simp only [ht, cond_true, chk, hok, eqc, nec, e, if_false, if_true, Option.bind_some, and_self, r]
    · have : ¬ ((i : Int) < (n : Int)) := by omega
      simp [this]

theorem LatchSeen (x : Int × List Bool) (_ : InRT [⟨false, .int⟩, ⟨false, .sl .bool⟩] x) : tendrillaw08_LatchSeen x = some true := by
  obtain ⟨w, l⟩ := x
  unfold tendrillaw08_LatchSeen tendrillaw08_LatchSeen_K
  simp only [live_eq, Option.bind_some, Bool.not_true, cond_false, chk, held, nec, dec]
  by_cases hl : (60 : Int) < l.length
  · simp [hl]
  · by_cases h : 0 ≤ w ∧ w ≤ 4611686018427387904
    · by_cases ho : w % 2 = 1
      · simp [hl, h, ho]
      · have := seen_loop w h (by omega) l l.length rfl (by omega) 2000000 0 w false (by omega) (by simp) (by omega) (by omega)
        simp only [hl, h, ho, and_self, if_true, if_false, and_false]
        exact this
    · simp [hl, h]
end Go.Proofs.Ytfnkomlakgiicab.Pure
