/- Plain facts about the functions of place and of its reference; no condition. -/
import Derived.Test.YtfnkomlakgiicadFns
import Derived.IntWalk
set_option linter.unusedVariables false
set_option linter.unusedSimpArgs false
namespace Go.Proofs.Ytfnkomlakgiicad.Pure
open Go.RowKit Go.Proofs.YtfnkomlakgiicadFn Go.Proofs.YtfnkomlakgiicadPx

theorem ne_dec (a b : Int) : (a != b) = !decide (a = b) := rfl
theorem eq_dec (a b : Int) : (a == b) = decide (a = b) := rfl
theorem nec (a b : Int) {α : Type} (x y : α) : (bif a != b then x else y) = if a = b then y else x := by by_cases h : a = b <;> simp [h, ne_dec]
theorem eqc (a b : Int) {α : Type} (x y : α) : (bif a == b then x else y) = if a = b then x else y := by by_cases h : a = b <;> simp [h, eq_dec]
theorem dec {p : Prop} [Decidable p] {α : Type} (x y : α) : (bif decide p then x else y) = if p then x else y := by by_cases h : p <;> simp [h]
theorem w64 {n : Int} (h1 : -9223372036854775808 ≤ n) (h2 : n ≤ 9223372036854775807) : wrap64 n = n := IntWalk.wrap64_in n ⟨h1, h2⟩

/-- A configuration that may be. -/
def ok (c : Int × Int × Int × Int × Int) : Prop := (1 ≤ c.1 ∧ c.1 ≤ 64) ∧ (1 ≤ c.2.1 ∧ c.2.1 ≤ 64) ∧ (1 ≤ c.2.2.1 ∧ c.2.2.1 ≤ 64) ∧ (1 ≤ c.2.2.2.1 ∧ c.2.2.2.1 ≤ 64) ∧ (1 ≤ c.2.2.2.2 ∧ c.2.2.2.2 ≤ 64)
instance (c : Int × Int × Int × Int × Int) : Decidable (ok c) := by unfold ok; infer_instance

theorem any3 {A B C : Prop} [Decidable A] [Decidable B] [Decidable C] (h : A ∨ B ∨ C) : (if A then some 1 else if B then some 1 else if C then some 1 else some 0) = some (1 : Int) := by
  by_cases a : A
  · rw [if_pos a]
  · by_cases b : B
    · rw [if_neg a, if_pos b]
    · by_cases c : C
      · rw [if_neg a, if_neg b, if_pos c]
      · exact absurd h (by simp [a, b, c])

theorem check_eq (c : Int × Int × Int × Int × Int) : place_Check c = some (if ok c then 0 else 1) := by
  obtain ⟨N, E, P, I, J⟩ := c
  unfold place_Check
  simp only [dec]
  by_cases h : ok (N, E, P, I, J)
  · rw [if_pos h]
    simp only [ok] at h
    rw [if_neg, if_neg, if_neg]
    · repeat' split
      all_goals omega
    · repeat' split
      all_goals omega
    · repeat' split
      all_goals omega
  · rw [if_neg h]
    simp only [ok] at h
    refine any3 (Classical.byContradiction fun hn => h ?_)
    simp only [not_or] at hn
    obtain ⟨h1, h2, h3⟩ := hn
    revert h1 h2 h3
    clear h
    repeat' split
    all_goals (intros; omega)

theorem kinds_eq {N E P I J : Int} (h : ok (N, E, P, I, J)) : place_kinds (N, E, P, I, J) = some ((0, 0, 0), (N, 4, 2 + I + J), (E, 5, 2 + I + J + N * 4), (P, 3, 2 + I + J + N * 4 + E * 5), 0, 0, 2 + I + J + N * 4 + E * 5 + P * 3) := by
  simp only [ok] at h
  unfold place_kinds
  have e1 : wrap64 (2 + I) = 2 + I := w64 (by omega) (by omega)
  have e2 : wrap64 (2 + I + J) = 2 + I + J := w64 (by omega) (by omega)
  have e3 : wrap64 (N * 4) = N * 4 := w64 (by omega) (by omega)
  have e4 : wrap64 (E * 5) = E * 5 := w64 (by omega) (by omega)
  have e5 : wrap64 (P * 3) = P * 3 := w64 (by omega) (by omega)
  have e6 : wrap64 (2 + I + J + N * 4) = 2 + I + J + N * 4 := w64 (by omega) (by omega)
  have e7 : wrap64 (2 + I + J + N * 4 + E * 5) = 2 + I + J + N * 4 + E * 5 := w64 (by omega) (by omega)
  have e8 : wrap64 (2 + I + J + N * 4 + E * 5 + P * 3) = 2 + I + J + N * 4 + E * 5 + P * 3 := w64 (by omega) (by omega)
  simp only [e1, e2, e3, e4, e5, e6, e7, e8]

theorem size_eq (c : Int × Int × Int × Int × Int) : place_Size c = some (if ok c then 2 + c.2.2.2.1 + c.2.2.2.2 + c.1 * 4 + c.2.1 * 5 + c.2.2.1 * 3 else 0) := by
  obtain ⟨N, E, P, I, J⟩ := c
  unfold place_Size
  simp only [check_eq, Option.bind_some, nec]
  by_cases h : ok (N, E, P, I, J)
  · simp [h, kinds_eq h]
  · simp [h]

/-- Where a field stands. -/
def fieldV (c : Int × Int × Int × Int × Int) (w s f : Int) : Int × Int :=
  if ok c then
    (if w = 1 ∧ 0 ≤ s ∧ s < c.1 ∧ 0 ≤ f ∧ f < 4 then (2 + c.2.2.2.1 + c.2.2.2.2 + s * 4 + f, 0)
    else if w = 2 ∧ 0 ≤ s ∧ s < c.2.1 ∧ 0 ≤ f ∧ f < 5 then (2 + c.2.2.2.1 + c.2.2.2.2 + c.1 * 4 + s * 5 + f, 0)
    else if w = 3 ∧ 0 ≤ s ∧ s < c.2.2.1 ∧ 0 ≤ f ∧ f < 3 then (2 + c.2.2.2.1 + c.2.2.2.2 + c.1 * 4 + c.2.1 * 5 + s * 3 + f, 0)
    else (0, 1))
  else (0, 1)

theorem field_eq (c : Int × Int × Int × Int × Int) (w s f : Int) : place_Field (c, w, s, f) = some (fieldV c w s f) := by
  obtain ⟨N, E, P, I, J⟩ := c
  unfold place_Field fieldV
  simp only [check_eq, Option.bind_some, nec, dec]
  by_cases h : ok (N, E, P, I, J)
  · simp only [h, if_true, kinds_eq h, Option.bind_some]
    simp only [ok] at h
    by_cases h1 : w < 1
    · rw [if_pos h1, if_neg (by omega), if_neg (by omega), if_neg (by omega)]
    · rw [if_neg h1]
      by_cases h3 : 3 < w
      · rw [if_pos h3, if_neg (by omega), if_neg (by omega), if_neg (by omega)]
      · rw [if_neg h3]
        have hw : w = 1 ∨ w = 2 ∨ w = 3 := by omega
        by_cases hs : s < 0
        · rcases hw with rfl | rfl | rfl <;> simp [hs] <;> omega
        · by_cases hf : f < 0
          · rcases hw with rfl | rfl | rfl <;> simp [hs, hf] <;> omega
          · rcases hw with rfl | rfl | rfl
            · by_cases g1 : N ≤ s
              · simp [hs, hf, g1] <;> omega
              · by_cases g2 : 4 ≤ f
                · simp [hs, hf, g1, g2] <;> omega
                · have e1 : wrap64 (s * 4) = s * 4 := w64 (by omega) (by omega)
                  have e2 : wrap64 (2 + I + J + s * 4) = 2 + I + J + s * 4 := w64 (by omega) (by omega)
                  have e3 : wrap64 (2 + I + J + s * 4 + f) = 2 + I + J + s * 4 + f := w64 (by omega) (by omega)
                  simp [hs, hf, g1, g2, e1, e2, e3] <;> omega
            · by_cases g1 : E ≤ s
              · simp [hs, hf, g1] <;> omega
              · by_cases g2 : 5 ≤ f
                · simp [hs, hf, g1, g2] <;> omega
                · have e1 : wrap64 (s * 5) = s * 5 := w64 (by omega) (by omega)
                  have e2 : wrap64 (2 + I + J + N * 4 + s * 5) = 2 + I + J + N * 4 + s * 5 := w64 (by omega) (by omega)
                  have e3 : wrap64 (2 + I + J + N * 4 + s * 5 + f) = 2 + I + J + N * 4 + s * 5 + f := w64 (by omega) (by omega)
                  simp [hs, hf, g1, g2, e1, e2, e3] <;> omega
            · by_cases g1 : P ≤ s
              · simp [hs, hf, g1] <;> omega
              · by_cases g2 : 3 ≤ f
                · simp [hs, hf, g1, g2] <;> omega
                · have e1 : wrap64 (s * 3) = s * 3 := w64 (by omega) (by omega)
                  have e2 : wrap64 (2 + I + J + N * 4 + E * 5 + s * 3) = 2 + I + J + N * 4 + E * 5 + s * 3 := w64 (by omega) (by omega)
                  have e3 : wrap64 (2 + I + J + N * 4 + E * 5 + s * 3 + f) = 2 + I + J + N * 4 + E * 5 + s * 3 + f := w64 (by omega) (by omega)
                  simp [hs, hf, g1, g2, e1, e2, e3] <;> omega
  · simp [h]

theorem live_eq : tendrillaw03_live () = some true := by kernel_rfl

theorem PlaceSize (x : (Int × Int × Int × Int × Int) × Int) (_ : InRT [⟨true, .pair .int (.pair .int (.pair .int (.pair .int .int)))⟩, ⟨false, .int⟩] x) : tendrillaw03_PlaceSize x = some true := by
  obtain ⟨⟨N, E, P, I, J⟩, s⟩ := x
  unfold tendrillaw03_PlaceSize
  simp only [live_eq, Option.bind_some, check_eq, size_eq, field_eq, nec, eqc, dec, Bool.not_true, cond_false]
  by_cases h : ok (N, E, P, I, J)
  · have h' := h
    simp only [ok] at h'
    have e0 : wrap64 (P - 1) = P - 1 := w64 (by omega) (by omega)
    have e1 : fieldV (N, E, P, I, J) 3 (P - 1) 2 = (2 + I + J + N * 4 + E * 5 + (P - 1) * 3 + 2, 0) := by
      unfold fieldV; rw [if_pos h]; dsimp only
      rw [if_neg (by omega), if_neg (by omega), if_pos (by omega)]
    have e2 : wrap64 (2 + I + J + N * 4 + E * 5 + P * 3 - 1) = 2 + I + J + N * 4 + E * 5 + P * 3 - 1 := w64 (by omega) (by omega)
    have f1 : wrap64 (2 + I) = 2 + I := w64 (by omega) (by omega)
    have f2 : wrap64 (2 + I + J) = 2 + I + J := w64 (by omega) (by omega)
    have f3 : wrap64 (4 * N) = 4 * N := w64 (by omega) (by omega)
    have f4 : wrap64 (5 * E) = 5 * E := w64 (by omega) (by omega)
    have f5 : wrap64 (3 * P) = 3 * P := w64 (by omega) (by omega)
    have f6 : wrap64 (2 + I + J + 4 * N) = 2 + I + J + 4 * N := w64 (by omega) (by omega)
    have f7 : wrap64 (2 + I + J + 4 * N + 5 * E) = 2 + I + J + 4 * N + 5 * E := w64 (by omega) (by omega)
    have f8 : wrap64 (2 + I + J + 4 * N + 5 * E + 3 * P) = 2 + I + J + 4 * N + 5 * E + 3 * P := w64 (by omega) (by omega)
    simp only [h, if_true, e0, e1, e2, f1, f2, f3, f4, f5, f6, f7, f8]
    rw [if_pos (by omega), if_pos (by omega)]
    by_cases hs : 0 ≤ s ∧ s < E
    · have a1 : fieldV (N, E, P, I, J) 2 s 0 = (2 + I + J + N * 4 + s * 5 + 0, 0) := by
        unfold fieldV; rw [if_pos h]; dsimp only
        rw [if_neg (by omega), if_pos (by omega)]
      have a2 : fieldV (N, E, P, I, J) 2 s 4 = (2 + I + J + N * 4 + s * 5 + 4, 0) := by
        unfold fieldV; rw [if_pos h]; dsimp only
        rw [if_neg (by omega), if_pos (by omega)]
      have a3 : wrap64 (2 + I + J + N * 4 + s * 5 + 0 + 4) = 2 + I + J + N * 4 + s * 5 + 4 := by rw [w64 (by omega) (by omega)]; omega
      simp [a1, a2, a3, eq_dec]
      have a3 : wrap64 (2 + I + J + N * 4 + s * 5 + 4) = 2 + I + J + N * 4 + s * 5 + 4 := w64 (by omega) (by omega)
      rw [a3]
    · have a1 : fieldV (N, E, P, I, J) 2 s 0 = (0, 1) := by
        unfold fieldV; rw [if_pos h]; dsimp only
        rw [if_neg (by omega), if_neg (by omega), if_neg (by omega)]
      have a2 : fieldV (N, E, P, I, J) 2 s 4 = (0, 1) := by
        unfold fieldV; rw [if_pos h]; dsimp only
        rw [if_neg (by omega), if_neg (by omega), if_neg (by omega)]
      simp [a1, a2]
      omega
  · simp [h]
end Go.Proofs.Ytfnkomlakgiicad.Pure
