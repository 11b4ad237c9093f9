/- Plain facts about the functions of place and of its reference; no condition. -/
import Derived.Test.YthnbleblmpnfhaaPureSame
set_option linter.unusedVariables false
set_option linter.unusedSimpArgs false
namespace Go.Proofs.Ythnbleblmpnfhaa.Pure
open Go Go.RowKit Go.Proofs.YthnbleblmpnfhaaFn Go.Proofs.YthnbleblmpnfhaaPx

/-- A configuration that may be. -/
def ok (c : Int × Int × Int × Int × Int) : Prop := (1 ≤ c.1 ∧ c.1 ≤ 64) ∧ (1 ≤ c.2.1 ∧ c.2.1 ≤ 64) ∧ (1 ≤ c.2.2.1 ∧ c.2.2.1 ≤ 64) ∧ (1 ≤ c.2.2.2.1 ∧ c.2.2.2.1 ≤ 64) ∧ (1 ≤ c.2.2.2.2 ∧ c.2.2.2.2 ≤ 64)
instance (c : Int × Int × Int × Int × Int) : Decidable (ok c) := by unfold ok; infer_instance

theorem any3 {A B C : Prop} [Decidable A] [Decidable B] [Decidable C] (h : A ∨ B ∨ C) : (if A then some 1 else if B then some 1 else if C then some 1 else some 0) = some (1 : Int) := by
  by_cases a : A
  · rw [if_pos a]
  · by_cases b : B
    · rw [if_neg a, if_pos b]
    · by_cases c : C
      · rw [if_neg a, if_neg b, if_pos c]
      · exact absurd h (by simp [a, b, c])

theorem check_eq (c : Int × Int × Int × Int × Int) : place_Check c = some (if ok c then 0 else 1) := by
  obtain ⟨N, E, P, I, J⟩ := c
  unfold place_Check
  simp only [dec]
  by_cases h : ok (N, E, P, I, J)
  · rw [if_pos h]
    simp only [ok] at h
    rw [if_neg, if_neg, if_neg]
    · repeat' split
      all_goals omega
    · repeat' split
      all_goals omega
    · repeat' split
      all_goals omega
  · rw [if_neg h]
    simp only [ok] at h
    refine any3 (Classical.byContradiction fun hn => h ?_)
    simp only [not_or] at hn
    obtain ⟨h1, h2, h3⟩ := hn
    revert h1 h2 h3
    clear h
    repeat' split
    all_goals (intros; omega)

theorem kinds_eq {N E P I J : Int} (h : ok (N, E, P, I, J)) : place_kinds (N, E, P, I, J) = some ((0, 0, 0), (N, 4, 2 + I + J), (E, 5, 2 + I + J + N * 4), (P, 3, 2 + I + J + N * 4 + E * 5), 0, 0, 2 + I + J + N * 4 + E * 5 + P * 3) := by
  simp only [ok] at h
  unfold place_kinds
  have e1 : wrap64 (2 + I) = 2 + I := w64 (by omega) (by omega)
  have e2 : wrap64 (2 + I + J) = 2 + I + J := w64 (by omega) (by omega)
  have e3 : wrap64 (N * 4) = N * 4 := w64 (by omega) (by omega)
  have e4 : wrap64 (E * 5) = E * 5 := w64 (by omega) (by omega)
  have e5 : wrap64 (P * 3) = P * 3 := w64 (by omega) (by omega)
  have e6 : wrap64 (2 + I + J + N * 4) = 2 + I + J + N * 4 := w64 (by omega) (by omega)
  have e7 : wrap64 (2 + I + J + N * 4 + E * 5) = 2 + I + J + N * 4 + E * 5 := w64 (by omega) (by omega)
  have e8 : wrap64 (2 + I + J + N * 4 + E * 5 + P * 3) = 2 + I + J + N * 4 + E * 5 + P * 3 := w64 (by omega) (by omega)
  simp only [e1, e2, e3, e4, e5, e6, e7, e8]

theorem size_eq (c : Int × Int × Int × Int × Int) : place_Size c = some (if ok c then 2 + c.2.2.2.1 + c.2.2.2.2 + c.1 * 4 + c.2.1 * 5 + c.2.2.1 * 3 else 0) := by
  obtain ⟨N, E, P, I, J⟩ := c
  unfold place_Size
  simp only [check_eq, Option.bind_some, nec]
  by_cases h : ok (N, E, P, I, J)
  · simp [h, kinds_eq h]
  · simp [h]

/-- Where a field stands. -/
def fieldV (c : Int × Int × Int × Int × Int) (w s f : Int) : Int × Int :=
  if ok c then
    (if w = 1 ∧ 0 ≤ s ∧ s < c.1 ∧ 0 ≤ f ∧ f < 4 then (2 + c.2.2.2.1 + c.2.2.2.2 + s * 4 + f, 0)
    else if w = 2 ∧ 0 ≤ s ∧ s < c.2.1 ∧ 0 ≤ f ∧ f < 5 then (2 + c.2.2.2.1 + c.2.2.2.2 + c.1 * 4 + s * 5 + f, 0)
    else if w = 3 ∧ 0 ≤ s ∧ s < c.2.2.1 ∧ 0 ≤ f ∧ f < 3 then (2 + c.2.2.2.1 + c.2.2.2.2 + c.1 * 4 + c.2.1 * 5 + s * 3 + f, 0)
    else (0, 1))
  else (0, 1)

theorem field_eq (c : Int × Int × Int × Int × Int) (w s f : Int) : place_Field (c, w, s, f) = some (fieldV c w s f) := by
  obtain ⟨N, E, P, I, J⟩ := c
  unfold place_Field fieldV
  simp only [check_eq, Option.bind_some, nec, dec]
  by_cases h : ok (N, E, P, I, J)
  · simp only [h, if_true, kinds_eq h, Option.bind_some]
    simp only [ok] at h
    by_cases h1 : w < 1
    · rw [if_pos h1, if_neg (by omega), if_neg (by omega), if_neg (by omega)]
    · rw [if_neg h1]
      by_cases h3 : 3 < w
      · rw [if_pos h3, if_neg (by omega), if_neg (by omega), if_neg (by omega)]
      · rw [if_neg h3]
        have hw : w = 1 ∨ w = 2 ∨ w = 3 := by omega
        by_cases hs : s < 0
        · rcases hw with rfl | rfl | rfl <;> simp [hs] <;> omega
        · by_cases hf : f < 0
          · rcases hw with rfl | rfl | rfl <;> simp [hs, hf] <;> omega
          · rcases hw with rfl | rfl | rfl
            · by_cases g1 : N ≤ s
              · simp [hs, hf, g1] <;> omega
              · by_cases g2 : 4 ≤ f
                · simp [hs, hf, g1, g2] <;> omega
                · have e1 : wrap64 (s * 4) = s * 4 := w64 (by omega) (by omega)
                  have e2 : wrap64 (2 + I + J + s * 4) = 2 + I + J + s * 4 := w64 (by omega) (by omega)
                  have e3 : wrap64 (2 + I + J + s * 4 + f) = 2 + I + J + s * 4 + f := w64 (by omega) (by omega)
                  simp [hs, hf, g1, g2, e1, e2, e3] <;> omega
            · by_cases g1 : E ≤ s
              · simp [hs, hf, g1] <;> omega
              · by_cases g2 : 5 ≤ f
                · simp [hs, hf, g1, g2] <;> omega
                · have e1 : wrap64 (s * 5) = s * 5 := w64 (by omega) (by omega)
                  have e2 : wrap64 (2 + I + J + N * 4 + s * 5) = 2 + I + J + N * 4 + s * 5 := w64 (by omega) (by omega)
                  have e3 : wrap64 (2 + I + J + N * 4 + s * 5 + f) = 2 + I + J + N * 4 + s * 5 + f := w64 (by omega) (by omega)
                  simp [hs, hf, g1, g2, e1, e2, e3] <;> omega
            · by_cases g1 : P ≤ s
              · simp [hs, hf, g1] <;> omega
              · by_cases g2 : 3 ≤ f
                · simp [hs, hf, g1, g2] <;> omega
                · have e1 : wrap64 (s * 3) = s * 3 := w64 (by omega) (by omega)
                  have e2 : wrap64 (2 + I + J + N * 4 + E * 5 + s * 3) = 2 + I + J + N * 4 + E * 5 + s * 3 := w64 (by omega) (by omega)
                  have e3 : wrap64 (2 + I + J + N * 4 + E * 5 + s * 3 + f) = 2 + I + J + N * 4 + E * 5 + s * 3 + f := w64 (by omega) (by omega)
                  simp [hs, hf, g1, g2, e1, e2, e3] <;> omega
  · simp [h]

theorem rcheck_eq (c : Int × Int × Int × Int × Int) : tendrilref03_Check c = some (if ok c then 0 else 1) := by
  obtain ⟨N, E, P, I, J⟩ := c
  have e : tendrilref03_Check (N, E, P, I, J) = (bif decide (N < 1) then some 1 else bif decide (64 < N) then some 1 else bif decide (E < 1) then some 1 else bif decide (64 < E) then some 1 else bif decide (P < 1) then some 1 else bif decide (64 < P) then some 1 else bif decide (I < 1) then some 1 else bif decide (64 < I) then some 1 else bif decide (J < 1) then some 1 else bif decide (64 < J) then some 1 else some (0 : Int)) := by kernel_rfl
  rw [e]
  simp only [dec]
  by_cases h : ok (N, E, P, I, J)
  · rw [if_pos h]
    simp only [ok] at h
    repeat rw [if_neg (by omega)]
  · rw [if_neg h]
    simp only [ok] at h
    repeat' split
    all_goals first | rfl | (exfalso; omega)

theorem rsize_eq (c : Int × Int × Int × Int × Int) : tendrilref03_Size c = place_Size c := by
  rw [size_eq]
  obtain ⟨N, E, P, I, J⟩ := c
  unfold tendrilref03_Size
  simp only [rcheck_eq, Option.bind_some, nec]
  by_cases h : ok (N, E, P, I, J)
  · have h' := h
    simp only [ok] at h'
    have f1 : wrap64 (2 + I) = 2 + I := w64 (by omega) (by omega)
    have f2 : wrap64 (2 + I + J) = 2 + I + J := w64 (by omega) (by omega)
    have f3 : wrap64 (4 * N) = 4 * N := w64 (by omega) (by omega)
    have f4 : wrap64 (5 * E) = 5 * E := w64 (by omega) (by omega)
    have f5 : wrap64 (3 * P) = 3 * P := w64 (by omega) (by omega)
    have f6 : wrap64 (2 + I + J + 4 * N) = 2 + I + J + 4 * N := w64 (by omega) (by omega)
    have f7 : wrap64 (2 + I + J + 4 * N + 5 * E) = 2 + I + J + 4 * N + 5 * E := w64 (by omega) (by omega)
    have f8 : wrap64 (2 + I + J + 4 * N + 5 * E + 3 * P) = 2 + I + J + 4 * N + 5 * E + 3 * P := w64 (by omega) (by omega)
    simp only [h, if_true, f1, f2, f3, f4, f5, f6, f7, f8]
    congr 1
    omega
  · simp [h]

def nodeV (c : Int × Int × Int × Int × Int) (i : Int) : Int × Int := if ok c ∧ 1 ≤ i ∧ i ≤ c.2.2.2.1 then (i + 1, 0) else (0, 1)
def edgeV (c : Int × Int × Int × Int × Int) (i : Int) : Int × Int := if ok c ∧ 1 ≤ i ∧ i ≤ c.2.2.2.2 then (c.2.2.2.1 + i + 1, 0) else (0, 1)

theorem node_eq (c : Int × Int × Int × Int × Int) (i : Int) : place_Node (c, i) = some (nodeV c i) := by
  obtain ⟨N, E, P, I, J⟩ := c
  unfold place_Node nodeV
  simp only [check_eq, Option.bind_some, nec, dec]
  by_cases h : ok (N, E, P, I, J)
  · have h' := h
    simp only [ok] at h'
    by_cases h1 : i < 1
    · have : ¬ (1 ≤ i ∧ i ≤ I) := by omega
      simp [h, h1, this]
    · by_cases h2 : I < i
      · have : ¬ (1 ≤ i ∧ i ≤ I) := by omega
        simp [h, h1, h2, this]
      · have h3 : 1 ≤ i ∧ i ≤ I := by omega
        have e : wrap64 (i + 1) = i + 1 := w64 (by omega) (by omega)
        simp [h, h1, h2, h3, e]
  · simp [h]

theorem cap_eq (N E P I J w : Int) : tendrilref03_Cap ((N, E, P, I, J), w) = some (if w = 1 then (N, 4) else if w = 2 then (E, 5) else if w = 3 then (P, 3) else (0, 0)) := by
  unfold tendrilref03_Cap
  simp only [eqc]
  repeat' split
  all_goals rfl

theorem fieldL1 (k : Nat) (w s f m a N E P I J : Int) (h : ¬ 1 < w) : tendrilref03_Field_L14 (k + 1) w s f m a 1 N E P I J = some (wrap64 (wrap64 (a + wrap64 (m * s)) + f), 0) := by
  rw [tendrilref03_Field_L14]; simp [h]
theorem fieldLn (k : Nat) (w s f m a i N E P I J : Int) (h : ¬ i < w) : tendrilref03_Field_L14 (k + 1) w s f m a i N E P I J = some (wrap64 (wrap64 (a + wrap64 (m * s)) + f), 0) := by
  rw [tendrilref03_Field_L14]; simp [h]
theorem fieldLs (k : Nat) (w s f m a i N E P I J : Int) (h : i < w) (b c : Int) (hc : tendrilref03_Cap ((N, E, P, I, J), i) = some (b, c)) : tendrilref03_Field_L14 (k + 1) w s f m a i N E P I J = tendrilref03_Field_L14 k w s f m (wrap64 (a + wrap64 (b * c))) (wrap64 (i + 1)) N E P I J := by
  rw [tendrilref03_Field_L14]; simp [h, hc]
theorem fieldL2 (k : Nat) (s f m a N E P I J : Int) : tendrilref03_Field_L14 (k + 2) 2 s f m a 1 N E P I J = some (wrap64 (wrap64 (wrap64 (a + wrap64 (N * 4)) + wrap64 (m * s)) + f), 0) := by
  rw [fieldLs (k + 1) 2 s f m a 1 N E P I J (by omega) N 4 (by rw [cap_eq]; rfl), show wrap64 (1 + 1) = 2 from w64 (by omega) (by omega), fieldLn k 2 s f m _ 2 N E P I J (by omega)]
theorem fieldL3 (k : Nat) (s f m a N E P I J : Int) : tendrilref03_Field_L14 (k + 3) 3 s f m a 1 N E P I J = some (wrap64 (wrap64 (wrap64 (wrap64 (a + wrap64 (N * 4)) + wrap64 (E * 5)) + wrap64 (m * s)) + f), 0) := by
  rw [fieldLs (k + 2) 3 s f m a 1 N E P I J (by omega) N 4 (by rw [cap_eq]; rfl), show wrap64 (1 + 1) = 2 from w64 (by omega) (by omega), fieldLs (k + 1) 3 s f m _ 2 N E P I J (by omega) E 5 (by rw [cap_eq]; rfl), show wrap64 (2 + 1) = 3 from w64 (by omega) (by omega), fieldLn k 3 s f m _ 3 N E P I J (by omega)]

theorem rfield_eq (c : Int × Int × Int × Int × Int) (w s f : Int) : tendrilref03_Field (c, w, s, f) = some (fieldV c w s f) := by
  obtain ⟨N, E, P, I, J⟩ := c
  unfold tendrilref03_Field tendrilref03_Field_K fieldV
  simp only [cap_eq, rcheck_eq, Option.bind_some, nec, dec]
  by_cases h : ok (N, E, P, I, J)
  · simp only [h, if_true]
    simp only [ok] at h
    have f1 : wrap64 (2 + I) = 2 + I := w64 (by omega) (by omega)
    have f2 : wrap64 (2 + I + J) = 2 + I + J := w64 (by omega) (by omega)
    have g1 : wrap64 (N * 4) = N * 4 := w64 (by omega) (by omega)
    have g2 : wrap64 (2 + I + J + N * 4) = 2 + I + J + N * 4 := w64 (by omega) (by omega)
    have g3 : wrap64 (E * 5) = E * 5 := w64 (by omega) (by omega)
    have g4 : wrap64 (2 + I + J + N * 4 + E * 5) = 2 + I + J + N * 4 + E * 5 := w64 (by omega) (by omega)
    have n2 : wrap64 (1 + 1) = 2 := w64 (by omega) (by omega)
    have n3 : wrap64 (2 + 1) = 3 := w64 (by omega) (by omega)
    by_cases hs : s < 0
    · rw [if_pos hs, if_neg (by omega), if_neg (by omega), if_neg (by omega)]
    · rw [if_neg hs]
      by_cases hw1 : w = 1
      · subst hw1
        by_cases a1 : N ≤ s
        · rw [if_pos (by simpa using a1), if_neg (by omega), if_neg (by omega), if_neg (by omega)]
        · rw [if_neg (by simpa using a1)]
          by_cases a2 : f < 0
          · rw [if_pos a2, if_neg (by omega), if_neg (by omega), if_neg (by omega)]
          · rw [if_neg a2]
            by_cases a3 : 4 ≤ f
            · rw [if_pos (by simpa using a3), if_neg (by omega), if_neg (by omega), if_neg (by omega)]
            · rw [if_neg (by simpa using a3), if_pos (by omega)]
              rw [show (2000000 : Nat) = 1999999 + 1 from rfl, tendrilref03_Field_L14]
              have e1 : wrap64 (4 * s) = s * 4 := by rw [w64 (by omega) (by omega)]; omega
              have e2 : wrap64 (2 + I + J + s * 4) = 2 + I + J + s * 4 := w64 (by omega) (by omega)
              have e3 : wrap64 (2 + I + J + s * 4 + f) = 2 + I + J + s * 4 + f := w64 (by omega) (by omega)
              simp [f1, f2, e1, e2, e3] <;> omega
      · by_cases hw2 : w = 2
        · subst hw2
          by_cases a1 : E ≤ s
          · rw [if_pos (by simpa using a1), if_neg (by omega), if_neg (by omega), if_neg (by omega)]
          · rw [if_neg (by simpa using a1)]
            by_cases a2 : f < 0
            · rw [if_pos a2, if_neg (by omega), if_neg (by omega), if_neg (by omega)]
            · rw [if_neg a2]
              by_cases a3 : 5 ≤ f
              · rw [if_pos (by simpa using a3), if_neg (by omega), if_neg (by omega), if_neg (by omega)]
              · rw [if_neg (by simpa using a3), if_neg (by omega), if_pos (by omega)]
                have e1 : wrap64 (5 * s) = s * 5 := by rw [w64 (by omega) (by omega)]; omega
                have e2 : wrap64 (2 + I + J + N * 4 + s * 5) = 2 + I + J + N * 4 + s * 5 := w64 (by omega) (by omega)
                have e3 : wrap64 (2 + I + J + N * 4 + s * 5 + f) = 2 + I + J + N * 4 + s * 5 + f := w64 (by omega) (by omega)
                simp only [f1, f2]
                refine (fieldL2 1999998 s f _ _ N E P I J).trans ?_
                simp [g1, g2, e1, e2, e3] <;> omega
        · by_cases hw3 : w = 3
          · subst hw3
            by_cases a1 : P ≤ s
            · rw [if_pos (by simpa using a1), if_neg (by omega), if_neg (by omega), if_neg (by omega)]
            · rw [if_neg (by simpa using a1)]
              by_cases a2 : f < 0
              · rw [if_pos a2, if_neg (by omega), if_neg (by omega), if_neg (by omega)]
              · rw [if_neg a2]
                by_cases a3 : 3 ≤ f
                · rw [if_pos (by simpa using a3), if_neg (by omega), if_neg (by omega), if_neg (by omega)]
                · rw [if_neg (by simpa using a3), if_neg (by omega), if_neg (by omega), if_pos (by omega)]
                  have e1 : wrap64 (3 * s) = s * 3 := by rw [w64 (by omega) (by omega)]; omega
                  have e2 : wrap64 (2 + I + J + N * 4 + E * 5 + s * 3) = 2 + I + J + N * 4 + E * 5 + s * 3 := w64 (by omega) (by omega)
                  have e3 : wrap64 (2 + I + J + N * 4 + E * 5 + s * 3 + f) = 2 + I + J + N * 4 + E * 5 + s * 3 + f := w64 (by omega) (by omega)
                  simp only [f1, f2]
                  refine (fieldL3 1999997 s f _ _ N E P I J).trans ?_
                  simp [g1, g2, g3, g4, e1, e2, e3] <;> omega
          · have h0 : (0 : Int) ≤ s := by omega
            simp [hw1, hw2, hw3, h0]
  · simp [h]

theorem mnew_eq (n : Int) : mem_New n = some (if 0 ≤ n ∧ n ≤ 4096 then (List.replicate n.toNat 0, 0) else ([], 1)) := by
  unfold mem_New
  simp only [dec]
  by_cases h1 : n < 0
  · have : ¬ (0 ≤ n ∧ n ≤ 4096) := by omega
    simp [h1, this]
  · by_cases h2 : 4096 < n
    · have : ¬ (0 ≤ n ∧ n ≤ 4096) := by omega
      simp [h1, h2, this]
    · have h3 : 0 ≤ n := by omega
      have h4 : n ≤ 4096 := by omega
      have h5 : n ≤ 1000000 := by omega
      simp [h1, h2, h3, h4, h5]
end Go.Proofs.Ythnbleblmpnfhaa.Pure
