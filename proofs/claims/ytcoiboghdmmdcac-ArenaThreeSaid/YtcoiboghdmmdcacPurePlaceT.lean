/- Plain facts about the functions of place and of its reference; no condition. -/
import Derived.Test.YtcoiboghdmmdcacPureSame
set_option linter.unusedVariables false
set_option linter.unusedSimpArgs false
namespace Go.Proofs.Ytcoiboghdmmdcac.Pure
open Go Go.RowKit Go.Proofs.YtcoiboghdmmdcacFn Go.Proofs.YtcoiboghdmmdcacPx

/-- A configuration that may be. -/
def ok (c : Int × Int × Int × Int × Int) : Prop := (1 ≤ c.1 ∧ c.1 ≤ 64) ∧ (1 ≤ c.2.1 ∧ c.2.1 ≤ 64) ∧ (1 ≤ c.2.2.1 ∧ c.2.2.1 ≤ 64) ∧ (1 ≤ c.2.2.2.1 ∧ c.2.2.2.1 ≤ 64) ∧ (1 ≤ c.2.2.2.2 ∧ c.2.2.2.2 ≤ 64)
instance (c : Int × Int × Int × Int × Int) : Decidable (ok c) := by unfold ok; infer_instance

theorem any3 {A B C : Prop} [Decidable A] [Decidable B] [Decidable C] (h : A ∨ B ∨ C) : (if A then some 1 else if B then some 1 else if C then some 1 else some 0) = some (1 : Int) := by
  by_cases a : A
  · rw [if_pos a]
  · by_cases b : B
    · rw [if_neg a, if_pos b]
    · by_cases c : C
      · rw [if_neg a, if_neg b, if_pos c]
      · exact absurd h (by simp [a, b, c])

theorem check_eq (c : Int × Int × Int × Int × Int) : place_Check c = some (if ok c then 0 else 1) := by
  obtain ⟨N, E, P, I, J⟩ := c
  unfold place_Check
  simp only [dec]
  by_cases h : ok (N, E, P, I, J)
  · rw [if_pos h]
    simp only [ok] at h
    rw [if_neg, if_neg, if_neg]
    · repeat' split
      all_goals omega
    · repeat' split
      all_goals omega
    · repeat' split
      all_goals omega
  · rw [if_neg h]
    simp only [ok] at h
    refine any3 (Classical.byContradiction fun hn => h ?_)
    simp only [not_or] at hn
    obtain ⟨h1, h2, h3⟩ := hn
    revert h1 h2 h3
    clear h
    repeat' split
    all_goals (intros; omega)

/-- Where a field stands. -/
def fieldV (c : Int × Int × Int × Int × Int) (w s f : Int) : Int × Int :=
  if ok c then
    (if w = 1 ∧ 0 ≤ s ∧ s < c.1 ∧ 0 ≤ f ∧ f < 4 then (2 + c.2.2.2.1 + c.2.2.2.2 + s * 4 + f, 0)
    else if w = 2 ∧ 0 ≤ s ∧ s < c.2.1 ∧ 0 ≤ f ∧ f < 5 then (2 + c.2.2.2.1 + c.2.2.2.2 + c.1 * 4 + s * 5 + f, 0)
    else if w = 3 ∧ 0 ≤ s ∧ s < c.2.2.1 ∧ 0 ≤ f ∧ f < 3 then (2 + c.2.2.2.1 + c.2.2.2.2 + c.1 * 4 + c.2.1 * 5 + s * 3 + f, 0)
    else (0, 1))
  else (0, 1)

def nodeV (c : Int × Int × Int × Int × Int) (i : Int) : Int × Int := if ok c ∧ 1 ≤ i ∧ i ≤ c.2.2.2.1 then (i + 1, 0) else (0, 1)
def edgeV (c : Int × Int × Int × Int × Int) (i : Int) : Int × Int := if ok c ∧ 1 ≤ i ∧ i ≤ c.2.2.2.2 then (c.2.2.2.1 + i + 1, 0) else (0, 1)
end Go.Proofs.Ytcoiboghdmmdcac.Pure
