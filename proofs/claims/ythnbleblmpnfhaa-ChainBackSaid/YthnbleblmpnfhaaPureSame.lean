/- Lists of numbers compared, and copied; no condition. -/
import Derived.Test.YthnbleblmpnfhaaPureBase
set_option linter.unusedVariables false
set_option linter.unusedSimpArgs false
namespace Go.Proofs.Ythnbleblmpnfhaa.Pure
open Go Go.RowKit Go.Proofs.YthnbleblmpnfhaaFn Go.Proofs.YthnbleblmpnfhaaPx

theorem same_loop (p0 p1 : List Int) (n : Nat) (h0 : p0.length = n) (h1 : p1.length = n) (hn : n ≤ 1000000) : ∀ (k i : Nat), i ≤ n → n < k + i → tendrilref02_Same_L10 k p0 p1 n i = some (decide (p0.drop i = p1.drop i))
  | 0, i, hi, hk => by omega
  | k + 1, i, hi, hk => by
    rw [tendrilref02_Same_L10]
    by_cases hlt : i < n
    · have e0 := drop_cons p0 i 0 (by omega)
      have e1 := drop_cons p1 i 0 (by omega)
      have ih := same_loop p0 p1 n h0 h1 hn k (i + 1) (by omega) (by omega)
      simp only [show (i : Int) < (n : Int) by omega, show (0 : Int) ≤ (i : Int) by omega, h0, h1, decide_true, cond_true, Int.toNat_natCast, wi (show i ≤ 1000000 by omega), ih, nec]
      rw [e0, e1]
      by_cases he : p0.getD i 0 = p1.getD i 0
      · simp only [he, if_true, List.cons.injEq, true_and]
      · simp only [List.cons.injEq, he, false_and, decide_false, if_false]
    · have : i = n := by omega
      subst this
      simp only [Int.lt_irrefl, decide_false, cond_false]
      rw [List.drop_of_length_le (by omega), List.drop_of_length_le (by omega)]
      simp

theorem same_eq (a b : List Int) (ha : a.length ≤ 1000000) : tendrilref02_Same (a, b) = some (decide (a = b)) := by
  unfold tendrilref02_Same tendrilref02_Same_K
  by_cases hl : a.length = b.length
  · have := same_loop a b a.length rfl hl.symm ha 2000000 0 (by omega) (by omega)
    simp only [nec, hl, if_true]
    rw [hl] at this
    exact this
  · have : a ≠ b := fun e => hl (by rw [e])
    have h2 : ¬ ((a.length : Int) = (b.length : Int)) := by omega
    simp [nec, h2, this]

theorem clone_eq (m : List Int) (h : m.length ≤ 1000000) : slices_Clone m = some m := by
  unfold slices_Clone
  simp [h]
end Go.Proofs.Ythnbleblmpnfhaa.Pure
