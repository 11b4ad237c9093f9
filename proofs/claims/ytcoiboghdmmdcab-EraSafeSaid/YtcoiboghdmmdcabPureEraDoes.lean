/- EraDoes: what era does is what the reference does, and the era stays as it was; no condition. -/
import Derived.Test.YtcoiboghdmmdcabPureEra
set_option linter.unusedVariables false
set_option linter.unusedSimpArgs false
namespace Go.Proofs.Ytcoiboghdmmdcab.Pure
open Go Go.RowKit Go.Proofs.YtcoiboghdmmdcabFn Go.Proofs.YtcoiboghdmmdcabPx

set_option maxRecDepth 100000 in
theorem eradoes_loops (now : Int) (q : List Int) (hq : q.length ≤ 1000) : ∀ (k : Nat),
    (∀ (i : Nat) (n0 n1 n2 : Int) (l0 l1 l2 : List Int), l0.length ≤ 1000 → l1.length ≤ 1000 → l2.length ≤ 1000 → i ≤ 3 → (3 - i) * 2000 + 1 ≤ k → tendrillaw06_EraDoes_L30 k true (3 : Nat) i now q q n0 n1 n2 l0 l1 l2 = some true) ∧
    (∀ (i j : Nat) (m n0 n1 n2 : Int) (l0 l1 l2 : List Int), l0.length ≤ 1000 → l1.length ≤ 1000 → l2.length ≤ 1000 → i < 3 → j ≤ l0.length → (2 - i) * 2000 + (l0.length - j) + 2 ≤ k → tendrillaw06_EraDoes_L36 k true (3 : Nat) i l0.length j now q q m n0 n1 n2 l0 l1 l2 = some true) ∧
    (∀ (i j : Nat) (m n0 n1 n2 : Int) (l0 l1 l2 : List Int), l0.length ≤ 1000 → l1.length ≤ 1000 → l2.length ≤ 1000 → i < 3 → j ≤ l0.length → (2 - i) * 2000 + (l0.length - j) + 2 ≤ k → tendrillaw06_EraDoes_L36x1 k true (3 : Nat) i l0.length j now q q m n0 n1 n2 l0 l1 l2 = some true) ∧
    (∀ (i j : Nat) (m n0 n1 n2 : Int) (l0 l1 l2 : List Int), l0.length ≤ 1000 → l1.length ≤ 1000 → l2.length ≤ 1000 → i < 3 → j ≤ l0.length → (2 - i) * 2000 + (l0.length - j) + 2 ≤ k → tendrillaw06_EraDoes_L36x2 k true (3 : Nat) i l0.length j now q q m n0 n1 n2 l0 l1 l2 = some true)
  | 0 => ⟨by intros; omega, by intros; omega, by intros; omega, by intros; omega⟩
  | k + 1 => by
    obtain ⟨a, b0, b1, b2⟩ := eradoes_loops now q hq k
    refine ⟨?_, ?_, ?_, ?_⟩
    · intro i n0 n1 n2 l0 l1 l2 h0 h1 h2 hi hk
      rw [tendrillaw06_EraDoes_L30]
      simp only [dec]
      have hi4 : i = 0 ∨ i = 1 ∨ i = 2 ∨ i = 3 := by omega
      rcases hi4 with rfl | rfl | rfl | rfl
      · rw [if_pos (by decide), if_neg (by decide), if_neg (by decide), if_pos (by rfl)]
        exact b2 0 0 _ n0 n1 n2 l0 l1 l2 h0 h1 h2 (by omega) (by omega) (by omega)
      · rw [if_pos (by decide), if_neg (by decide), if_pos (by rfl)]
        exact b1 1 0 _ n0 n1 n2 l1 l0 l2 h1 h0 h2 (by omega) (by omega) (by omega)
      · rw [if_pos (by decide), if_pos (by rfl)]
        exact b0 2 0 _ n0 n1 n2 l2 l0 l1 h2 h0 h1 (by omega) (by omega) (by omega)
      · rw [if_neg (by decide)]
        simp only [cond_true, same_eq q q (by omega), Option.bind_some, decide_true]
    · intro i j m n0 n1 n2 l0 l1 l2 h0 h1 h2 hi hj hk
      rw [tendrillaw06_EraDoes_L36]
      by_cases hlt : j < l0.length
      · simp only [show (j : Int) < (l0.length : Int) by omega, show (0 : Int) ≤ (j : Int) by omega, decide_true, cond_true, Int.toNat_natCast, wi (show j ≤ 1000000 by omega)]
        have := b0 i (j + 1) m n0 n1 n2 (l0.set j (wrap64 (l0.getD j 0 + 1))) l1 l2 (by rw [List.length_set]; exact h0) h1 h2 hi (by rw [List.length_set]; omega) (by rw [List.length_set]; omega)
        rw [List.length_set] at this
        exact this
      · have : j = l0.length := by omega
        subst this
        simp only [Int.lt_irrefl, decide_false, cond_false, wi (show i ≤ 1000000 by omega)]
        exact a (i + 1) n0 n1 n2 l1 l2 l0 h1 h2 h0 (by omega) (by omega)
    · intro i j m n0 n1 n2 l0 l1 l2 h0 h1 h2 hi hj hk
      rw [tendrillaw06_EraDoes_L36x1]
      by_cases hlt : j < l0.length
      · simp only [show (j : Int) < (l0.length : Int) by omega, show (0 : Int) ≤ (j : Int) by omega, decide_true, cond_true, Int.toNat_natCast, wi (show j ≤ 1000000 by omega)]
        have := b1 i (j + 1) m n0 n1 n2 (l0.set j (wrap64 (l0.getD j 0 + 1))) l1 l2 (by rw [List.length_set]; exact h0) h1 h2 hi (by rw [List.length_set]; omega) (by rw [List.length_set]; omega)
        rw [List.length_set] at this
        exact this
      · have : j = l0.length := by omega
        subst this
        simp only [Int.lt_irrefl, decide_false, cond_false, wi (show i ≤ 1000000 by omega)]
        exact a (i + 1) n0 n1 n2 l1 l0 l2 h1 h0 h2 (by omega) (by omega)
    · intro i j m n0 n1 n2 l0 l1 l2 h0 h1 h2 hi hj hk
      rw [tendrillaw06_EraDoes_L36x2]
      by_cases hlt : j < l0.length
      · simp only [show (j : Int) < (l0.length : Int) by omega, show (0 : Int) ≤ (j : Int) by omega, decide_true, cond_true, Int.toNat_natCast, wi (show j ≤ 1000000 by omega)]
        have := b2 i (j + 1) m n0 n1 n2 (l0.set j (wrap64 (l0.getD j 0 + 1))) l1 l2 (by rw [List.length_set]; exact h0) h1 h2 hi (by rw [List.length_set]; omega) (by rw [List.length_set]; omega)
        rw [List.length_set] at this
        exact this
      · have : j = l0.length := by omega
        subst this
        simp only [Int.lt_irrefl, decide_false, cond_false, wi (show i ≤ 1000000 by omega)]
        exact a (i + 1) n0 n1 n2 l0 l1 l2 h0 h1 h2 (by omega) (by omega)

theorem pin_len (e : Era) (t : Int) (h : e.2.length ≤ 1000) : (pinV e t).1.2.length ≤ 1000 := by
  unfold pinV
  split
  · simpa using h
  · simp [noE]
theorem unpin_len (e : Era) (t : Int) (h : e.2.length ≤ 1000) : (unpinV e t).1.2.length ≤ 1000 := by
  unfold unpinV
  split
  · split
    · simp [noE]
    · simpa using h
  · simp [noE]
theorem turn_len (e : Era) (h : e.2.length ≤ 1000) : (turnV e).1.2.length ≤ 1000 := by
  unfold turnV
  split
  · split
    · exact h
    · exact h
  · simp [noE]

theorem live6_eq : tendrillaw06_live () = some true := by kernel_rfl

theorem EraDoes_K (K : Nat) (hK : 20000 ≤ K) (x : Era × Int) : tendrillaw06_EraDoes_K K x = some true := by
  obtain ⟨e, t⟩ := x
  unfold tendrillaw06_EraDoes_K
  simp only [live6_eq, Option.bind_some, Bool.not_true, cond_false, show ((e.1, e.2) : Era) = e from rfl, dec]
  by_cases hf : (200 : Int) < (e.2.length : Int)
  · rw [if_pos hf]
  · have hs : e.2.length ≤ 1000 := by omega
    have s1 := pin_len e t hs
    have s2 := unpin_len e t hs
    have s3 := turn_len e hs
    have ee : ∀ q : Era, ((q.1, q.2) : Era) = q := fun _ => rfl
    rw [if_neg hf]
    simp only [copy_eq e.2 (show e.2.length ≤ 1000000 by omega), ppin_eq, rpin_eq, punpin_eq, runpin_eq, pturn_eq, rturn_eq, Option.bind_some, ee, sameE_eq _ _ (show (pinV e t).1.2.length ≤ 1000000 by omega), sameE_eq _ _ (show (unpinV e t).1.2.length ≤ 1000000 by omega), sameE_eq _ _ (show (turnV e).1.2.length ≤ 1000000 by omega), decide_true, cond_true, beq_self_eq_true]
    have := (eradoes_loops e.1 e.2 hs K).1 0 (pinV e t).1.1 (unpinV e t).1.1 (turnV e).1.1 _ _ _ s1 s2 s3 (by omega) (by omega)
    rw [show ((0 : Nat) : Int) = 0 from rfl] at this
    rw [this]

theorem EraDoes (x : Era × Int) (_ : InRT [⟨true, .pair .int (.sl .int)⟩, ⟨false, .int⟩] x) : tendrillaw06_EraDoes x = some true := EraDoes_K 2000000 (by decide) x
end Go.Proofs.Ytcoiboghdmmdcab.Pure
