/- PoolDoes: what pool does is what the reference does, and the pool stays as it was; no condition. -/
import Derived.Test.YtcoiboghdmmdcaaPurePool3
set_option linter.unusedVariables false
set_option linter.unusedSimpArgs false
namespace Go.Proofs.Ytcoiboghdmmdcaa.Pure
open Go Go.RowKit Go.Proofs.YtcoiboghdmmdcaaFn Go.Proofs.YtcoiboghdmmdcaaPx

set_option maxRecDepth 100000 in
theorem does_loops (q : Pool) (hq : small q) : ∀ (k : Nat),
    (∀ (i : Nat) (l0 l1 l2 l3 l4 l5 l6 l7 l8 l9 l10 l11 : List Int), l0.length ≤ 1000 → l1.length ≤ 1000 → l2.length ≤ 1000 → l3.length ≤ 1000 → l4.length ≤ 1000 → l5.length ≤ 1000 → l6.length ≤ 1000 → l7.length ≤ 1000 → l8.length ≤ 1000 → l9.length ≤ 1000 → l10.length ≤ 1000 → l11.length ≤ 1000 → i ≤ 3 → (3 - i) * 5000 + 1 ≤ k → tendrillaw05_PoolDoes_L30 k true (3 : Nat) i q.1 q.2.1 q.2.2.1 q.2.2.2 q.1 q.2.1 q.2.2.1 q.2.2.2 l0 l1 l2 l3 l4 l5 l6 l7 l8 l9 l10 l11 = some true) ∧
    (∀ (i j : Nat) (l0 l1 l2 l3 l4 l5 l6 l7 l8 l9 l10 l11 : List Int), l0.length ≤ 1000 → l1.length ≤ 1000 → l2.length ≤ 1000 → l3.length ≤ 1000 → l4.length ≤ 1000 → l5.length ≤ 1000 → l6.length ≤ 1000 → l7.length ≤ 1000 → l8.length ≤ 1000 → l9.length ≤ 1000 → l10.length ≤ 1000 → l11.length ≤ 1000 → i < 3 → j ≤ l1.length → (2 - i) * 5000 + 2500 + (l1.length - j) + 3 ≤ k → tendrillaw05_PoolDoes_L36 k true (3 : Nat) i l1.length j q.1 q.2.1 q.2.2.1 q.2.2.2 q.1 q.2.1 q.2.2.1 q.2.2.2 l0 l1 l2 l3 l4 l5 l6 l7 l8 l9 l10 l11 = some true) ∧
    (∀ (i j : Nat) (l0 l1 l2 l3 l4 l5 l6 l7 l8 l9 l10 l11 : List Int), l0.length ≤ 1000 → l1.length ≤ 1000 → l2.length ≤ 1000 → l3.length ≤ 1000 → l4.length ≤ 1000 → l5.length ≤ 1000 → l6.length ≤ 1000 → l7.length ≤ 1000 → l8.length ≤ 1000 → l9.length ≤ 1000 → l10.length ≤ 1000 → l11.length ≤ 1000 → i < 3 → j ≤ l3.length → (2 - i) * 5000 + (l3.length - j) + 2 ≤ k → tendrillaw05_PoolDoes_L46 k true (3 : Nat) i l3.length j q.1 q.2.1 q.2.2.1 q.2.2.2 q.1 q.2.1 q.2.2.1 q.2.2.2 l0 l1 l2 l3 l4 l5 l6 l7 l8 l9 l10 l11 = some true) ∧
    (∀ (i j : Nat) (l0 l1 l2 l3 l4 l5 l6 l7 l8 l9 l10 l11 : List Int), l0.length ≤ 1000 → l1.length ≤ 1000 → l2.length ≤ 1000 → l3.length ≤ 1000 → l4.length ≤ 1000 → l5.length ≤ 1000 → l6.length ≤ 1000 → l7.length ≤ 1000 → l8.length ≤ 1000 → l9.length ≤ 1000 → l10.length ≤ 1000 → l11.length ≤ 1000 → i < 3 → j ≤ l1.length → (2 - i) * 5000 + 2500 + (l1.length - j) + 3 ≤ k → tendrillaw05_PoolDoes_L36x1 k true (3 : Nat) i l1.length j q.1 q.2.1 q.2.2.1 q.2.2.2 q.1 q.2.1 q.2.2.1 q.2.2.2 l0 l1 l2 l3 l4 l5 l6 l7 l8 l9 l10 l11 = some true) ∧
    (∀ (i j : Nat) (l0 l1 l2 l3 l4 l5 l6 l7 l8 l9 l10 l11 : List Int), l0.length ≤ 1000 → l1.length ≤ 1000 → l2.length ≤ 1000 → l3.length ≤ 1000 → l4.length ≤ 1000 → l5.length ≤ 1000 → l6.length ≤ 1000 → l7.length ≤ 1000 → l8.length ≤ 1000 → l9.length ≤ 1000 → l10.length ≤ 1000 → l11.length ≤ 1000 → i < 3 → j ≤ l3.length → (2 - i) * 5000 + (l3.length - j) + 2 ≤ k → tendrillaw05_PoolDoes_L46x1 k true (3 : Nat) i l3.length j q.1 q.2.1 q.2.2.1 q.2.2.2 q.1 q.2.1 q.2.2.1 q.2.2.2 l0 l1 l2 l3 l4 l5 l6 l7 l8 l9 l10 l11 = some true) ∧
    (∀ (i j : Nat) (l0 l1 l2 l3 l4 l5 l6 l7 l8 l9 l10 l11 : List Int), l0.length ≤ 1000 → l1.length ≤ 1000 → l2.length ≤ 1000 → l3.length ≤ 1000 → l4.length ≤ 1000 → l5.length ≤ 1000 → l6.length ≤ 1000 → l7.length ≤ 1000 → l8.length ≤ 1000 → l9.length ≤ 1000 → l10.length ≤ 1000 → l11.length ≤ 1000 → i < 3 → j ≤ l1.length → (2 - i) * 5000 + 2500 + (l1.length - j) + 3 ≤ k → tendrillaw05_PoolDoes_L36x2 k true (3 : Nat) i l1.length j q.1 q.2.1 q.2.2.1 q.2.2.2 q.1 q.2.1 q.2.2.1 q.2.2.2 l0 l1 l2 l3 l4 l5 l6 l7 l8 l9 l10 l11 = some true) ∧
    (∀ (i j : Nat) (l0 l1 l2 l3 l4 l5 l6 l7 l8 l9 l10 l11 : List Int), l0.length ≤ 1000 → l1.length ≤ 1000 → l2.length ≤ 1000 → l3.length ≤ 1000 → l4.length ≤ 1000 → l5.length ≤ 1000 → l6.length ≤ 1000 → l7.length ≤ 1000 → l8.length ≤ 1000 → l9.length ≤ 1000 → l10.length ≤ 1000 → l11.length ≤ 1000 → i < 3 → j ≤ l3.length → (2 - i) * 5000 + (l3.length - j) + 2 ≤ k → tendrillaw05_PoolDoes_L46x2 k true (3 : Nat) i l3.length j q.1 q.2.1 q.2.2.1 q.2.2.2 q.1 q.2.1 q.2.2.1 q.2.2.2 l0 l1 l2 l3 l4 l5 l6 l7 l8 l9 l10 l11 = some true)
  | 0 => ⟨by intros; omega, by intros; omega, by intros; omega, by intros; omega, by intros; omega, by intros; omega, by intros; omega⟩
  | k + 1 => by
    obtain ⟨a, b0, c0, b1, c1, b2, c2⟩ := does_loops q hq k
    refine ⟨?_, ?_, ?_, ?_, ?_, ?_, ?_⟩
    · intro i l0 l1 l2 l3 l4 l5 l6 l7 l8 l9 l10 l11 h0 h1 h2 h3 h4 h5 h6 h7 h8 h9 h10 h11 hi hk
      rw [tendrillaw05_PoolDoes_L30]
      simp only [dec]
      have hi4 : i = 0 ∨ i = 1 ∨ i = 2 ∨ i = 3 := by omega
      rcases hi4 with rfl | rfl | rfl | rfl
      · rw [if_pos (by decide), if_neg (by decide), if_neg (by decide), if_pos (by rfl)]
        exact b2 0 0 l0 l1 l2 l3 l4 l5 l6 l7 l8 l9 l10 l11 h0 h1 h2 h3 h4 h5 h6 h7 h8 h9 h10 h11 (by omega) (by omega) (by omega)
      · rw [if_pos (by decide), if_neg (by decide), if_pos (by rfl)]
        exact b1 1 0 l4 l5 l6 l7 l0 l1 l2 l3 l8 l9 l10 l11 h4 h5 h6 h7 h0 h1 h2 h3 h8 h9 h10 h11 (by omega) (by omega) (by omega)
      · rw [if_pos (by decide), if_pos (by rfl)]
        exact b0 2 0 l8 l9 l10 l11 l0 l1 l2 l3 l4 l5 l6 l7 h8 h9 h10 h11 h0 h1 h2 h3 h4 h5 h6 h7 (by omega) (by omega) (by omega)
      · rw [if_neg (by decide)]
        simp only [cond_true, show ((q.1, q.2.1, q.2.2.1, q.2.2.2) : Pool) = q from rfl, sameP_eq q q hq, Option.bind_some, decide_true]
    · intro i j l0 l1 l2 l3 l4 l5 l6 l7 l8 l9 l10 l11 h0 h1 h2 h3 h4 h5 h6 h7 h8 h9 h10 h11 hi hj hk
      rw [tendrillaw05_PoolDoes_L36]
      by_cases hlt : j < l1.length
      · simp only [show (j : Int) < (l1.length : Int) by omega, show (0 : Int) ≤ (j : Int) by omega, decide_true, cond_true, Int.toNat_natCast, wi (show j ≤ 1000000 by omega)]
        have := b0 i (j + 1) l0 (l1.set j (wrap64 (l1.getD j 0 + 1))) l2 l3 l4 l5 l6 l7 l8 l9 l10 l11 h0 (by rw [List.length_set]; exact h1) h2 h3 h4 h5 h6 h7 h8 h9 h10 h11 hi (by rw [List.length_set]; omega) (by rw [List.length_set]; omega)
        rw [List.length_set] at this
        exact this
      · have : j = l1.length := by omega
        subst this
        simp only [Int.lt_irrefl, decide_false, cond_false]
        exact c0 i 0 l0 l1 l2 l3 l4 l5 l6 l7 l8 l9 l10 l11 h0 h1 h2 h3 h4 h5 h6 h7 h8 h9 h10 h11 hi (by omega) (by omega)
    · intro i j l0 l1 l2 l3 l4 l5 l6 l7 l8 l9 l10 l11 h0 h1 h2 h3 h4 h5 h6 h7 h8 h9 h10 h11 hi hj hk
      rw [tendrillaw05_PoolDoes_L46]
      by_cases hlt : j < l3.length
      · simp only [show (j : Int) < (l3.length : Int) by omega, show (0 : Int) ≤ (j : Int) by omega, decide_true, cond_true, Int.toNat_natCast, wi (show j ≤ 1000000 by omega)]
        have := c0 i (j + 1) l0 l1 l2 (l3.set j (wrap64 (l3.getD j 0 + 1))) l4 l5 l6 l7 l8 l9 l10 l11 h0 h1 h2 (by rw [List.length_set]; exact h3) h4 h5 h6 h7 h8 h9 h10 h11 hi (by rw [List.length_set]; omega) (by rw [List.length_set]; omega)
        rw [List.length_set] at this
        exact this
      · have : j = l3.length := by omega
        subst this
        simp only [Int.lt_irrefl, decide_false, cond_false, wi (show i ≤ 1000000 by omega)]
        exact a (i + 1) l4 l5 l6 l7 l8 l9 l10 l11 l0 l1 l2 l3 h4 h5 h6 h7 h8 h9 h10 h11 h0 h1 h2 h3 (by omega) (by omega)
    · intro i j l0 l1 l2 l3 l4 l5 l6 l7 l8 l9 l10 l11 h0 h1 h2 h3 h4 h5 h6 h7 h8 h9 h10 h11 hi hj hk
      rw [tendrillaw05_PoolDoes_L36x1]
      by_cases hlt : j < l1.length
      · simp only [show (j : Int) < (l1.length : Int) by omega, show (0 : Int) ≤ (j : Int) by omega, decide_true, cond_true, Int.toNat_natCast, wi (show j ≤ 1000000 by omega)]
        have := b1 i (j + 1) l0 (l1.set j (wrap64 (l1.getD j 0 + 1))) l2 l3 l4 l5 l6 l7 l8 l9 l10 l11 h0 (by rw [List.length_set]; exact h1) h2 h3 h4 h5 h6 h7 h8 h9 h10 h11 hi (by rw [List.length_set]; omega) (by rw [List.length_set]; omega)
        rw [List.length_set] at this
        exact this
      · have : j = l1.length := by omega
        subst this
        simp only [Int.lt_irrefl, decide_false, cond_false]
        exact c1 i 0 l0 l1 l2 l3 l4 l5 l6 l7 l8 l9 l10 l11 h0 h1 h2 h3 h4 h5 h6 h7 h8 h9 h10 h11 hi (by omega) (by omega)
    · intro i j l0 l1 l2 l3 l4 l5 l6 l7 l8 l9 l10 l11 h0 h1 h2 h3 h4 h5 h6 h7 h8 h9 h10 h11 hi hj hk
      rw [tendrillaw05_PoolDoes_L46x1]
      by_cases hlt : j < l3.length
      · simp only [show (j : Int) < (l3.length : Int) by omega, show (0 : Int) ≤ (j : Int) by omega, decide_true, cond_true, Int.toNat_natCast, wi (show j ≤ 1000000 by omega)]
        have := c1 i (j + 1) l0 l1 l2 (l3.set j (wrap64 (l3.getD j 0 + 1))) l4 l5 l6 l7 l8 l9 l10 l11 h0 h1 h2 (by rw [List.length_set]; exact h3) h4 h5 h6 h7 h8 h9 h10 h11 hi (by rw [List.length_set]; omega) (by rw [List.length_set]; omega)
        rw [List.length_set] at this
        exact this
      · have : j = l3.length := by omega
        subst this
        simp only [Int.lt_irrefl, decide_false, cond_false, wi (show i ≤ 1000000 by omega)]
        exact a (i + 1) l4 l5 l6 l7 l0 l1 l2 l3 l8 l9 l10 l11 h4 h5 h6 h7 h0 h1 h2 h3 h8 h9 h10 h11 (by omega) (by omega)
    · intro i j l0 l1 l2 l3 l4 l5 l6 l7 l8 l9 l10 l11 h0 h1 h2 h3 h4 h5 h6 h7 h8 h9 h10 h11 hi hj hk
      rw [tendrillaw05_PoolDoes_L36x2]
      by_cases hlt : j < l1.length
      · simp only [show (j : Int) < (l1.length : Int) by omega, show (0 : Int) ≤ (j : Int) by omega, decide_true, cond_true, Int.toNat_natCast, wi (show j ≤ 1000000 by omega)]
        have := b2 i (j + 1) l0 (l1.set j (wrap64 (l1.getD j 0 + 1))) l2 l3 l4 l5 l6 l7 l8 l9 l10 l11 h0 (by rw [List.length_set]; exact h1) h2 h3 h4 h5 h6 h7 h8 h9 h10 h11 hi (by rw [List.length_set]; omega) (by rw [List.length_set]; omega)
        rw [List.length_set] at this
        exact this
      · have : j = l1.length := by omega
        subst this
        simp only [Int.lt_irrefl, decide_false, cond_false]
        exact c2 i 0 l0 l1 l2 l3 l4 l5 l6 l7 l8 l9 l10 l11 h0 h1 h2 h3 h4 h5 h6 h7 h8 h9 h10 h11 hi (by omega) (by omega)
    · intro i j l0 l1 l2 l3 l4 l5 l6 l7 l8 l9 l10 l11 h0 h1 h2 h3 h4 h5 h6 h7 h8 h9 h10 h11 hi hj hk
      rw [tendrillaw05_PoolDoes_L46x2]
      by_cases hlt : j < l3.length
      · simp only [show (j : Int) < (l3.length : Int) by omega, show (0 : Int) ≤ (j : Int) by omega, decide_true, cond_true, Int.toNat_natCast, wi (show j ≤ 1000000 by omega)]
        have := c2 i (j + 1) l0 l1 l2 (l3.set j (wrap64 (l3.getD j 0 + 1))) l4 l5 l6 l7 l8 l9 l10 l11 h0 h1 h2 (by rw [List.length_set]; exact h3) h4 h5 h6 h7 h8 h9 h10 h11 hi (by rw [List.length_set]; omega) (by rw [List.length_set]; omega)
        rw [List.length_set] at this
        exact this
      · have : j = l3.length := by omega
        subst this
        simp only [Int.lt_irrefl, decide_false, cond_false, wi (show i ≤ 1000000 by omega)]
        exact a (i + 1) l0 l1 l2 l3 l4 l5 l6 l7 l8 l9 l10 l11 h0 h1 h2 h3 h4 h5 h6 h7 h8 h9 h10 h11 (by omega) (by omega)

theorem small_take (p : Pool) (h : small p) : small (takeV p).1 := by
  obtain ⟨G, S, W, F⟩ := p
  by_cases hk : okP (G, S, W, F)
  · cases F with
    | nil => rw [take_full hk]; exact small_noP
    | cons f F =>
      rw [take_one hk]
      obtain ⟨h1, h2, h3, h4⟩ := h
      simp only [List.length_cons] at h1 h2 h3 h4
      exact ⟨h1, by simpa using h2, h3, by simp only; omega⟩
  · rw [take_no hk]; exact small_noP
theorem small_retire (p : Pool) (r w : Int) (h : small p) : small (retireV p r w).1 := by
  unfold retireV
  obtain ⟨h1, h2, h3, h4⟩ := h
  split
  · split
    · exact ⟨h1, by simpa using h2, by simpa using h3, h4⟩
    · exact small_noP
  · exact small_noP
theorem small_reclaim (p : Pool) (u : Int) : small (reclaimV p u).1 := by
  unfold reclaimV
  split
  · rename_i h
    exact (okP_reclaim u h).small
  · exact small_noP

theorem live_eq : tendrillaw05_live () = some true := by kernel_rfl

theorem PoolDoes_K (K : Nat) (hK : 20000 ≤ K) (x : Pool × Int × Int × Int) (hr : -9223372036854775808 ≤ x.2.1 ∧ x.2.1 ≤ 9223372036854775807) : tendrillaw05_PoolDoes_K K x = some true := by
  obtain ⟨p, r, w, u⟩ := x
  simp only at hr
  unfold tendrillaw05_PoolDoes_K
  simp only [live_eq, Option.bind_some, Bool.not_true, cond_false, show ((p.1, p.2.1, p.2.2.1, p.2.2.2) : Pool) = p from rfl, few_eq]
  by_cases hf : p.1.length ≤ 200 ∧ p.2.1.length ≤ 200 ∧ p.2.2.1.length ≤ 200 ∧ p.2.2.2.length ≤ 200
  · have hs : small p := ⟨by omega, by omega, by omega, by omega⟩
    have hF : p.2.2.2.length ≤ 1000 := hs.2.2.2
    have s1 := small_take p hs
    have s2 := small_retire p r w hs
    have s3 := small_reclaim p u
    have e : ∀ q : Pool, ((q.1, q.2.1, q.2.2.1, q.2.2.2) : Pool) = q := fun _ => rfl
    simp only [hf, and_self, decide_true, Bool.not_true, cond_false, copyP_eq p hs, ptake_eq p hF, rtake_eq p hF, pretire_eq p r w hF hr, rretire_eq p r w hF hr, preclaim_eq p u hF, rreclaim_eq p u hF, Option.bind_some, e, sameP_eq _ _ s1, sameP_eq _ _ s2, sameP_eq _ _ s3, cond_true, beq_self_eq_true]
    obtain ⟨a1, a2, a3, a4⟩ := s1
    obtain ⟨b1, b2, b3, b4⟩ := s2
    obtain ⟨c1, c2, c3, c4⟩ := s3
    have := (does_loops p hs K).1 0 _ _ _ _ _ _ _ _ _ _ _ _ a1 a2 a3 a4 b1 b2 b3 b4 c1 c2 c3 c4 (by omega) (by omega)
    rw [show ((0 : Nat) : Int) = 0 from rfl] at this
    rw [this]
  · simp only [hf, decide_false, Bool.not_false, cond_true]

theorem PoolDoes (x : Pool × Int × Int × Int) (hx : InRT [⟨true, .pair (.sl .int) (.pair (.sl .int) (.pair (.sl .int) (.sl .int)))⟩, ⟨false, .int⟩, ⟨false, .int⟩, ⟨false, .int⟩] x) : tendrillaw05_PoolDoes x = some true := PoolDoes_K 2000000 (by decide) x hx.2.1
end Go.Proofs.Ytcoiboghdmmdcaa.Pure
