/- Where a word is, as place and its reference tell it; three laws over it; no condition. -/
import Derived.Test.YtfnkomlakgiicadPurePlace
set_option linter.unusedVariables false
set_option linter.unusedSimpArgs false
namespace Go.Proofs.Ytfnkomlakgiicad.Pure
open Go.RowKit Go.Proofs.YtfnkomlakgiicadFn Go.Proofs.YtfnkomlakgiicadPx

abbrev Cfg := Int × Int × Int × Int × Int

/-- What stands at a word. -/
def whereV (c : Cfg) (at' : Int) : Int × Int × Int × Int :=
  if ok c ∧ 0 ≤ at' ∧ at' < 2 + c.2.2.2.1 + c.2.2.2.2 + c.1 * 4 + c.2.1 * 5 + c.2.2.1 * 3 then
    (if at' < 2 then (0, at' + 1, 0, 0)
    else if at' < 2 + c.2.2.2.1 then (4, at' - 1, 0, 0)
    else if at' < 2 + c.2.2.2.1 + c.2.2.2.2 then (5, at' - 1 - c.2.2.2.1, 0, 0)
    else if at' < 2 + c.2.2.2.1 + c.2.2.2.2 + c.1 * 4 then (1, (at' - (2 + c.2.2.2.1 + c.2.2.2.2)) / 4, (at' - (2 + c.2.2.2.1 + c.2.2.2.2)) % 4, 0)
    else if at' < 2 + c.2.2.2.1 + c.2.2.2.2 + c.1 * 4 + c.2.1 * 5 then (2, (at' - (2 + c.2.2.2.1 + c.2.2.2.2 + c.1 * 4)) / 5, (at' - (2 + c.2.2.2.1 + c.2.2.2.2 + c.1 * 4)) % 5, 0)
    else (3, (at' - (2 + c.2.2.2.1 + c.2.2.2.2 + c.1 * 4 + c.2.1 * 5)) / 3, (at' - (2 + c.2.2.2.1 + c.2.2.2.2 + c.1 * 4 + c.2.1 * 5)) % 3, 0))
  else (0, 0, 0, 1)

theorem kinds_some (c : Cfg) : ∃ r, place_kinds c = some r := ⟨_, rfl⟩

theorem tdm (a b : Int) (h : 0 ≤ a) : a.tdiv b = a / b ∧ a.tmod b = a % b := ⟨Int.tdiv_eq_ediv_of_nonneg h, Int.tmod_eq_emod_of_nonneg h⟩

theorem where_eq (c : Cfg) (at' : Int) : place_Where (c, at') = some (whereV c at') := by
  obtain ⟨N, E, P, I, J⟩ := c
  unfold place_Where
  by_cases h : ok (N, E, P, I, J)
  · simp only [kinds_eq h, size_eq, Option.bind_some, dec, whereV]
    have h' := h
    simp only [ok] at h'
    simp only [h, if_true, true_and]
    by_cases h0 : at' < 0
    · rw [if_pos h0, if_neg (by omega)]
    by_cases h1 : 2 + I + J + N * 4 + E * 5 + P * 3 ≤ at'
    · rw [if_neg h0, if_pos h1, if_neg (by omega)]
    rw [if_neg h0, if_neg h1, if_pos (show 0 ≤ at' ∧ at' < 2 + I + J + N * 4 + E * 5 + P * 3 from ⟨by omega, by omega⟩)]
    have e1 : wrap64 (2 + I) = 2 + I := w64 (by omega) (by omega)
    rw [e1]
    by_cases h2 : at' < 2
    · rw [if_pos h2, if_pos h2, w64 (by omega) (by omega)]
    rw [if_neg h2, if_neg h2]
    by_cases h3 : at' < 2 + I
    · rw [if_pos h3, if_pos h3, w64 (by omega) (by omega)]
    rw [if_neg h3, if_neg h3]
    have e2 : wrap64 (at' - 1) = at' - 1 := w64 (by omega) (by omega)
    by_cases h4 : at' < 2 + I + J
    · rw [if_pos h4, if_pos h4, e2, w64 (by omega) (by omega)]
    rw [if_neg h4, if_neg h4]
    have n2 : wrap64 (1 + 1) = 2 := w64 (by omega) (by omega)
    have n3 : wrap64 (2 + 1) = 3 := w64 (by omega) (by omega)
    by_cases h5 : at' < 2 + I + J + N * 4
    · have e3 : wrap64 (at' - (2 + I + J)) = at' - (2 + I + J) := w64 (by omega) (by omega)
      obtain ⟨d1, d2⟩ := tdm (at' - (2 + I + J)) 4 (by omega)
      have e4 : wrap64 ((at' - (2 + I + J)) / 4) = (at' - (2 + I + J)) / 4 := w64 (by omega) (by omega)
      rw [if_neg (by omega), if_neg (by omega), if_neg (by omega), if_pos h5, e3, d1, d2, e4]
    rw [if_pos (by omega), if_neg h5]
    by_cases h6 : at' < 2 + I + J + N * 4 + E * 5
    · have e3 : wrap64 (at' - (2 + I + J + N * 4)) = at' - (2 + I + J + N * 4) := w64 (by omega) (by omega)
      obtain ⟨d1, d2⟩ := tdm (at' - (2 + I + J + N * 4)) 5 (by omega)
      have e4 : wrap64 ((at' - (2 + I + J + N * 4)) / 5) = (at' - (2 + I + J + N * 4)) / 5 := w64 (by omega) (by omega)
      rw [if_neg (by omega), if_neg (by omega), if_neg (by omega), if_pos h6, e3, d1, d2, e4, n2]
    · have e3 : wrap64 (at' - (2 + I + J + N * 4 + E * 5)) = at' - (2 + I + J + N * 4 + E * 5) := w64 (by omega) (by omega)
      obtain ⟨d1, d2⟩ := tdm (at' - (2 + I + J + N * 4 + E * 5)) 3 (by omega)
      have e4 : wrap64 ((at' - (2 + I + J + N * 4 + E * 5)) / 3) = (at' - (2 + I + J + N * 4 + E * 5)) / 3 := w64 (by omega) (by omega)
      rw [if_pos (by omega), if_neg (by omega), if_neg (by omega), if_neg (by omega), if_neg h6, e3, d1, d2, e4, n2, n3]
  · obtain ⟨r, hr⟩ := kinds_some (N, E, P, I, J)
    simp only [hr, size_eq, Option.bind_some, dec, whereV]
    simp only [h, if_false, false_and]
    by_cases h0 : at' < 0
    · rw [if_pos h0]
    · rw [if_neg h0, if_pos (by omega)]

theorem node_iff (c : Cfg) (i a : Int) : nodeV c i = (a, 0) ↔ ok c ∧ 1 ≤ i ∧ i ≤ c.2.2.2.1 ∧ i + 1 = a := by
  unfold nodeV
  split
  · rename_i h; simp [h.1, h.2.1, h.2.2]
  · rename_i h; simp only [Prod.mk.injEq, Int.reduceEq, and_false, false_iff]; intro q; exact h ⟨q.1, q.2.1, q.2.2.1⟩
theorem edge_iff (c : Cfg) (i a : Int) : edgeV c i = (a, 0) ↔ ok c ∧ 1 ≤ i ∧ i ≤ c.2.2.2.2 ∧ c.2.2.2.1 + i + 1 = a := by
  unfold edgeV
  split
  · rename_i h; simp [h.1, h.2.1, h.2.2]
  · rename_i h; simp only [Prod.mk.injEq, Int.reduceEq, and_false, false_iff]; intro q; exact h ⟨q.1, q.2.1, q.2.2.1⟩

theorem L14_step (k : Nat) (a i : Int) (c : Cfg) : tendrilref03_Where_L14 (k + 1) a i c.1 c.2.1 c.2.2.1 c.2.2.2.1 c.2.2.2.2 =
    if i < 65 then (if nodeV c i = (a, 0) then some (4, i, 0, 0) else if edgeV c i = (a, 0) then some (5, i, 0, 0) else tendrilref03_Where_L14 k a (wrap64 (i + 1)) c.1 c.2.1 c.2.2.1 c.2.2.2.1 c.2.2.2.2)
    else tendrilref03_Where_L34 k a 1 c.1 c.2.1 c.2.2.1 c.2.2.2.1 c.2.2.2.2 := by
  rw [tendrilref03_Where_L14]
  simp only [show ((c.1, c.2.1, c.2.2.1, c.2.2.2.1, c.2.2.2.2) : Cfg) = c from rfl, rnode_eq, redge_eq, Option.bind_some, eqc, dec]
  by_cases h : i < 65
  · simp only [h, if_true]
    generalize nodeV c i = r
    generalize edgeV c i = s
    obtain ⟨r1, r2⟩ := r
    obtain ⟨s1, s2⟩ := s
    simp only [Prod.mk.injEq]
    by_cases h1 : r2 = 0 <;> by_cases h2 : r1 = a <;> by_cases h3 : s2 = 0 <;> by_cases h4 : s1 = a <;> simp [h1, h2, h3, h4]
  · simp only [h, if_false]

/-- The reference finds it: numbers first. -/
theorem rwhere_num (c : Cfg) (a : Int) (hc : ok c) (h2 : 2 ≤ a) (hn : a < 2 + c.2.2.2.1 + c.2.2.2.2) : ∀ (k i : Nat), (i : Int) ≤ (if a < 2 + c.2.2.2.1 then a - 1 else a - 1 - c.2.2.2.1) → ((if a < 2 + c.2.2.2.1 then a - 1 else a - 1 - c.2.2.2.1)).toNat < k + i →
    tendrilref03_Where_L14 k a i c.1 c.2.1 c.2.2.1 c.2.2.2.1 c.2.2.2.2 = some (if a < 2 + c.2.2.2.1 then (4, a - 1, 0, 0) else (5, a - 1 - c.2.2.2.1, 0, 0))
  | 0, i, hi, hk => by omega
  | k + 1, i, hi, hk => by
    have h' := hc
    simp only [ok] at h'
    have ih := rwhere_num c a hc h2 hn k (i + 1)
    rw [L14_step]
    simp only [node_iff, edge_iff, hc, true_and]
    by_cases h : a < 2 + c.2.2.2.1
    · simp only [h, if_true] at hi hk ih ⊢
      have e65 : (i : Int) < 65 := by omega
      have ewi : wrap64 ((i : Int) + 1) = ((i + 1 : Nat) : Int) := by rw [w64 (by omega) (by omega)]; omega
      have ne : ¬ (1 ≤ (i : Int) ∧ (i : Int) ≤ c.2.2.2.2 ∧ c.2.2.2.1 + i + 1 = a) := by omega
      simp only [e65, if_true, ne, if_false, ewi]
      by_cases he : (i : Int) = a - 1
      · rw [if_pos (by omega), he]
      · have : ¬ (1 ≤ (i : Int) ∧ (i : Int) ≤ c.2.2.2.1 ∧ (i : Int) + 1 = a) := by omega
        simp only [this, if_false]
        exact ih (by omega) (by omega)
    · simp only [h, if_false] at hi hk ih ⊢
      have e65 : (i : Int) < 65 := by omega
      have ewi : wrap64 ((i : Int) + 1) = ((i + 1 : Nat) : Int) := by rw [w64 (by omega) (by omega)]; omega
      have ne : ¬ (1 ≤ (i : Int) ∧ (i : Int) ≤ c.2.2.2.1 ∧ (i : Int) + 1 = a) := by omega
      simp only [e65, if_true, ne, if_false, ewi]
      by_cases he : (i : Int) = a - 1 - c.2.2.2.1
      · rw [if_pos (by omega), he]
      · have : ¬ (1 ≤ (i : Int) ∧ (i : Int) ≤ c.2.2.2.2 ∧ c.2.2.2.1 + i + 1 = a) := by omega
        simp only [this, if_false]
        exact ih (by omega) (by omega)

/-- No number's word is a record's. -/
theorem rwhere_skip (c : Cfg) (a : Int) (hc : ok c) (hn : 2 + c.2.2.2.1 + c.2.2.2.2 ≤ a) (r : Int × Int × Int × Int) : ∀ (m : Nat) (k i : Nat), 65 = i + m → m < k →
    (∀ k', k ≤ k' + m + 1 → tendrilref03_Where_L34 k' a 1 c.1 c.2.1 c.2.2.1 c.2.2.2.1 c.2.2.2.2 = some r) → tendrilref03_Where_L14 k a i c.1 c.2.1 c.2.2.1 c.2.2.2.1 c.2.2.2.2 = some r
  | 0, k, i, hm, hk, hr => by
    obtain ⟨k, rfl⟩ : ∃ q, k = q + 1 := ⟨k - 1, by omega⟩
    rw [L14_step, if_neg (by omega)]
    exact hr k (by omega)
  | m + 1, k, i, hm, hk, hr => by
    have h' := hc
    simp only [ok] at h'
    obtain ⟨k, rfl⟩ : ∃ q, k = q + 1 := ⟨k - 1, by omega⟩
    have ewi : wrap64 ((i : Int) + 1) = ((i + 1 : Nat) : Int) := by rw [w64 (by omega) (by omega)]; omega
    have ih := rwhere_skip c a hc hn r m k (i + 1) (by omega) (by omega) fun k' hk' => hr k' (by omega)
    have n1 : ¬ nodeV c i = (a, 0) := by rw [node_iff]; rintro ⟨_, q⟩; omega
    have n2 : ¬ edgeV c i = (a, 0) := by rw [edge_iff]; rintro ⟨_, q⟩; omega
    rw [L14_step, if_pos (by omega), if_neg n1, if_neg n2, ewi]
    exact ih

/-- The place of a word among the records: kind, slot and field, as one number. -/
def rk (w s f : Int) : Int := (w * 65 + s) * 6 + f

theorem field_inj (c : Cfg) (hc : ok c) (a w s f w' s' f' : Int) (h : fieldV c w s f = (a, 0)) (h' : fieldV c w' s' f' = (a, 0)) : w = w' ∧ s = s' ∧ f = f' := by
  obtain ⟨N, E, P, I, J⟩ := c
  have h0 := hc
  simp only [ok] at h0
  unfold fieldV at h h'
  rw [if_pos hc] at h h'
  simp only at h h'
  split at h <;> (try split at h) <;> (try split at h) <;> split at h' <;> (try split at h') <;> (try split at h') <;> simp only [Prod.mk.injEq] at h h' <;> omega

theorem field_dom (c : Cfg) (w s f a : Int) (h : fieldV c w s f = (a, 0)) : ok c ∧ 1 ≤ w ∧ w ≤ 3 ∧ 0 ≤ s ∧ s < 64 ∧ 0 ≤ f ∧ f < 5 := by
  obtain ⟨N, E, P, I, J⟩ := c
  unfold fieldV at h
  split at h
  · rename_i hc
    have h0 := hc
    simp only [ok] at h0
    simp only at h
    refine ⟨hc, ?_⟩
    split at h <;> (try split at h) <;> (try split at h) <;> simp only [Prod.mk.injEq] at h <;> omega
  · simp at h

theorem field_err (c : Cfg) (w s f : Int) : (fieldV c w s f).2 = 0 ∨ (fieldV c w s f).2 = 1 := by
  unfold fieldV
  split
  · split
    · exact .inl rfl
    · split
      · exact .inl rfl
      · split
        · exact .inl rfl
        · exact .inr rfl
  · exact .inr rfl

/-- The reference finds a record's word. -/
theorem rwhere_rec (c : Cfg) (a W S F : Int) (hc : ok c) (ht : fieldV c W S F = (a, 0)) : ∀ (k : Nat),
    (∀ w : Nat, 1 ≤ w → (w : Int) ≤ W → 4 * 1000 - w * 1000 < k → tendrilref03_Where_L34 k a w c.1 c.2.1 c.2.2.1 c.2.2.2.1 c.2.2.2.2 = some (W, S, F, 0)) ∧
    (∀ w s : Nat, 1 ≤ w → (w : Int) ≤ W → s ≤ 64 → ((w : Int) = W → (s : Int) ≤ S) → 4 * 1000 - w * 1000 - s * 10 - 1 < k → tendrilref03_Where_L40 k a w s c.1 c.2.1 c.2.2.1 c.2.2.2.1 c.2.2.2.2 = some (W, S, F, 0)) ∧
    (∀ w s f : Nat, 1 ≤ w → (w : Int) ≤ W → s < 64 → f ≤ 5 → ((w : Int) = W → (s : Int) ≤ S) → ((w : Int) = W → (s : Int) = S → (f : Int) ≤ F) → 4 * 1000 - w * 1000 - s * 10 - 2 - f < k → tendrilref03_Where_L46 k a w s s f c.1 c.2.1 c.2.2.1 c.2.2.2.1 c.2.2.2.2 = some (W, S, F, 0))
  | 0 => ⟨fun _ _ _ h => by omega, fun _ _ _ _ _ _ h => by omega, fun _ _ _ _ _ _ _ _ _ h => by omega⟩
  | k + 1 => by
    obtain ⟨ih1, ih2, ih3⟩ := rwhere_rec c a W S F hc ht k
    obtain ⟨_, d1, d2, d3, d4, d5, d6⟩ := field_dom c W S F a ht
    refine ⟨fun w h1 h2 h3 => ?_, fun w s h1 h2 h3 h4 h5 => ?_, fun w s f h1 h2 h3 h4 h5 h6 h7 => ?_⟩
    · rw [tendrilref03_Where_L34]
      simp only [dec]
      rw [if_pos (by omega)]
      exact ih2 w 0 h1 h2 (by omega) (fun _ => by omega) (by omega)
    · rw [tendrilref03_Where_L40]
      simp only [dec]
      by_cases hs : s < 64
      · rw [if_pos (by omega)]
        exact ih3 w s 0 h1 h2 hs (by omega) h4 (fun _ _ => by omega) (by omega)
      · rw [if_neg (by omega), show wrap64 ((w : Int) + 1) = ((w + 1 : Nat) : Int) by rw [w64 (by omega) (by omega)]; omega]
        exact ih1 (w + 1) (by omega) (by omega) (by omega)
    · rw [tendrilref03_Where_L46]
      simp only [dec, eqc, show ((c.1, c.2.1, c.2.2.1, c.2.2.2.1, c.2.2.2.2) : Cfg) = c from rfl, rfield_eq, Option.bind_some]
      by_cases hf : f < 5
      · rw [if_pos (by omega)]
        by_cases he : fieldV c w s f = (a, 0)
        · obtain ⟨e1, e2, e3⟩ := field_inj c hc a _ _ _ _ _ _ he ht
          rw [he, if_pos rfl, if_pos rfl, e1, e2, e3]
        · have next : tendrilref03_Where_L46 k a w s s (wrap64 ((f : Int) + 1)) c.1 c.2.1 c.2.2.1 c.2.2.2.1 c.2.2.2.2 = some (W, S, F, 0) := by
            rw [show wrap64 ((f : Int) + 1) = ((f + 1 : Nat) : Int) by rw [w64 (by omega) (by omega)]; omega]
            refine ih3 w s (f + 1) h1 h2 h3 (by omega) h5 (fun q1 q2 => ?_) (by omega)
            have := h6 q1 q2
            have hne : (f : Int) ≠ F := fun e => he (by rw [q1, q2, e]; exact ht)
            omega
          by_cases hz : (fieldV c w s f).2 = 0
          · rw [if_pos hz, if_neg (fun e => he (Prod.ext e hz))]
            exact next
          · rw [if_neg hz]
            exact next
      · rw [if_neg (by omega), show wrap64 ((s : Int) + 1) = ((s + 1 : Nat) : Int) by rw [w64 (by omega) (by omega)]; omega]
        exact ih2 w (s + 1) h1 h2 (by omega) (fun q => by have := h5 q; by_cases q2 : (s : Int) = S; · have := h6 q q2; omega
                                                          · omega) (by omega)

theorem rec_at (c : Cfg) (a : Int) (hc : ok c) (h1 : 2 + c.2.2.2.1 + c.2.2.2.2 ≤ a) (h2 : a < 2 + c.2.2.2.1 + c.2.2.2.2 + c.1 * 4 + c.2.1 * 5 + c.2.2.1 * 3) :
    ∃ W S F, whereV c a = (W, S, F, 0) ∧ fieldV c W S F = (a, 0) := by
  obtain ⟨N, E, P, I, J⟩ := c
  have h' := hc
  simp only [ok] at h'
  simp only at h1 h2
  by_cases h5 : a < 2 + I + J + N * 4
  · refine ⟨1, (a - (2 + I + J)) / 4, (a - (2 + I + J)) % 4, ?_, ?_⟩
    · simp only [whereV]
      rw [if_pos ⟨hc, by omega, by omega⟩, if_neg (by omega), if_neg (by omega), if_neg (by omega), if_pos h5]
    · unfold fieldV
      rw [if_pos hc]
      simp only
      rw [if_pos ⟨trivial, by omega, by omega, by omega, by omega⟩]
      simp only [Prod.mk.injEq, and_true]
      omega
  · by_cases h6 : a < 2 + I + J + N * 4 + E * 5
    · refine ⟨2, (a - (2 + I + J + N * 4)) / 5, (a - (2 + I + J + N * 4)) % 5, ?_, ?_⟩
      · simp only [whereV]
        rw [if_pos ⟨hc, by omega, by omega⟩, if_neg (by omega), if_neg (by omega), if_neg (by omega), if_neg h5, if_pos h6]
      · unfold fieldV
        rw [if_pos hc]
        simp only
        rw [if_neg (fun h => by have := h.1; simp at this), if_pos ⟨trivial, by omega, by omega, by omega, by omega⟩]
        simp only [Prod.mk.injEq, and_true]
        omega
    · refine ⟨3, (a - (2 + I + J + N * 4 + E * 5)) / 3, (a - (2 + I + J + N * 4 + E * 5)) % 3, ?_, ?_⟩
      · simp only [whereV]
        rw [if_pos ⟨hc, by omega, by omega⟩, if_neg (by omega), if_neg (by omega), if_neg (by omega), if_neg h5, if_neg h6]
      · unfold fieldV
        rw [if_pos hc]
        simp only
        rw [if_neg (fun h => by have := h.1; simp at this), if_neg (fun h => by have := h.1; simp at this), if_pos ⟨trivial, by omega, by omega, by omega, by omega⟩]
        simp only [Prod.mk.injEq, and_true]
        omega

theorem rwhere_eq (c : Cfg) (a : Int) : tendrilref03_Where (c, a) = some (whereV c a) := by
  unfold tendrilref03_Where tendrilref03_Where_K
  simp only [show ((c.1, c.2.1, c.2.2.1, c.2.2.2.1, c.2.2.2.2) : Cfg) = c from rfl, rcheck_eq, rsize_eq, size_eq, Option.bind_some, nec, dec]
  by_cases hc : ok c
  · rw [if_pos (if_pos hc)]
    simp only [hc, if_true]
    have h' := hc
    simp only [ok] at h'
    by_cases h0 : a < 0
    · rw [if_pos h0]; simp only [whereV]; rw [if_neg (by omega)]
    rw [if_neg h0]
    by_cases h1 : 2 + c.2.2.2.1 + c.2.2.2.2 + c.1 * 4 + c.2.1 * 5 + c.2.2.1 * 3 ≤ a
    · rw [if_pos h1]; simp only [whereV]; rw [if_neg (by omega)]
    rw [if_neg h1]
    by_cases h2 : a < 2
    · rw [if_pos h2]; simp only [whereV]; rw [if_pos ⟨hc, by omega, by omega⟩, if_pos h2, w64 (by omega) (by omega)]
    rw [if_neg h2]
    by_cases h3 : a < 2 + c.2.2.2.1 + c.2.2.2.2
    · have e : whereV c a = if a < 2 + c.2.2.2.1 then (4, a - 1, 0, 0) else (5, a - 1 - c.2.2.2.1, 0, 0) := by
        simp only [whereV]
        rw [if_pos ⟨hc, by omega, by omega⟩, if_neg h2]
        simp only [h3, if_true]
      rw [e]
      refine rwhere_num c a hc (by omega) h3 2000000 0 ?_ ?_
      · split <;> omega
      · split <;> omega
    · obtain ⟨W, S, F, e1, e2⟩ := rec_at c a hc (by omega) (by omega)
      rw [e1]
      obtain ⟨_, d1, d2, _⟩ := field_dom c W S F a e2
      exact rwhere_skip c a hc (by omega) _ 65 2000000 0 rfl (by omega) fun k' hk' => (rwhere_rec c a W S F hc e2 k').1 1 (by omega) (by omega) (by omega)
  · rw [if_neg (by simp [hc])]
    simp only [hc, if_false, whereV, false_and]

theorem PlaceWhere (x : Cfg × Int) (_ : InRT [⟨true, .pair .int (.pair .int (.pair .int (.pair .int .int)))⟩, ⟨false, .int⟩] x) : tendrillaw03_PlaceWhere x = some true := by
  obtain ⟨c, a⟩ := x
  unfold tendrillaw03_PlaceWhere
  simp [live_eq, where_eq, rwhere_eq]

theorem node_where (c : Cfg) (i n : Int) (h : nodeV c i = (n, 0)) : whereV c n = (4, i, 0, 0) := by
  obtain ⟨N, E, P, I, J⟩ := c
  unfold nodeV at h
  split at h
  · rename_i hc
    obtain ⟨hc, h1, h2⟩ := hc
    have h' := hc
    simp only [ok] at h'
    simp only [Prod.mk.injEq, and_true] at h h1 h2
    subst h
    simp only [whereV]
    rw [if_pos ⟨hc, by omega, by omega⟩, if_neg (by omega), if_pos (by omega)]
    simp
  · simp at h

theorem edge_where (c : Cfg) (i n : Int) (h : edgeV c i = (n, 0)) : whereV c n = (5, i, 0, 0) := by
  obtain ⟨N, E, P, I, J⟩ := c
  unfold edgeV at h
  split at h
  · rename_i hc
    obtain ⟨hc, h1, h2⟩ := hc
    have h' := hc
    simp only [ok] at h'
    simp only [Prod.mk.injEq, and_true] at h h1 h2
    subst h
    simp only [whereV]
    rw [if_pos ⟨hc, by omega, by omega⟩, if_neg (by omega), if_neg (by omega), if_pos (by omega)]
    simp only [Prod.mk.injEq, and_true, true_and]
    omega
  · simp at h

theorem field_range (c : Cfg) (w s f a : Int) (h : fieldV c w s f = (a, 0)) : 2 + c.2.2.2.1 + c.2.2.2.2 ≤ a ∧ a < 2 + c.2.2.2.1 + c.2.2.2.2 + c.1 * 4 + c.2.1 * 5 + c.2.2.1 * 3 := by
  obtain ⟨N, E, P, I, J⟩ := c
  unfold fieldV at h
  split at h
  · rename_i hc
    have h0 := hc
    simp only [ok] at h0
    simp only at h ⊢
    split at h <;> (try split at h) <;> (try split at h) <;> simp only [Prod.mk.injEq] at h <;> omega
  · simp at h

theorem field_where (c : Cfg) (w s f n : Int) (h : fieldV c w s f = (n, 0)) : whereV c n = (w, s, f, 0) := by
  obtain ⟨hc, _⟩ := field_dom c w s f n h
  obtain ⟨h1, h2⟩ := field_range c w s f n h
  obtain ⟨W, S, F, e1, e2⟩ := rec_at c n hc h1 h2
  obtain ⟨e3, e4, e5⟩ := field_inj c hc n _ _ _ _ _ _ h e2
  rw [e1, e3, e4, e5]

theorem where_back (c : Cfg) (a : Int) (hc : ok c) (h : 0 ≤ a) (h2 : a < 2 + c.2.2.2.1 + c.2.2.2.2 + c.1 * 4 + c.2.1 * 5 + c.2.2.1 * 3) :
    (∃ n, whereV c a = (0, n, 0, 0) ∧ wrap64 (n - 1) = a) ∨ (∃ n, whereV c a = (4, n, 0, 0) ∧ nodeV c n = (a, 0)) ∨ (∃ n, whereV c a = (5, n, 0, 0) ∧ edgeV c n = (a, 0)) ∨
      ∃ W S F, 1 ≤ W ∧ W ≤ 3 ∧ whereV c a = (W, S, F, 0) ∧ fieldV c W S F = (a, 0) := by
  have h' := hc
  simp only [ok] at h'
  by_cases h0 : a < 2
  · refine .inl ⟨a + 1, ?_, by rw [w64 (by omega) (by omega)]; omega⟩
    simp only [whereV]; rw [if_pos ⟨hc, h, h2⟩, if_pos h0]
  by_cases h3 : a < 2 + c.2.2.2.1
  · refine .inr (.inl ⟨a - 1, ?_, ?_⟩)
    · simp only [whereV]; rw [if_pos ⟨hc, h, h2⟩, if_neg h0, if_pos h3]
    · unfold nodeV; rw [if_pos ⟨hc, by omega, by omega⟩]; simp
  by_cases h4 : a < 2 + c.2.2.2.1 + c.2.2.2.2
  · refine .inr (.inr (.inl ⟨a - 1 - c.2.2.2.1, ?_, ?_⟩))
    · simp only [whereV]; rw [if_pos ⟨hc, h, h2⟩, if_neg h0, if_neg h3, if_pos h4]
    · unfold edgeV; rw [if_pos ⟨hc, by omega, by omega⟩]; simp only [Prod.mk.injEq, and_true]; omega
  · obtain ⟨W, S, F, e1, e2⟩ := rec_at c a hc (by omega) h2
    obtain ⟨_, d1, d2, _⟩ := field_dom c W S F a e2
    exact .inr (.inr (.inr ⟨W, S, F, d1, d2, e1, e2⟩))

def backTail (c : Cfg) (a : Int) : Option Bool :=
  (place_Where ((c.1, c.2.1, c.2.2.1, c.2.2.2.1, c.2.2.2.2), a)).bind fun r7 =>
  bif r7.snd.snd.2 != (0 : Int) then
    bif r7.1 == (0 : Int) then
      bif r7.snd.1 == (0 : Int) then
        bif r7.snd.snd.1 == (0 : Int) then
          bif Decidable.decide (a < (0 : Int)) then some Bool.true
          else (place_Size (c.1, c.2.1, c.2.2.1, c.2.2.2.1, c.2.2.2.2)).bind fun r8 => some (Decidable.decide (r8 ≤ a))
        else some Bool.false
      else some Bool.false
    else some Bool.false
  else
    bif r7.1 == (0 : Int) then some (wrap64 (r7.snd.1 - (1 : Int)) == a)
    else
      bif r7.1 == (4 : Int) then
        (place_Node ((c.1, c.2.1, c.2.2.1, c.2.2.2.1, c.2.2.2.2), r7.snd.1)).bind fun r9 =>
        bif r9.2 == (0 : Int) then some (r9.1 == a) else some Bool.false
      else
        bif r7.1 == (5 : Int) then
          (place_Edge ((c.1, c.2.1, c.2.2.1, c.2.2.2.1, c.2.2.2.2), r7.snd.1)).bind fun r10 =>
          bif r10.2 == (0 : Int) then some (r10.1 == a) else some Bool.false
        else
          (place_Field ((c.1, c.2.1, c.2.2.1, c.2.2.2.1, c.2.2.2.2), r7.1, r7.snd.1, r7.snd.snd.1)).bind fun r11 =>
          bif r11.2 == (0 : Int) then some (r11.1 == a) else some Bool.false

def backOne (c : Cfg) (r : Int × Int) (A B D : Int) (t : Option Bool) : Option Bool :=
  bif r.2 == (0 : Int) then
    (place_Where ((c.1, c.2.1, c.2.2.1, c.2.2.2.1, c.2.2.2.2), r.1)).bind fun r2 =>
    bif r2.snd.snd.2 != (0 : Int) then some Bool.false
    else bif r2.1 != A then some Bool.false
    else bif r2.snd.1 != B then some Bool.false
    else bif r2.snd.snd.1 != D then some Bool.false
    else t
  else t

theorem back_eq (x : Cfg × Int × Int × Int × Int × Int) : tendrillaw03_PlaceBack x = ((tendrillaw03_live (())).bind fun r0 => bif !r0 then some Bool.false else
    (place_Node ((x.1.1, x.1.2.1, x.1.2.2.1, x.1.2.2.2.1, x.1.2.2.2.2), x.2.1)).bind fun r1 => backOne x.1 r1 4 x.2.1 0
      ((place_Edge ((x.1.1, x.1.2.1, x.1.2.2.1, x.1.2.2.2.1, x.1.2.2.2.2), x.2.1)).bind fun r3 => backOne x.1 r3 5 x.2.1 0
        ((place_Field ((x.1.1, x.1.2.1, x.1.2.2.1, x.1.2.2.2.1, x.1.2.2.2.2), x.2.2.1, x.2.2.2.1, x.2.2.2.2.1)).bind fun r5 => backOne x.1 r5 x.2.2.1 x.2.2.2.1 x.2.2.2.2.1 (backTail x.1 x.2.2.2.2.2)))) := by kernel_rfl

theorem backTail_eq (c : Cfg) (a : Int) : backTail c a = some true := by
  unfold backTail
  simp only [show ((c.1, c.2.1, c.2.2.1, c.2.2.2.1, c.2.2.2.2) : Cfg) = c from rfl, where_eq, size_eq, node_eq, edge_eq, field_eq, Option.bind_some]
  by_cases h : ok c ∧ 0 ≤ a ∧ a < 2 + c.2.2.2.1 + c.2.2.2.2 + c.1 * 4 + c.2.1 * 5 + c.2.2.1 * 3
  · rcases where_back c a h.1 h.2.1 h.2.2 with ⟨n, e1, e2⟩ | ⟨n, e1, e2⟩ | ⟨n, e1, e2⟩ | ⟨W, S, F, d1, d2, e1, e2⟩
    · simp [e1, e2]
    · simp [e1, e2]
    · simp [e1, e2]
    · have n0 : W ≠ 0 := by omega
      have n4 : W ≠ 4 := by omega
      have n5 : W ≠ 5 := by omega
      simp only [e1, e2, nec, eqc, n0, n4, n5, if_true, if_false]
      simp
  · have e : whereV c a = (0, 0, 0, 1) := by simp only [whereV]; rw [if_neg h]
    rw [e]
    simp only [nec, eqc, dec]
    by_cases h0 : a < 0
    · simp [h0]
    · by_cases hc : ok c
      · simp [h0, hc]
        by_cases q : a < 2 + c.2.2.2.1 + c.2.2.2.2 + c.1 * 4 + c.2.1 * 5 + c.2.2.1 * 3
        · exact absurd ⟨hc, by omega, q⟩ h
        · omega
      · simp [h0, hc]
        omega

theorem backOne_eq (c : Cfg) (r : Int × Int) (A B D : Int) (h : r.2 = 0 → whereV c r.1 = (A, B, D, 0)) : backOne c r A B D (some true) = some true := by
  unfold backOne
  simp only [show ((c.1, c.2.1, c.2.2.1, c.2.2.2.1, c.2.2.2.2) : Cfg) = c from rfl, where_eq, Option.bind_some]
  by_cases h0 : r.2 = 0
  · simp [h0, h h0]
  · simp only [eqc, h0, if_false]

theorem PlaceBack (x : Cfg × Int × Int × Int × Int × Int) (_ : InRT [⟨true, .pair .int (.pair .int (.pair .int (.pair .int .int)))⟩, ⟨false, .int⟩, ⟨false, .int⟩, ⟨false, .int⟩, ⟨false, .int⟩, ⟨false, .int⟩] x) : tendrillaw03_PlaceBack x = some true := by
  obtain ⟨c, i, w, s, f, a⟩ := x
  rw [back_eq]
  simp only [live_eq, show ((c.1, c.2.1, c.2.2.1, c.2.2.2.1, c.2.2.2.2) : Cfg) = c from rfl, node_eq, edge_eq, field_eq, Option.bind_some, backTail_eq, Bool.not_true, cond_false]
  rw [backOne_eq c _ w s f fun h => field_where c w s f _ (Prod.ext rfl h), backOne_eq c _ 5 i 0 fun h => edge_where c i _ (Prod.ext rfl h), backOne_eq c _ 4 i 0 fun h => node_where c i _ (Prod.ext rfl h)]

theorem PlaceApart (x : Cfg × (Int × Int × Int) × Int × Int × Int) (_ : InRT [⟨true, .pair .int (.pair .int (.pair .int (.pair .int .int)))⟩, ⟨true, .pair .int (.pair .int .int)⟩, ⟨true, .pair .int (.pair .int .int)⟩] x) : tendrillaw03_PlaceApart x = some true := by
  obtain ⟨c, ⟨a0, a1, a2⟩, b0, b1, b2⟩ := x
  unfold tendrillaw03_PlaceApart
  simp only [live_eq, show ((c.1, c.2.1, c.2.2.1, c.2.2.2.1, c.2.2.2.2) : Cfg) = c from rfl, node_eq, edge_eq, field_eq, Option.bind_some, Bool.not_true, cond_false]
  have f1 : ∀ w s f, (fieldV c w s f).2 = 0 → 2 + c.2.2.2.1 + c.2.2.2.2 ≤ (fieldV c w s f).1 ∧ ok c := fun w s f h => ⟨(field_range c w s f _ (Prod.ext rfl h)).1, (field_dom c w s f _ (Prod.ext rfl h)).1⟩
  have g1 : (nodeV c a1).2 = 0 → (nodeV c a1).1 = a1 + 1 ∧ 1 ≤ a1 ∧ a1 ≤ c.2.2.2.1 := by
    unfold nodeV; split
    · rename_i h; intro _; exact ⟨rfl, h.2.1, h.2.2⟩
    · intro h; simp at h
  have g2 : (edgeV c b1).2 = 0 → (edgeV c b1).1 = c.2.2.2.1 + b1 + 1 ∧ 1 ≤ b1 ∧ b1 ≤ c.2.2.2.2 ∧ 1 ≤ c.2.2.2.1 := by
    unfold edgeV; split
    · rename_i h; intro _; have := h.1; simp only [ok] at this; exact ⟨rfl, h.2.1, h.2.2, by omega⟩
    · intro h; simp at h
  have inj : (fieldV c a0 a1 a2).2 = 0 → (fieldV c b0 b1 b2).2 = 0 → ((a0 == b0 && (a1 == b1 && (a2 == b2 && true))) = ((fieldV c a0 a1 a2).1 == (fieldV c b0 b1 b2).1)) := by
    intro h h'
    rw [Bool.eq_iff_iff]
    simp only [Bool.and_eq_true, beq_iff_eq, and_true]
    constructor
    · rintro ⟨rfl, rfl, rfl⟩; rfl
    · intro e
      exact field_inj c (f1 _ _ _ h).2 (fieldV c a0 a1 a2).1 _ _ _ _ _ _ (Prod.ext rfl h) (Prod.ext e.symm h')
  have p1 := f1 a0 a1 a2
  have p2 := f1 b0 b1 b2
  generalize fieldV c a0 a1 a2 = r1 at *
  generalize fieldV c b0 b1 b2 = r2 at *
  generalize nodeV c a1 = r3 at *
  generalize edgeV c b1 = r4 at *
  clear f1
  have okc : ok c → 1 ≤ c.2.2.2.1 ∧ 1 ≤ c.2.2.2.2 := fun h => by simp only [ok] at h; omega
  have key : ∀ (b : Bool), (!b == b) = false := by decide
  by_cases z1 : r1.2 = 0 <;> by_cases z2 : r2.2 = 0 <;> by_cases z3 : r3.2 = 0 <;> by_cases z4 : r4.2 = 0
  all_goals (try have q1 := p1 z1)
  all_goals (try have q3 := g1 z3)
  all_goals (try have q4 := g2 z4)
  all_goals (try have qo := okc q1.2)
  all_goals (try rw [inj z1 z2, key])
  all_goals simp only [z1, z2, z3, z4, eqc, nec, dec, cond_false, if_true, if_false]
  all_goals (repeat' split)
  all_goals first | rfl | (simp; done) | (exfalso; omega) | (simp; omega)
end Go.Proofs.Ytfnkomlakgiicad.Pure
