/- Where a word is, as place and its reference tell it; three laws over it; no condition. -/
import Derived.Test.YtcoiboghdmmdcadPurePlaceT
set_option linter.unusedVariables false
set_option linter.unusedSimpArgs false
namespace Go.Proofs.Ytcoiboghdmmdcad.Pure
open Go Go.RowKit Go.Proofs.YtcoiboghdmmdcadFn Go.Proofs.YtcoiboghdmmdcadPx

abbrev Cfg := Int × Int × Int × Int × Int

/-- What stands at a word. -/
def whereV (c : Cfg) (at' : Int) : Int × Int × Int × Int :=
  if ok c ∧ 0 ≤ at' ∧ at' < 2 + c.2.2.2.1 + c.2.2.2.2 + c.1 * 4 + c.2.1 * 5 + c.2.2.1 * 3 then
    (if at' < 2 then (0, at' + 1, 0, 0)
    else if at' < 2 + c.2.2.2.1 then (4, at' - 1, 0, 0)
    else if at' < 2 + c.2.2.2.1 + c.2.2.2.2 then (5, at' - 1 - c.2.2.2.1, 0, 0)
    else if at' < 2 + c.2.2.2.1 + c.2.2.2.2 + c.1 * 4 then (1, (at' - (2 + c.2.2.2.1 + c.2.2.2.2)) / 4, (at' - (2 + c.2.2.2.1 + c.2.2.2.2)) % 4, 0)
    else if at' < 2 + c.2.2.2.1 + c.2.2.2.2 + c.1 * 4 + c.2.1 * 5 then (2, (at' - (2 + c.2.2.2.1 + c.2.2.2.2 + c.1 * 4)) / 5, (at' - (2 + c.2.2.2.1 + c.2.2.2.2 + c.1 * 4)) % 5, 0)
    else (3, (at' - (2 + c.2.2.2.1 + c.2.2.2.2 + c.1 * 4 + c.2.1 * 5)) / 3, (at' - (2 + c.2.2.2.1 + c.2.2.2.2 + c.1 * 4 + c.2.1 * 5)) % 3, 0))
  else (0, 0, 0, 1)

theorem kinds_some (c : Cfg) : ∃ r, place_kinds c = some r := ⟨_, rfl⟩



theorem node_iff (c : Cfg) (i a : Int) : nodeV c i = (a, 0) ↔ ok c ∧ 1 ≤ i ∧ i ≤ c.2.2.2.1 ∧ i + 1 = a := by
  unfold nodeV
  split
  · rename_i h; simp [h.1, h.2.1, h.2.2]
  · rename_i h; simp only [Prod.mk.injEq, Int.reduceEq, and_false, false_iff]; intro q; exact h ⟨q.1, q.2.1, q.2.2.1⟩
theorem edge_iff (c : Cfg) (i a : Int) : edgeV c i = (a, 0) ↔ ok c ∧ 1 ≤ i ∧ i ≤ c.2.2.2.2 ∧ c.2.2.2.1 + i + 1 = a := by
  unfold edgeV
  split
  · rename_i h; simp [h.1, h.2.1, h.2.2]
  · rename_i h; simp only [Prod.mk.injEq, Int.reduceEq, and_false, false_iff]; intro q; exact h ⟨q.1, q.2.1, q.2.2.1⟩

/-- The place of a word among the records: kind, slot and field, as one number. -/
def rk (w s f : Int) : Int := (w * 65 + s) * 6 + f

theorem field_inj (c : Cfg) (hc : ok c) (a w s f w' s' f' : Int) (h : fieldV c w s f = (a, 0)) (h' : fieldV c w' s' f' = (a, 0)) : w = w' ∧ s = s' ∧ f = f' := by
  obtain ⟨N, E, P, I, J⟩ := c
  have h0 := hc
  simp only [ok] at h0
  unfold fieldV at h h'
  rw [if_pos hc] at h h'
  simp only at h h'
  split at h <;> (try split at h) <;> (try split at h) <;> split at h' <;> (try split at h') <;> (try split at h') <;> simp only [Prod.mk.injEq] at h h' <;> omega

theorem field_dom (c : Cfg) (w s f a : Int) (h : fieldV c w s f = (a, 0)) : ok c ∧ 1 ≤ w ∧ w ≤ 3 ∧ 0 ≤ s ∧ s < 64 ∧ 0 ≤ f ∧ f < 5 := by
  obtain ⟨N, E, P, I, J⟩ := c
  unfold fieldV at h
  split at h
  · rename_i hc
    have h0 := hc
    simp only [ok] at h0
    simp only at h
    refine ⟨hc, ?_⟩
    split at h <;> (try split at h) <;> (try split at h) <;> simp only [Prod.mk.injEq] at h <;> omega
  · simp at h

theorem field_err (c : Cfg) (w s f : Int) : (fieldV c w s f).2 = 0 ∨ (fieldV c w s f).2 = 1 := by
  unfold fieldV
  split
  · split
    · exact .inl rfl
    · split
      · exact .inl rfl
      · split
        · exact .inl rfl
        · exact .inr rfl
  · exact .inr rfl

theorem rec_at (c : Cfg) (a : Int) (hc : ok c) (h1 : 2 + c.2.2.2.1 + c.2.2.2.2 ≤ a) (h2 : a < 2 + c.2.2.2.1 + c.2.2.2.2 + c.1 * 4 + c.2.1 * 5 + c.2.2.1 * 3) :
    ∃ W S F, whereV c a = (W, S, F, 0) ∧ fieldV c W S F = (a, 0) := by
  obtain ⟨N, E, P, I, J⟩ := c
  have h' := hc
  simp only [ok] at h'
  simp only at h1 h2
  by_cases h5 : a < 2 + I + J + N * 4
  · refine ⟨1, (a - (2 + I + J)) / 4, (a - (2 + I + J)) % 4, ?_, ?_⟩
    · simp only [whereV]
      rw [if_pos ⟨hc, by omega, by omega⟩, if_neg (by omega), if_neg (by omega), if_neg (by omega), if_pos h5]
    · unfold fieldV
      rw [if_pos hc]
      simp only
      rw [if_pos ⟨trivial, by omega, by omega, by omega, by omega⟩]
      simp only [Prod.mk.injEq, and_true]
      omega
  · by_cases h6 : a < 2 + I + J + N * 4 + E * 5
    · refine ⟨2, (a - (2 + I + J + N * 4)) / 5, (a - (2 + I + J + N * 4)) % 5, ?_, ?_⟩
      · simp only [whereV]
        rw [if_pos ⟨hc, by omega, by omega⟩, if_neg (by omega), if_neg (by omega), if_neg (by omega), if_neg h5, if_pos h6]
      · unfold fieldV
        rw [if_pos hc]
        simp only
        rw [if_neg (fun h => by have := h.1; simp at this), if_pos ⟨trivial, by omega, by omega, by omega, by omega⟩]
        simp only [Prod.mk.injEq, and_true]
        omega
    · refine ⟨3, (a - (2 + I + J + N * 4 + E * 5)) / 3, (a - (2 + I + J + N * 4 + E * 5)) % 3, ?_, ?_⟩
      · simp only [whereV]
        rw [if_pos ⟨hc, by omega, by omega⟩, if_neg (by omega), if_neg (by omega), if_neg (by omega), if_neg h5, if_neg h6]
      · unfold fieldV
        rw [if_pos hc]
        simp only
        rw [if_neg (fun h => by have := h.1; simp at this), if_neg (fun h => by have := h.1; simp at this), if_pos ⟨trivial, by omega, by omega, by omega, by omega⟩]
        simp only [Prod.mk.injEq, and_true]
        omega

theorem node_where (c : Cfg) (i n : Int) (h : nodeV c i = (n, 0)) : whereV c n = (4, i, 0, 0) := by
  obtain ⟨N, E, P, I, J⟩ := c
  unfold nodeV at h
  split at h
  · rename_i hc
    obtain ⟨hc, h1, h2⟩ := hc
    have h' := hc
    simp only [ok] at h'
    simp only [Prod.mk.injEq, and_true] at h h1 h2
    subst h
    simp only [whereV]
    rw [if_pos ⟨hc, by omega, by omega⟩, if_neg (by omega), if_pos (by omega)]
    simp
  · simp at h

theorem edge_where (c : Cfg) (i n : Int) (h : edgeV c i = (n, 0)) : whereV c n = (5, i, 0, 0) := by
  obtain ⟨N, E, P, I, J⟩ := c
  unfold edgeV at h
  split at h
  · rename_i hc
    obtain ⟨hc, h1, h2⟩ := hc
    have h' := hc
    simp only [ok] at h'
    simp only [Prod.mk.injEq, and_true] at h h1 h2
    subst h
    simp only [whereV]
    rw [if_pos ⟨hc, by omega, by omega⟩, if_neg (by omega), if_neg (by omega), if_pos (by omega)]
    simp only [Prod.mk.injEq, and_true, true_and]
    omega
  · simp at h

theorem field_range (c : Cfg) (w s f a : Int) (h : fieldV c w s f = (a, 0)) : 2 + c.2.2.2.1 + c.2.2.2.2 ≤ a ∧ a < 2 + c.2.2.2.1 + c.2.2.2.2 + c.1 * 4 + c.2.1 * 5 + c.2.2.1 * 3 := by
  obtain ⟨N, E, P, I, J⟩ := c
  unfold fieldV at h
  split at h
  · rename_i hc
    have h0 := hc
    simp only [ok] at h0
    simp only at h ⊢
    split at h <;> (try split at h) <;> (try split at h) <;> simp only [Prod.mk.injEq] at h <;> omega
  · simp at h

theorem field_where (c : Cfg) (w s f n : Int) (h : fieldV c w s f = (n, 0)) : whereV c n = (w, s, f, 0) := by
  obtain ⟨hc, _⟩ := field_dom c w s f n h
  obtain ⟨h1, h2⟩ := field_range c w s f n h
  obtain ⟨W, S, F, e1, e2⟩ := rec_at c n hc h1 h2
  obtain ⟨e3, e4, e5⟩ := field_inj c hc n _ _ _ _ _ _ h e2
  rw [e1, e3, e4, e5]

theorem where_back (c : Cfg) (a : Int) (hc : ok c) (h : 0 ≤ a) (h2 : a < 2 + c.2.2.2.1 + c.2.2.2.2 + c.1 * 4 + c.2.1 * 5 + c.2.2.1 * 3) :
    (∃ n, whereV c a = (0, n, 0, 0) ∧ wrap64 (n - 1) = a) ∨ (∃ n, whereV c a = (4, n, 0, 0) ∧ nodeV c n = (a, 0)) ∨ (∃ n, whereV c a = (5, n, 0, 0) ∧ edgeV c n = (a, 0)) ∨
      ∃ W S F, 1 ≤ W ∧ W ≤ 3 ∧ whereV c a = (W, S, F, 0) ∧ fieldV c W S F = (a, 0) := by
  have h' := hc
  simp only [ok] at h'
  by_cases h0 : a < 2
  · refine .inl ⟨a + 1, ?_, by rw [w64 (by omega) (by omega)]; omega⟩
    simp only [whereV]; rw [if_pos ⟨hc, h, h2⟩, if_pos h0]
  by_cases h3 : a < 2 + c.2.2.2.1
  · refine .inr (.inl ⟨a - 1, ?_, ?_⟩)
    · simp only [whereV]; rw [if_pos ⟨hc, h, h2⟩, if_neg h0, if_pos h3]
    · unfold nodeV; rw [if_pos ⟨hc, by omega, by omega⟩]; simp
  by_cases h4 : a < 2 + c.2.2.2.1 + c.2.2.2.2
  · refine .inr (.inr (.inl ⟨a - 1 - c.2.2.2.1, ?_, ?_⟩))
    · simp only [whereV]; rw [if_pos ⟨hc, h, h2⟩, if_neg h0, if_neg h3, if_pos h4]
    · unfold edgeV; rw [if_pos ⟨hc, by omega, by omega⟩]; simp only [Prod.mk.injEq, and_true]; omega
  · obtain ⟨W, S, F, e1, e2⟩ := rec_at c a hc (by omega) h2
    obtain ⟨_, d1, d2, _⟩ := field_dom c W S F a e2
    exact .inr (.inr (.inr ⟨W, S, F, d1, d2, e1, e2⟩))
end Go.Proofs.Ytcoiboghdmmdcad.Pure
