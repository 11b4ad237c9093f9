/- Words of memory, and fields of records, as chain and its reference find them; no condition. -/
import Derived.Test.YthnbleblmpnfhaaPureTag
import Derived.Test.YthnbleblmpnfhaaPurePlaceT
set_option linter.unusedVariables false
set_option linter.unusedSimpArgs false
namespace Go.Proofs.Ythnbleblmpnfhaa.Pure
open Go Go.RowKit Go.Proofs.YthnbleblmpnfhaaFn Go.Proofs.YthnbleblmpnfhaaPx

theorem ct {p : Prop} [Decidable p] (h : p) {α : Type} (x y : α) : (bif decide p then x else y) = x := by simp [h]
theorem cf {p : Prop} [Decidable p] (h : ¬ p) {α : Type} (x y : α) : (bif decide p then x else y) = y := by simp [h]
theorem etaC (c : Cfg) : ((c.1, c.2.1, c.2.2.1, c.2.2.2.1, c.2.2.2.2) : Cfg) = c := rfl
def R64 (x : Int) : Prop := -9223372036854775808 ≤ x ∧ x ≤ 9223372036854775807

def loadV (m : List Int) (a : Int) : Int × Int := if 0 ≤ a ∧ a < (m.length : Int) then (m.getD a.toNat 0, 0) else (0, 1)
def storeV (m : List Int) (a v : Int) : List Int × Int := if 0 ≤ a ∧ a < (m.length : Int) then (m.set a.toNat v, 0) else ([], 1)
theorem in_eq (m : List Int) (a : Int) : mem_in (m, a) = some (decide (0 ≤ a ∧ a < (m.length : Int))) := by
  unfold mem_in
  simp only [dec]
  by_cases h : 0 ≤ a
  · rw [if_pos h]; congr 1; rw [decide_eq_decide]; exact ⟨fun q => ⟨h, q⟩, fun q => q.2⟩
  · rw [if_neg h, decide_eq_false (fun q : 0 ≤ a ∧ a < (m.length : Int) => h q.1)]
theorem load_eq (m : List Int) (a : Int) : mem_Load (m, a) = some (loadV m a) := by
  unfold mem_Load loadV
  simp only [in_eq, Option.bind_some]
  by_cases h : 0 ≤ a ∧ a < (m.length : Int)
  · rw [decide_eq_true h, if_pos h, Bool.not_true, cond_false, ct h.1, ct h.2]
  · rw [decide_eq_false h, if_neg h, Bool.not_false, cond_true]
theorem store_eq (m : List Int) (a v : Int) (hm : m.length ≤ 1000000) : mem_Store (m, a, v) = some (storeV m a v) := by
  unfold mem_Store storeV
  simp only [in_eq, Option.bind_some, clone_eq m hm]
  by_cases h : 0 ≤ a ∧ a < (m.length : Int)
  · rw [decide_eq_true h, if_pos h, Bool.not_true, cond_false, ct h.1, ct h.2]
  · rw [decide_eq_false h, if_neg h, Bool.not_false, cond_true]

def sizeC (c : Cfg) : Int := 2 + c.2.2.2.1 + c.2.2.2.2 + c.1 * 4 + c.2.1 * 5 + c.2.2.1 * 3
def slot (r : Int) : Int := (unpackV r).1
def whereC (c : Cfg) (m : List Int) (w r f : Int) : Int × Int := if (unpackV r).2.2 = 0 then (if (m.length : Int) = (if ok c then sizeC c else 0) then fieldV c w (slot r) f else (0, 1)) else (0, 1)
theorem cwhere_eq (c : Cfg) (m : List Int) (w r f : Int) (hr : R64 r) : chain_where (c, m, w, r, f) = some (whereC c m w r f) := by
  unfold chain_where whereC slot
  simp only [etaC, unpack_eq r hr, size_eq, field_eq, Option.bind_some, nec]
  by_cases e : (unpackV r).2.2 = 0
  · rw [if_pos e, if_pos e]
    have : (if ok c then 2 + c.2.2.2.1 + c.2.2.2.2 + c.1 * 4 + c.2.1 * 5 + c.2.2.1 * 3 else 0) = (if ok c then sizeC c else 0) := rfl
    rw [this]
    by_cases g : (m.length : Int) = (if ok c then sizeC c else 0)
    · rw [if_pos g, if_pos g]
    · rw [if_neg g, if_neg g]
  · rw [if_neg e, if_neg e]
def fieldC (c : Cfg) (m : List Int) (w r f : Int) : Int × Int := if (whereC c m w r f).2 = 0 then loadV m (whereC c m w r f).1 else (0, (whereC c m w r f).2)
def putC (c : Cfg) (m : List Int) (w r f v : Int) : List Int × Int := if (whereC c m w r f).2 = 0 then storeV m (whereC c m w r f).1 v else ([], (whereC c m w r f).2)
theorem cfield_eq (c : Cfg) (m : List Int) (w r f : Int) (hr : R64 r) : chain_Field (c, m, w, r, f) = some (fieldC c m w r f) := by
  unfold chain_Field fieldC
  simp only [etaC, cwhere_eq c m w r f hr, load_eq, Option.bind_some, nec]
  by_cases e : (whereC c m w r f).2 = 0
  · rw [if_pos e, if_pos e]
  · rw [if_neg e, if_neg e]
theorem cput_eq (c : Cfg) (m : List Int) (w r f v : Int) (hr : R64 r) (hm : m.length ≤ 1000000) : chain_Put (c, m, w, r, f, v) = some (putC c m w r f v) := by
  unfold chain_Put putC
  simp only [etaC, cwhere_eq c m w r f hr, store_eq m _ _ hm, Option.bind_some, nec]
  by_cases e : (whereC c m w r f).2 = 0
  · rw [if_pos e, if_pos e]
  · rw [if_neg e, if_neg e]

theorem fieldV_no {c : Cfg} (h : ¬ ok c) (w s f : Int) : fieldV c w s f = (0, 1) := if_neg h
theorem rat_eq (c : Cfg) (m : List Int) (w r f : Int) (hr : R64 r) : tendrilref14_at (c, m, w, r, f) = some (whereC c m w r f) := by
  unfold tendrilref14_at whereC slot
  simp only [etaC, runpack_eq r hr, rcheck_eq, rsize_eq, size_eq, rfield_eq, Option.bind_some, nec]
  by_cases hc : ok c
  · rw [if_pos hc, if_pos rfl, if_pos hc, show 2 + c.2.2.2.1 + c.2.2.2.2 + c.1 * 4 + c.2.1 * 5 + c.2.2.1 * 3 = sizeC c from rfl, if_pos hc]
    by_cases g : (m.length : Int) = sizeC c
    · rw [if_pos g, if_pos g]
      by_cases e : (unpackV r).2.2 = 0
      · rw [if_pos e, if_pos e]
      · rw [if_neg e, if_neg e]
    · rw [if_neg g, if_neg g]
      split <;> rfl
  · rw [if_neg hc, if_neg (by decide), if_neg hc]
    by_cases e : (unpackV r).2.2 = 0
    · rw [if_pos e]
      split
      · rw [fieldV_no hc]
      · rfl
    · rw [if_neg e]

/-- What is known of a field that is. -/
theorem fieldV_ok {c : Cfg} {w s f a : Int} (h : fieldV c w s f = (a, 0)) : ok c ∧ (0 ≤ s ∧ s < 64) ∧ 2 + c.2.2.2.1 + c.2.2.2.2 ≤ a ∧ a < sizeC c ∧ ∀ s' a', fieldV c w s' f = (a', 0) → (a' = a ↔ s' = s) := by
  obtain ⟨N, E, P, I, J⟩ := c
  by_cases hc : ok (N, E, P, I, J)
  · have h0 := hc
    simp only [ok] at h0
    refine ⟨hc, ?_⟩
    unfold sizeC
    unfold fieldV at h ⊢
    rw [if_pos hc] at h
    simp only [if_pos hc]
    by_cases c1 : w = 1 ∧ 0 ≤ s ∧ s < N ∧ 0 ≤ f ∧ f < 4
    · rw [if_pos c1] at h
      obtain ⟨rfl, c1⟩ := c1
      simp only [Prod.mk.injEq, and_true] at h
      refine ⟨by omega, by omega, by omega, fun s' a' h' => ?_⟩
      rw [if_neg (show ¬ ((1 : Int) = 2 ∧ _) from fun q => absurd q.1 (by decide)), if_neg (show ¬ ((1 : Int) = 3 ∧ _) from fun q => absurd q.1 (by decide))] at h'
      split at h'
      · simp only [Prod.mk.injEq, and_true] at h'; omega
      · simp at h'
    · rw [if_neg c1] at h
      by_cases c2 : w = 2 ∧ 0 ≤ s ∧ s < E ∧ 0 ≤ f ∧ f < 5
      · rw [if_pos c2] at h
        obtain ⟨rfl, c2⟩ := c2
        simp only [Prod.mk.injEq, and_true] at h
        refine ⟨by omega, by omega, by omega, fun s' a' h' => ?_⟩
        rw [if_neg (show ¬ ((2 : Int) = 1 ∧ _) from fun q => absurd q.1 (by decide)), if_neg (show ¬ ((2 : Int) = 3 ∧ _) from fun q => absurd q.1 (by decide))] at h'
        split at h'
        · simp only [Prod.mk.injEq, and_true] at h'; omega
        · simp at h'
      · rw [if_neg c2] at h
        by_cases c3 : w = 3 ∧ 0 ≤ s ∧ s < P ∧ 0 ≤ f ∧ f < 3
        · rw [if_pos c3] at h
          obtain ⟨rfl, c3⟩ := c3
          simp only [Prod.mk.injEq, and_true] at h
          refine ⟨by omega, by omega, by omega, fun s' a' h' => ?_⟩
          rw [if_neg (show ¬ ((3 : Int) = 1 ∧ _) from fun q => absurd q.1 (by decide)), if_neg (show ¬ ((3 : Int) = 2 ∧ _) from fun q => absurd q.1 (by decide))] at h'
          split at h'
          · simp only [Prod.mk.injEq, and_true] at h'; omega
          · simp at h'
        · rw [if_neg c3] at h
          simp at h
  · rw [fieldV_no hc] at h; simp at h

/-- A record's field that is there. -/
theorem where_ok {c : Cfg} {m : List Int} {w r f : Int} (h : (whereC c m w r f).2 = 0) : ok c ∧ (m.length : Int) = sizeC c ∧ (unpackV r).2.2 = 0 ∧ fieldV c w (slot r) f = ((whereC c m w r f).1, 0) := by
  unfold whereC at h ⊢
  by_cases e : (unpackV r).2.2 = 0
  · rw [if_pos e] at h ⊢
    by_cases g : (m.length : Int) = (if ok c then sizeC c else 0)
    · rw [if_pos g] at h ⊢
      have hf : fieldV c w (slot r) f = ((fieldV c w (slot r) f).1, 0) := by rw [← h]
      obtain ⟨hc, _⟩ := fieldV_ok hf
      rw [if_pos hc] at g
      exact ⟨hc, g, e, hf⟩
    · rw [if_neg g] at h; exact absurd h (by decide)
  · rw [if_neg e] at h; exact absurd h (by decide)
theorem where_mk {c : Cfg} {m : List Int} {w r f a : Int} (hc : ok c) (hm : (m.length : Int) = sizeC c) (e : (unpackV r).2.2 = 0) (hf : fieldV c w (slot r) f = (a, 0)) : whereC c m w r f = (a, 0) := by
  unfold whereC
  rw [if_pos e, if_pos hc, if_pos hm, hf]
theorem where_len (c : Cfg) (m m' : List Int) (w r f : Int) (h : m'.length = m.length) : whereC c m' w r f = whereC c m w r f := by
  unfold whereC; rw [h]
theorem where_range {c : Cfg} {m : List Int} {w r f : Int} (h : (whereC c m w r f).2 = 0) : 0 ≤ (whereC c m w r f).1 ∧ (whereC c m w r f).1 < (m.length : Int) := by
  obtain ⟨h1, h2, h3, h4⟩ := where_ok h
  obtain ⟨_, _, g1, g2, _⟩ := fieldV_ok h4
  have := h1.2.2.2
  omega
theorem field_where (c : Cfg) (m : List Int) (w r f : Int) : (fieldC c m w r f).2 = (whereC c m w r f).2 := by
  unfold fieldC
  by_cases e : (whereC c m w r f).2 = 0
  · rw [if_pos e, e]
    unfold loadV
    rw [if_pos (where_range e)]
  · rw [if_neg e]
theorem field_ok {c : Cfg} {m : List Int} {w r f : Int} (h : (whereC c m w r f).2 = 0) : fieldC c m w r f = (m.getD (whereC c m w r f).1.toNat 0, 0) := by
  unfold fieldC loadV
  rw [if_pos h, if_pos (where_range h)]
theorem put_ok {c : Cfg} {m : List Int} {w r f : Int} (v : Int) (h : (whereC c m w r f).2 = 0) : putC c m w r f v = (m.set (whereC c m w r f).1.toNat v, 0) := by
  unfold putC storeV
  rw [if_pos h, if_pos (where_range h)]
theorem r14field_eq (c : Cfg) (m : List Int) (w r f : Int) (hr : R64 r) : tendrilref14_Field (c, m, w, r, f) = some (fieldC c m w r f) := by
  unfold tendrilref14_Field fieldC
  simp only [etaC, rat_eq c m w r f hr, Option.bind_some, nec]
  by_cases e : (whereC c m w r f).2 = 0
  · have g := where_range e
    rw [if_pos e, if_pos e, ct g.1, ct g.2, loadV, if_pos g]
  · rw [if_neg e, if_neg e]

/-- A field put, seen through any reference. -/
theorem field_set {c : Cfg} {m : List Int} {w r f : Int} (v : Int) (h : (whereC c m w r f).2 = 0) (x : Int) :
    fieldC c (m.set (whereC c m w r f).1.toNat v) w x f = if (whereC c m w x f).2 = 0 ∧ slot x = slot r then (v, 0) else fieldC c m w x f := by
  have hl : whereC c (m.set (whereC c m w r f).1.toNat v) w x f = whereC c m w x f := where_len _ _ _ _ _ _ (by simp)
  obtain ⟨h1, h2, h3, h4⟩ := where_ok h
  obtain ⟨_, _, g1, g2, g3⟩ := fieldV_ok h4
  by_cases hx : (whereC c m w x f).2 = 0
  · obtain ⟨k1, k2, k3, k4⟩ := where_ok hx
    have hr := where_range h
    have hr' := where_range hx
    have hg := g3 _ _ k4
    rw [field_ok (m := m) hx, field_ok (by rw [hl]; exact hx), hl, getD_set _ _ _ _ _ (by omega)]
    by_cases hs : slot x = slot r
    · rw [if_pos (by rw [hg.2 hs]), if_pos ⟨hx, hs⟩]
    · rw [if_neg (fun e => hs (hg.1 (by omega))), if_neg (fun q => hs q.2)]
  · rw [if_neg (fun q => hx q.1)]
    unfold fieldC
    rw [hl, if_neg hx, if_neg hx]
/-- A word put ahead of all records. -/
theorem field_low {c : Cfg} {m : List Int} {w f : Int} (h : Nat) (v : Int) (hh : (h : Int) < 2 + c.2.2.2.1 + c.2.2.2.2) (x : Int) : fieldC c (m.set h v) w x f = fieldC c m w x f := by
  have hl : whereC c (m.set h v) w x f = whereC c m w x f := where_len _ _ _ _ _ _ (by simp)
  by_cases hx : (whereC c m w x f).2 = 0
  · obtain ⟨k1, k2, k3, k4⟩ := where_ok hx
    obtain ⟨_, _, g1, g2, g3⟩ := fieldV_ok k4
    have hr' := where_range hx
    rw [field_ok (m := m) hx, field_ok (by rw [hl]; exact hx), hl]
    have hz : h < m.length := by omega
    rw [getD_set _ _ _ _ _ hz, if_neg (by omega)]
  · unfold fieldC
    rw [hl, if_neg hx, if_neg hx]

theorem slot_range (r : Int) : 0 ≤ slot r ∧ slot r < 1024 := by
  unfold slot unpackV
  split
  · simp only; omega
  · simp only; omega
theorem where_slot {c : Cfg} {m : List Int} {w r f : Int} (h : (whereC c m w r f).2 = 0) : 0 ≤ slot r ∧ slot r < 64 := by
  obtain ⟨_, _, _, h4⟩ := where_ok h
  exact (fieldV_ok h4).2.1
theorem where_ne {c : Cfg} {m : List Int} {w r f : Int} (h : (whereC c m w r f).2 = 0) : 1 ≤ r ∧ r ≤ 1125899906842624 := by
  obtain ⟨_, _, h3, _⟩ := where_ok h
  unfold unpackV at h3
  split at h3
  · assumption
  · exact absurd h3 (by decide)
end Go.Proofs.Ythnbleblmpnfhaa.Pure
