/- Any access, as ask does it, is what the reference does; no condition. -/
import Derived.Test.YtcoiboghdmmdcadGreatPureAsk
set_option linter.unusedVariables false
set_option linter.unusedSimpArgs false
namespace Go.Proofs.YtcoiboghdmmdcadGreat.Pure
open Go Go.RowKit Go.Proofs.YtcoiboghdmmdcadGreatFn Go.Proofs.YtcoiboghdmmdcadGreatPx

theorem etaC' (c : Cfg) : ((c.1, c.2.1, c.2.2.1, c.2.2.2.1, c.2.2.2.2) : Cfg) = c := rfl
theorem rl24 (l : List Int) (hn : l.length ≤ 1000000) : ∀ (k i : Nat), i ≤ l.length → l.length < k + i → tendrilref15_Check_L24 k l l.length i = some (chk (∀ v ∈ l.drop i, okL v))
  | 0, i, hi, hk => by omega
  | k + 1, i, hi, hk => by
    rw [tendrilref15_Check_L24]
    by_cases hlt : i < l.length
    · have e0 := drop_cons l i 0 (by omega)
      rw [ct (by omega), ct (by omega), ct (by omega), Int.toNat_natCast, e0]
      by_cases a : l.getD i 0 < 0
      · rw [ct a, chk_neg (fun q => absurd (q _ List.mem_cons_self).1 (by omega))]
      · rw [cf a]
        by_cases b : 4611686018427387904 < l.getD i 0
        · rw [ct b, chk_neg (fun q => absurd (q _ List.mem_cons_self).2 (by omega))]
        · rw [cf b, wi (by omega), rl24 l hn k (i + 1) (by omega) (by omega)]
          congr 1
          refine chk_congr ⟨fun q v hv => ?_, fun q v hv => q v (List.mem_cons_of_mem _ hv)⟩
          rcases List.mem_cons.1 hv with rfl | hv
          · exact ⟨by omega, by omega⟩
          · exact q v hv
    · have : i = l.length := by omega
      subst this
      rw [cf (by omega), List.drop_of_length_le (by omega), chk_pos]
      intro v hv; cases hv

theorem rl10 (k : Nat) (c : Cfg) (m l : List Int) (a b d : Pool) (y : Int) (z : List Int) (hn : l.length ≤ 1000) (hk : 2000 ≤ k) :
    tendrilref15_Check_L10 (k + 4) 0 c.1 c.2.1 c.2.2.1 c.2.2.2.1 c.2.2.2.2 m l a.1 a.2.1 a.2.2.1 a.2.2.2 b.1 b.2.1 b.2.2.1 b.2.2.2 d.1 d.2.1 d.2.2.1 d.2.2.2 y z = some (chk (((a.1.length : Int) = c.1 ∧ (b.1.length : Int) = c.2.1 ∧ (d.1.length : Int) = c.2.2.1) ∧ ∀ v ∈ l, okL v)) := by
  rw [tendrilref15_Check_L10, ct (by decide), w01, cap_eq, if_pos rfl, Option.bind_some, cf (by decide), cf (by decide), ct (by rfl), nec]
  by_cases h1 : (a.1.length : Int) = c.1
  · rw [if_pos h1, tendrilref15_Check_L10, ct (by decide), w12, cap_eq, if_neg (by decide), if_pos rfl, Option.bind_some, cf (by decide), ct (by rfl), nec]
    by_cases h2 : (b.1.length : Int) = c.2.1
    · rw [if_pos h2, tendrilref15_Check_L10, ct (by decide), w23, cap_eq, if_neg (by decide), if_neg (by decide), if_pos rfl, Option.bind_some, ct (by rfl), nec]
      by_cases h3 : (d.1.length : Int) = c.2.2.1
      · rw [if_pos h3, tendrilref15_Check_L10, cf (by decide)]
        have := rl24 l (by omega) k 0 (by omega) (by omega)
        rw [show ((0 : Nat) : Int) = 0 from rfl] at this
        rw [this, List.drop_zero]
        congr 1
        exact chk_congr ⟨fun q => ⟨⟨h1, h2, h3⟩, q⟩, fun q => q.2⟩
      · rw [if_neg h3, chk_neg (fun q => h3 q.1.2.2)]
    · rw [if_neg h2, chk_neg (fun q => h2 q.1.2.1)]
  · rw [if_neg h1, chk_neg (fun q => h1 q.1.1)]

theorem rshape_eq (c : Cfg) (s : Sh) (h : fewS s) : tendrilref15_Check (c, s) = some (chk (okSh c s)) := by
  unfold tendrilref15_Check tendrilref15_Check_K
  simp only [etaS, etaC', rcheck_eq, rcheckA_eq s h, rsize_eq, size_eq, Option.bind_some, nec]
  by_cases hc : ok c
  · rw [if_pos hc, if_pos rfl]
    have hI : wrap64 (c.2.2.2.1 + 1) = c.2.2.2.1 + 1 := w64 (by have := hc.2.2.2.1; omega) (by have := hc.2.2.2.1; omega)
    by_cases ho : okA s
    · rw [chk_pos ho, if_pos rfl]
      simp only [hI, if_pos hc, show 2 + c.2.2.2.1 + c.2.2.2.2 + c.1 * 4 + c.2.1 * 5 + c.2.2.1 * 3 = sizeC c from rfl]
      by_cases h1 : (s.1.length : Int) = sizeC c
      · rw [if_pos h1]
        by_cases h2 : (s.2.1.length : Int) = c.2.2.2.1 + 1
        · rw [if_pos h2]
          have := rl10 1999996 c s.1 s.2.1 s.2.2.1.1 s.2.2.1.2.1 s.2.2.1.2.2 s.2.2.2.1 s.2.2.2.2 h.2.2.2 (by omega)
          rw [show (1999996 + 4 : Nat) = 2000000 from rfl] at this
          rw [this]
          congr 1
          exact chk_congr ⟨fun q => ⟨hc, ho, h1, h2, q⟩, fun q => q.2.2.2.2⟩
        · rw [if_neg h2, chk_neg (fun q => h2 q.2.2.2.1)]
      · rw [if_neg h1, chk_neg (fun q => h1 q.2.2.1)]
    · rw [chk_neg ho, if_neg (by decide), chk_neg (fun q => ho q.2.1)]
  · rw [if_neg hc, if_neg (by decide), chk_neg (fun q => hc q.1)]

theorem rlcheck_eq (v : Int) : tendrilref08_Check v = some (if okL v then 0 else 1) := by
  unfold tendrilref08_Check
  simp only [dec]
  by_cases a : v < 0
  · rw [if_pos a, if_neg (fun h : okL v => absurd h.1 (by omega))]
  · rw [if_neg a]
    by_cases b : 4611686018427387904 < v
    · rw [if_pos b, if_neg (fun h : okL v => absurd h.2 (by omega))]
    · rw [if_neg b, if_pos (show okL v from ⟨by omega, by omega⟩)]
theorem rheld_eq' (v : Int) : tendrilref08_Held v = some (decide (heldV v)) := by
  unfold tendrilref08_Held
  simp only [rlcheck_eq, Option.bind_some, eqc]
  by_cases h : okL v
  · rw [if_pos h, if_pos rfl, (tdm v 2 h.1).2, eq_dec]
    congr 1
    rw [decide_eq_decide]
    exact ⟨fun q => ⟨h, q⟩, fun q => q.2⟩
  · rw [if_neg h, if_neg (by decide), decide_eq_false (fun q : heldV v => h q.1)]
theorem rwaits_eq' (s : Sh) (a : Acc) : tendrilref16_Waits (s, a) = some (decide (waitsV s a)) := by
  obtain ⟨k, p, w, r, f, v⟩ := a
  unfold tendrilref16_Waits
  simp only [eqc, rheld_eq', Option.bind_some, dec]
  have go : ∀ h : k = 5 ∨ k = 7, (if 0 ≤ p then if p < (s.2.1.length : Int) then if 0 ≤ p then if p < (s.2.1.length : Int) then some (decide (heldV (s.2.1.getD p.toNat 0))) else none else none else some false else some false) = some (decide (waitsV s (k, p, w, r, f, v))) := fun h => by
    by_cases a : 0 ≤ p
    · rw [if_pos a]
      by_cases b : p < (s.2.1.length : Int)
      · rw [if_pos b, if_pos a, if_pos b]; congr 1; rw [decide_eq_decide]
        exact ⟨fun q => ⟨h, ⟨a, b⟩, q⟩, fun q => q.2.2⟩
      · rw [if_neg b, decide_eq_false (fun q : waitsV s (k, p, w, r, f, v) => b q.2.1.2)]
    · rw [if_neg a, decide_eq_false (fun q : waitsV s (k, p, w, r, f, v) => a q.2.1.1)]
  by_cases h5 : k = 5
  · rw [if_pos h5]; exact go (Or.inl h5)
  · rw [if_neg h5]
    by_cases h7 : k = 7
    · rw [if_pos h7]; exact go (Or.inr h7)
    · rw [if_neg h7, decide_eq_false]
      rintro ⟨q, _⟩
      rcases q with q | q
      · exact h5 q
      · exact h7 q

theorem rtry_eq (v : Int) : tendrilref08_Try v = some (tryV v) := by
  unfold tendrilref08_Try tryV
  simp only [rlcheck_eq, Option.bind_some, nec, eqc]
  by_cases h : okL v
  · rw [if_pos h, if_pos rfl, (tdm v 2 h.1).2]
    by_cases g : v % 2 = 1
    · rw [if_pos g, if_neg (fun q => q.2.1 ⟨h, g⟩)]
    · rw [if_neg g]
      by_cases e : v = 4611686018427387904
      · rw [if_pos e, if_neg (fun q => q.2.2 e)]
      · rw [if_neg e, if_pos ⟨h, fun q => g q.2, e⟩, w64 (by have := h.1; omega) (by have := h.2; omega)]
  · rw [if_neg h, if_neg (by decide), if_neg (fun q => h q.1)]
theorem rfree_eq (v : Int) : tendrilref08_Free v = some (freeV v) := by
  unfold tendrilref08_Free freeV
  simp only [rlcheck_eq, Option.bind_some, nec, eqc]
  by_cases h : okL v
  · rw [if_pos h, if_pos rfl, if_pos h, (tdm v 2 h.1).2]
    by_cases g : v % 2 = 0
    · rw [if_pos g, if_neg (fun q : heldV v => by have := q.2; omega)]
    · rw [if_neg g, if_pos (show heldV v from ⟨h, by omega⟩), w64 (by have := h.1; omega) (by have := h.2; omega)]
  · rw [if_neg h, if_neg (by decide), if_neg h]

theorem rload_eq (m : List Int) (a : Int) : tendrilref02_Load (m, a) = some (loadV m a) := by
  unfold tendrilref02_Load loadV
  simp only [dec]
  by_cases h1 : a < 0
  · rw [if_pos h1, if_neg (fun q => absurd q.1 (by omega))]
  · rw [if_neg h1]
    by_cases h2 : (m.length : Int) ≤ a
    · rw [if_pos h2, if_neg (fun q => absurd q.2 (by omega))]
    · rw [if_neg h2, if_pos (by omega), if_pos (by omega), if_pos (by omega)]
theorem rstore_eq (m : List Int) (a v : Int) (hm : m.length ≤ 1000000) : tendrilref02_Store (m, a, v) = some (storeV m a v) := by
  unfold tendrilref02_Store storeV
  simp only [dec]
  by_cases h1 : a < 0
  · rw [if_pos h1, if_neg (fun q => absurd q.1 (by omega))]
  · rw [if_neg h1]
    by_cases h2 : (m.length : Int) ≤ a
    · rw [if_pos h2, if_neg (fun q => absurd q.2 (by omega))]
    · rw [if_neg h2, if_pos (by omega), if_pos (by omega), if_pos (by omega), if_pos (by omega)]

theorem fieldV_no {c : Cfg} (h : ¬ ok c) (w s f : Int) : fieldV c w s f = (0, 1) := if_neg h
theorem rat_eq (c : Cfg) (m : List Int) (w r f : Int) (hr : -9223372036854775808 ≤ r ∧ r ≤ 9223372036854775807) : tendrilref14_at (c, m, w, r, f) = some (whereC c m w r f) := by
  unfold tendrilref14_at whereC
  simp only [etaC', runpack_eq r hr, rcheck_eq, rsize_eq, size_eq, rfield_eq, Option.bind_some, nec]
  by_cases hc : ok c
  · rw [if_pos hc, if_pos rfl, if_pos hc, show 2 + c.2.2.2.1 + c.2.2.2.2 + c.1 * 4 + c.2.1 * 5 + c.2.2.1 * 3 = sizeC c from rfl, if_pos hc]
    by_cases g : (m.length : Int) = sizeC c
    · rw [if_pos g, if_pos g]
      by_cases e : (unpackV r).2.2 = 0
      · rw [if_pos e, if_pos e]
      · rw [if_neg e, if_neg e]
    · rw [if_neg g, if_neg g]
      split <;> rfl
  · rw [if_neg hc, if_neg (by decide), if_neg hc]
    by_cases e : (unpackV r).2.2 = 0
    · rw [if_pos e]
      split
      · rw [fieldV_no hc]
      · rfl
    · rw [if_neg e]
theorem where_range {c : Cfg} {m : List Int} {w r f : Int} (h : (whereC c m w r f).2 = 0) : 0 ≤ (whereC c m w r f).1 ∧ (whereC c m w r f).1 < (m.length : Int) := by
  unfold whereC at h ⊢
  by_cases e : (unpackV r).2.2 = 0
  · rw [if_pos e] at h ⊢
    by_cases g : (m.length : Int) = (if ok c then sizeC c else 0)
    · rw [if_pos g] at h ⊢
      by_cases hc : ok c
      · rw [if_pos hc] at g
        obtain ⟨a, ha⟩ : ∃ a, fieldV c w (unpackV r).1 f = (a, 0) := ⟨(fieldV c w (unpackV r).1 f).1, by rw [← h]⟩
        have := field_range c w _ f a ha
        have hp := hc.2.2.2
        rw [ha]
        simp only
        unfold sizeC at g
        omega
      · rw [fieldV_no hc] at h; exact absurd h (by decide)
    · rw [if_neg g] at h; exact absurd h (by decide)
  · rw [if_neg e] at h; exact absurd h (by decide)
theorem r14field_eq (c : Cfg) (m : List Int) (w r f : Int) (hr : -9223372036854775808 ≤ r ∧ r ≤ 9223372036854775807) : tendrilref14_Field (c, m, w, r, f) = some (fieldC c m w r f) := by
  unfold tendrilref14_Field fieldC
  simp only [etaC', rat_eq c m w r f hr, Option.bind_some, nec]
  by_cases e : (whereC c m w r f).2 = 0
  · have g := where_range e
    rw [if_pos e, if_pos e, ct g.1, ct g.2, loadV, if_pos g]
  · rw [if_neg e, if_neg e]
theorem r14put_eq (c : Cfg) (m : List Int) (w r f v : Int) (hr : -9223372036854775808 ≤ r ∧ r ≤ 9223372036854775807) (hm : m.length ≤ 1000000) : tendrilref14_Put (c, m, w, r, f, v) = some (putC c m w r f v) := by
  unfold tendrilref14_Put putC
  simp only [etaC', rat_eq c m w r f hr, rstore_eq m _ _ hm, Option.bind_some, nec]
  by_cases e : (whereC c m w r f).2 = 0
  · rw [if_pos e, if_pos e]
  · rw [if_neg e, if_neg e]

theorem rset_eq (s : Sh) (p v : Int) (hs : fewS s) (g : hasV s p) : tendrilref16_set (s, p, v) = some (s.1, s.2.1.set p.toNat v, s.2.2) := by
  unfold tendrilref16_set
  simp only [copy_eq s.2.1 (show s.2.1.length ≤ 1000000 by have := hs.2.2.2; omega), Option.bind_some]
  rw [ct g.1, ct g.2]
theorem rword_yes {s : Sh} {a : Acc} (g : hasV s a.2.1) : tendrilref16_word (s, a) = some (s.2.1.getD a.2.1.toNat 0, true) := by
  unfold tendrilref16_word
  have g0 := g.1
  have g1 := g.2
  simp only
  rw [cf (by omega), cf (by omega), ct g0, ct g1]
theorem rword_no {s : Sh} {a : Acc} (g : ¬ hasV s a.2.1) : tendrilref16_word (s, a) = some (0, false) := by
  unfold tendrilref16_word
  simp only
  by_cases h : a.2.1 < 0
  · rw [ct h]
  · rw [cf h, ct]
    exact Classical.byContradiction fun q => g ⟨by omega, by omega⟩

/-- What the reference does, before it tells. -/
noncomputable def stepV (c : Cfg) (s : Sh) (t : Int) (a : Acc) : Sh × Int × Int :=
  if a.1 = 3 ∨ a.1 = 4 then wordsV c s a
  else if a.1 = 5 ∨ a.1 = 6 ∨ a.1 = 7 then latchesV s a
  else if a.1 = 1 ∨ a.1 = 2 ∨ a.1 = 8 ∨ a.1 = 9 then recordsV s t a
  else (s, 0, 1)

theorem rdo_eq (c : Cfg) (s : Sh) (t : Int) (a : Acc) (hr : -9223372036854775808 ≤ a.2.2.2.1 ∧ a.2.2.2.1 ≤ 9223372036854775807) (hs : fewS s) : tendrilref16_do (c, s, t, a) = some (stepV c s t a) := by
  have ey := @rword_yes s a
  have en := @rword_no s a
  obtain ⟨k, p, w, r, f, v⟩ := a
  simp only at hr
  have hm : s.1.length ≤ 1000000 := by have := hs.2.2.1; omega
  unfold tendrilref16_do stepV
  obtain ⟨y, hy, hyy⟩ : ∃ y, tendrilref16_word (s, (k, p, w, r, f, v)) = some y ∧ ((hasV s p ∧ y = (s.2.1.getD p.toNat 0, true)) ∨ (¬ hasV s p ∧ y = (0, false))) := by
    by_cases g : hasV s p
    · exact ⟨_, ey g, Or.inl ⟨g, rfl⟩⟩
    · exact ⟨_, en g, Or.inr ⟨g, rfl⟩⟩
  simp only [etaS, etaC', hy, rpinA_eq s t hs, rendA_eq s t hs, rload_eq, rstore_eq s.1 p v hm, r14field_eq c s.1 w r f hr, r14put_eq c s.1 w r f v hr hm, rtry_eq, rfree_eq, rtakeA_eq s w hs, rretA_eq s w r hs hr, Option.bind_some, nec, eqc]
  by_cases h1 : k = 1
  · rw [if_pos h1, if_neg (by omega), if_neg (by omega), if_pos (by omega), recordsV, if_pos h1]
  rw [if_neg h1]
  by_cases h2 : k = 2
  · rw [if_pos h2, if_neg (by omega), if_neg (by omega), if_pos (by omega), recordsV, if_neg h1, if_pos h2]
  rw [if_neg h2]
  by_cases h3 : k = 3
  · rw [if_pos h3, if_pos (Or.inl h3), wordsV, if_pos h3]
    by_cases z : w = 0
    · rw [if_pos z, if_pos z]
    · rw [if_neg z, if_neg z]
  rw [if_neg h3]
  by_cases h4 : k = 4
  · rw [if_pos h4, if_pos (Or.inr h4), wordsV, if_neg h3]
    by_cases z : w = 0
    · rw [if_pos z, if_pos z]
    · rw [if_neg z, if_neg z]
  rw [if_neg h4, if_neg (show ¬ (k = 3 ∨ k = 4) by omega)]
  by_cases h5 : k = 5
  · rw [if_pos h5, if_pos (Or.inl h5), latchesV]
    rcases hyy with ⟨g, rfl⟩ | ⟨g, rfl⟩
    · simp only [Bool.not_true, cond_false, rset_eq s p _ hs g, Option.bind_some]
      rw [if_pos g, if_pos h5]
      by_cases e : (tryV (s.2.1.getD p.toNat 0)).2 = true
      · rw [if_pos e, e]; rfl
      · have e' : (tryV (s.2.1.getD p.toNat 0)).2 = false := by simpa using e
        rw [if_neg e, e']; rfl
    · rw [if_neg g]; rfl
  rw [if_neg h5]
  by_cases h6 : k = 6
  · rw [if_pos h6, if_pos (Or.inr (Or.inl h6)), latchesV]
    rcases hyy with ⟨g, rfl⟩ | ⟨g, rfl⟩
    · simp only [Bool.not_true, cond_false, rset_eq s p _ hs g, Option.bind_some]
      rw [if_pos g, if_neg h5, if_pos h6]
      by_cases e : (freeV (s.2.1.getD p.toNat 0)).2 = 0
      · rw [if_pos e, if_pos e]
      · rw [if_neg e, if_neg e]
    · rw [if_neg g]; rfl
  rw [if_neg h6]
  by_cases h7 : k = 7
  · rw [if_pos h7, if_pos (Or.inr (Or.inr h7)), latchesV]
    rcases hyy with ⟨g, rfl⟩ | ⟨g, rfl⟩
    · rw [if_pos g, if_neg h5, if_neg h6]; rfl
    · rw [if_neg g]; rfl
  rw [if_neg h7, if_neg (show ¬ (k = 5 ∨ k = 6 ∨ k = 7) by omega)]
  by_cases h8 : k = 8
  · rw [if_pos h8, if_pos (show k = 1 ∨ k = 2 ∨ k = 8 ∨ k = 9 by omega), recordsV, if_neg h1, if_neg h2, if_neg (show ¬ k = 9 by omega), if_pos h8]
    by_cases e : (takeA s w).2.2 = 3
    · rw [if_pos e, if_pos e]
    · rw [if_neg e, if_neg e]
  rw [if_neg h8]
  by_cases h9 : k = 9
  · rw [if_pos h9, if_pos (by omega), recordsV, if_neg h1, if_neg h2, if_pos h9]
  rw [if_neg h9, if_neg (by omega)]

theorem rDo_eq (c : Cfg) (s : Sh) (t : Int) (a : Acc) (hr : -9223372036854775808 ≤ a.2.2.2.1 ∧ a.2.2.2.1 ≤ 9223372036854775807) (hs : fewS s) : tendrilref16_Do (c, s, t, a) = some (doV c s t a) := by
  have hd := rdo_eq c s t a hr hs
  have hw := rwaits_eq' s a
  obtain ⟨k, p, w, r, f, v⟩ := a
  simp only at hr
  unfold tendrilref16_Do doV
  simp only [etaS, etaC', rshape_eq c s hs, hw, hd, runpack_eq r hr, rgenA_eq s w r hs hr, Option.bind_some, nec, eqc]
  by_cases ho : okSh c s
  · rw [chk_pos ho, if_pos rfl, if_pos ho]
    by_cases hwt : waitsV s (k, p, w, r, f, v)
    · rw [decide_eq_true hwt, if_pos hwt]; rfl
    · rw [decide_eq_false hwt, if_neg hwt, cond_false]
      unfold stepV
      by_cases hk : k = 3 ∨ k = 4
      · rw [if_pos hk, if_pos hk]
        by_cases e : (wordsV c s (k, p, w, r, f, v)).2.2 = 0
        · rw [if_pos e]
          unfold endR
          rw [if_pos e]
          by_cases z : w = 0
          · simp only [if_pos z]
            by_cases k3 : k = 3
            · rw [if_pos k3]
            · rw [if_neg k3, if_pos (by omega)]
          · simp only [if_neg z]
            by_cases k3 : k = 3
            · rw [if_pos k3]; rfl
            · rw [if_neg k3, if_pos (by omega)]; rfl
        · rw [if_neg e]
          unfold endR
          rw [if_neg e]; rfl
      · rw [if_neg hk, if_neg hk]
        have k3 : ¬ k = 3 := fun q => hk (Or.inl q)
        have k4 : ¬ k = 4 := fun q => hk (Or.inr q)
        have fin : ∀ x : Sh × Int × Int, (if x.2.2 = 0 then (some (x.1, x.2.1, [], 0) : Option Res) else some (([], [], (([], [], [], []), ([], [], [], []), [], [], [], []), 0, []), 0, [], x.2.2)) = some (endR x []) := fun x => by
          unfold endR
          by_cases e : x.2.2 = 0
          · rw [if_pos e, if_pos e]
          · rw [if_neg e, if_neg e]; rfl
        simp only [if_neg k3, if_neg k4, fin]
        by_cases h5 : k = 5 ∨ k = 6 ∨ k = 7
        · rw [if_pos h5, if_pos h5]
        · rw [if_neg h5, if_neg h5]
          by_cases h1 : k = 1 ∨ k = 2 ∨ k = 8 ∨ k = 9
          · rw [if_pos h1, if_pos h1]
          · rw [if_neg h1, if_neg h1]; rfl
  · rw [chk_neg ho, if_neg (by decide), if_neg ho]; rfl

theorem stouch_loop (l : List Touch) (hn : l.length ≤ 1000000) : ∀ (k i : Nat), i ≤ l.length → l.length < k + i → tendrilref16_SameTouches_L10 k l l l.length i = some true
  | 0, i, hi, hk => by omega
  | k + 1, i, hi, hk => by
    rw [tendrilref16_SameTouches_L10]
    by_cases hlt : i < l.length
    · rw [ct (by omega), ct (by omega), ct (by omega), ct (by omega), ct (by omega), wi (by omega), stouch_loop l hn k (i + 1) (by omega) (by omega)]
      simp only [beq_self_eq_true, Bool.and_self, Bool.not_true, cond_false]
    · have : i = l.length := by omega
      subst this
      rw [cf (by omega)]
theorem stouch_eq (l : List Touch) (hn : l.length ≤ 1000000) : tendrilref16_SameTouches (l, l) = some true := by
  unfold tendrilref16_SameTouches tendrilref16_SameTouches_K
  simp only [nec]
  rw [if_pos trivial]
  exact stouch_loop l hn 2000000 0 (by omega) (by omega)

theorem doV_small {c : Cfg} {s : Sh} {t : Int} {a : Acc} (hs : fewS s) : fewS (doV c s t a).1 ∧ (doV c s t a).2.2.1.length ≤ 1 := by
  have hE : ∀ (r : Sh × Int × Int) (l : List Touch), fewS r.1 → l.length ≤ 1 → fewS (endR r l).1 ∧ (endR r l).2.2.1.length ≤ 1 := fun r l h1 h2 => by
    unfold endR
    split
    · exact ⟨h1, h2⟩
    · exact ⟨few_noS, Nat.zero_le _⟩
  have hN : ∀ e, fewS (noR e).1 ∧ (noR e).2.2.1.length ≤ 1 := fun e => ⟨few_noS, Nat.zero_le _⟩
  have hst : ∀ p v : Int, fewS ((storeV s.1 p v).1, s.2) := fun p v => by
    unfold storeV
    split
    · exact ⟨hs.1, hs.2.1, by simpa using hs.2.2.1, hs.2.2.2⟩
    · exact ⟨hs.1, hs.2.1, Nat.zero_le _, hs.2.2.2⟩
  have hlt : ∀ i v, fewS (s.1, s.2.1.set i v, s.2.2) := fun i v => ⟨hs.1, hs.2.1, hs.2.2.1, by simpa using hs.2.2.2⟩
  unfold doV
  split
  · split
    · exact hN _
    · split
      · refine hE _ _ ?_ ?_
        · unfold wordsV
          split
          · split <;> exact hs
          · split
            · exact hst _ _
            · simp only
              unfold putC
              split
              · exact hst _ _
              · exact ⟨hs.1, hs.2.1, Nat.zero_le _, hs.2.2.2⟩
        · split
          · exact Nat.zero_le _
          · exact Nat.le_refl _
      · split
        · refine hE _ _ ?_ (Nat.zero_le _)
          unfold latchesV
          split
          · split
            · split
              · exact hlt _ _
              · exact hs
            · split
              · split
                · exact hlt _ _
                · exact hs
              · exact hs
          · exact hs
        · split
          · refine hE _ _ ?_ (Nat.zero_le _)
            unfold recordsV
            split
            · exact few_pinA t hs
            · split
              · exact few_endA t hs
              · split
                · exact few_ret _ _ hs
                · split
                  · split
                    · exact hs
                    · exact few_take _ hs
                  · exact hs
          · exact hN _
  · exact hN _

theorem live16_eq' : tendrillaw16_live () = some true := by kernel_rfl

theorem AskDoes (x : Cfg × Sh × Int × Acc) (hx : InRT [⟨true, (.pair .int (.pair .int (.pair .int (.pair .int .int))))⟩, ⟨true, (.pair (.sl .int) (.pair (.sl .int) (.pair (.pair (.pair (.sl .int) (.pair (.sl .int) (.pair (.sl .int) (.sl .int)))) (.pair (.pair (.sl .int) (.pair (.sl .int) (.pair (.sl .int) (.sl .int)))) (.pair (.sl .int) (.pair (.sl .int) (.pair (.sl .int) (.sl .int)))))) (.pair .int (.sl .int)))))⟩, ⟨false, .int⟩, ⟨true, (.pair .int (.pair .int (.pair .int (.pair .int (.pair .int .int)))))⟩] x) : tendrillaw16_AskDoes x = some true := by
  have hr : -9223372036854775808 ≤ x.2.2.2.2.2.2.1 ∧ x.2.2.2.2.2.2.1 ≤ 9223372036854775807 := hx.2.2.2.2.2.2.1
  obtain ⟨c, s, t, a⟩ := x
  simp only at hr
  have ea : ((a.1, a.2.1, a.2.2.1, a.2.2.2.1, a.2.2.2.2.1, a.2.2.2.2.2) : Acc) = a := rfl
  unfold tendrillaw16_AskDoes
  simp only [live16_eq', Option.bind_some, Bool.not_true, cond_false, etaS, fewA_eq]
  by_cases hf : fewB s
  · have hs := hf.fewS
    obtain ⟨d1, d2⟩ := doV_small (c := c) (t := t) (a := a) hs
    simp only [hf, decide_true, Bool.not_true, cond_false, etaC', ea, copy_eq s.1 (show s.1.length ≤ 1000000 by have := hs.2.2.1; omega), copy_eq s.2.1 (show s.2.1.length ≤ 1000000 by have := hs.2.2.2; omega), do_eq c s t a hr hs, rDo_eq c s t a hr hs, Option.bind_some, etaS, same_self d1, stouch_eq _ (show (doV c s t a).2.2.1.length ≤ 1000000 by omega), cond_true, beq_self_eq_true, same_self hs]
  · simp only [hf, decide_false, Bool.not_false, cond_true]
end Go.Proofs.YtcoiboghdmmdcadGreat.Pure
