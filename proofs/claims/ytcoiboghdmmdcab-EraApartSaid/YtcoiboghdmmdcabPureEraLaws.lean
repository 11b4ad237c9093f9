/- Eras: what is made; the one stuck; whoever goes; apart; safe; no condition. -/
import Derived.Test.YtcoiboghdmmdcabPureEraDoes
set_option linter.unusedVariables false
set_option linter.unusedSimpArgs false
namespace Go.Proofs.Ytcoiboghdmmdcab.Pure
open Go Go.RowKit Go.Proofs.YtcoiboghdmmdcabFn Go.Proofs.YtcoiboghdmmdcabPx

theorem w01 : wrap64 (0 + 1) = 1 := by rw [w64 (by decide) (by decide)]; rfl
theorem w12 : wrap64 (1 + 1) = 2 := by rw [w64 (by decide) (by decide)]; rfl
theorem w23 : wrap64 (2 + 1) = 3 := by rw [w64 (by decide) (by decide)]; rfl
theorem etaE (q : Era) : ((q.1, q.2) : Era) = q := rfl

theorem newE_len (n : Int) : (newE n).1.2.length ≤ 1000 := by
  unfold newE
  split
  · simp; omega
  · simp [noE]

theorem EraMakes (x : Int × Era) (_ : InRT [⟨false, .int⟩, ⟨true, .pair .int (.sl .int)⟩] x) : tendrillaw06_EraMakes x = some true := by
  obtain ⟨n, e⟩ := x
  unfold tendrillaw06_EraMakes
  simp only [live6_eq, Option.bind_some, Bool.not_true, cond_false, etaE, dec]
  by_cases hf : (200 : Int) < (e.2.length : Int)
  · rw [if_pos hf]
  · rw [if_neg hf]
    simp only [pnewE_eq, rnewE_eq, pche_eq, rche_eq, psafe_eq, rsafe_eq, Option.bind_some, etaE, sameE_eq _ _ (show (newE n).1.2.length ≤ 1000000 by have := newE_len n; omega), decide_true, cond_true, beq_self_eq_true]

/-! ### EraStuck -/
theorem stuck_loop (t : Int) (ok : Bool) (l : List Int) (now n' : Int) (l' : List Int) (hn : l.length ≤ 1000000) : ∀ (k i : Nat) (b : Bool), i ≤ l.length → l.length < k + i → tendrillaw06_EraStuck_L18 k t ok b l l.length i now l n' l' = tendrillaw06_EraStuck_L18 1 t ok (b && decide (∀ m ∈ l.drop i, m = -1 ∨ m = now)) l l.length l.length now l n' l'
  | 0, i, b, hi, hk => by omega
  | k + 1, i, b, hi, hk => by
    by_cases hlt : i < l.length
    · have e0 := drop_cons l i 0 (by omega)
      conv => lhs; rw [tendrillaw06_EraStuck_L18]
      simp only [show (i : Int) < (l.length : Int) by omega, show (0 : Int) ≤ (i : Int) by omega, decide_true, cond_true, Int.toNat_natCast, wi (show i ≤ 1000000 by omega), eqc, e0, List.forall_mem_cons, stuck_loop t ok l now n' l' hn k (i + 1) _ (by omega) (by omega)]
      cases b
      · simp
      · by_cases a : l.getD i 0 = -1
        · rw [if_pos a]; simp only [a, true_or, true_and]; rfl
        · rw [if_neg a]
          by_cases c : l.getD i 0 = now
          · simp only [c, or_true, true_and, beq_self_eq_true]; rfl
          · simp only [a, c, or_self, false_and, decide_false, Bool.and_false, eq_dec, Bool.false_and]; rfl
    · have : i = l.length := by omega
      subst this
      rw [List.drop_of_length_le (by omega)]
      have e : (b && decide (∀ m ∈ ([] : List Int), m = -1 ∨ m = now)) = b := by simp
      rw [e]
      conv => lhs; rw [tendrillaw06_EraStuck_L18]
      conv => rhs; rw [tendrillaw06_EraStuck_L18]
      simp only [Int.lt_irrefl, decide_false, cond_false]

theorem turn_free {e : Era} (h : okE e) (h2 : e.1 ≠ 1152921504606846976) (ha : ∀ m ∈ e.2, m = -1 ∨ m = e.1) : turnV e = ((e.1 + 1, e.2), true) := by
  unfold turnV
  rw [if_pos h, if_neg]
  rintro (g | ⟨m, h1, h2, h3⟩)
  · exact h2 g
  · rcases ha m h1 with h | h
    · exact h2 h
    · exact h3 h
theorem turn_stuck {e : Era} (h : okE e) {m : Int} (h1 : m ∈ e.2) (h2 : m ≠ -1) (h3 : m ≠ e.1) : turnV e = (e, false) := by
  unfold turnV
  rw [if_pos h, if_pos (Or.inr ⟨m, h1, h2, h3⟩)]

theorem EraStuck (x : Era × Int) (_ : InRT [⟨true, .pair .int (.sl .int)⟩, ⟨false, .int⟩] x) : tendrillaw06_EraStuck x = some true := by
  obtain ⟨⟨now, l⟩, t⟩ := x
  unfold tendrillaw06_EraStuck tendrillaw06_EraStuck_K
  simp only [live6_eq, Option.bind_some, Bool.not_true, cond_false, etaE, dec, nec, pche_eq, pturn_eq]
  by_cases h : okE (now, l)
  · rw [chkE_pos h, if_pos rfl]
    by_cases a : t < 0
    · rw [if_pos a]
    rw [if_neg a]
    by_cases b : (l.length : Int) ≤ t
    · rw [if_pos b]
    rw [if_neg b]
    by_cases c : 1152921504606846974 < now
    · rw [if_pos c]
    rw [if_neg c]
    have hl : l.length ≤ 64 := h.2.2.2.1
    have hlp := stuck_loop t (turnV (now, l)).2 l now (turnV (now, l)).1.1 (turnV (now, l)).1.2 (by omega) 2000000 0 true (by omega) (by omega)
    rw [show ((0 : Nat) : Int) = 0 from rfl, List.drop_zero, Bool.true_and] at hlp
    rw [hlp, tendrillaw06_EraStuck_L18]
    simp only [Int.lt_irrefl, decide_false, cond_false]
    by_cases g : ∀ m ∈ l, m = -1 ∨ m = now
    · rw [turn_free h (by simp only; omega) g]
      have gd : decide (∀ m ∈ l, m = -1 ∨ m = now) = true := decide_eq_true g
      simp only [gd, decide_true, Bool.not_true, cond_false, show (true == true) = true from rfl, show (0 : Int) ≤ t by omega, show t < (l.length : Int) by omega, cond_true, eqc, etaE, pturn_eq, Option.bind_some]
      by_cases d : l.getD t.toNat 0 = -1
      · rw [if_pos d]
      · rw [if_neg d]
        have ht := okE_turn h
        rw [turn_free h (by simp only; omega) g] at ht
        have hm : l.getD t.toNat 0 ∈ l := by rw [getD_get l t.toNat 0 (by omega)]; exact List.getElem_mem _
        have := turn_stuck ht (m := l.getD t.toNat 0) hm d (by rcases g _ hm with q | q <;> simp only <;> omega)
        simp only at this
        rw [this]; rfl
    · have : ∃ m, m ∈ l ∧ m ≠ -1 ∧ m ≠ now := Classical.byContradiction fun q => g fun m hm => Classical.byContradiction fun r => q ⟨m, hm, fun u => r (Or.inl u), fun u => r (Or.inr u)⟩
      obtain ⟨m, h1, h2, h3⟩ := this
      rw [turn_stuck h h1 h2 h3]
      have gd : decide (∀ m ∈ l, m = -1 ∨ m = now) = false := decide_eq_false g
      simp only [gd, decide_false, Bool.not_false, cond_true, show (false == false) = true from rfl, cond_false, etaE, sameE_eq (now, l) (now, l) (show l.length ≤ 1000000 by omega), Option.bind_some, decide_true, Bool.not_true]
  · rw [chkE_neg h, if_neg (by decide)]

/-! ### EraGoes -/
theorem rep_succ (i : Nat) : List.replicate i (-1 : Int) ++ [-1] = List.replicate (i + 1) (-1) := by rw [List.replicate_succ']
theorem goes_loop (n : Nat) (hn : n ≤ 1000) (now : Int) : ∀ (k i : Nat), i ≤ n → n < k + i → ∃ k', k - (n - i) - 1 = k' ∧ tendrillaw06_EraGoes_L16x1 k (n : Int) i now (List.replicate i (-1)) = tendrillaw06_EraGoes_L26x1 k' now 0 now (List.replicate n (-1))
  | 0, i, hi, hk => by omega
  | k + 1, i, hi, hk => by
    rw [tendrillaw06_EraGoes_L16x1]
    by_cases hlt : i < n
    · obtain ⟨k', hk', ih⟩ := goes_loop n hn now k (i + 1) (by omega) (by omega)
      have e : (List.replicate i (-1 : Int)).length + [(-1 : Int)].length ≤ 1000000 := by simp; omega
      simp only [show (i : Int) < (n : Int) by omega, decide_true, cond_true, wi (show i ≤ 1000000 by omega), e, rep_succ]
      exact ⟨k', by omega, ih⟩
    · have : i = n := by omega
      subst this
      simp only [Int.lt_irrefl, decide_false, cond_false]
      exact ⟨k, by omega, rfl⟩

theorem okE_rep (n : Nat) (h1 : 1 ≤ n) (h2 : n ≤ 64) (now : Int) (h3 : 0 ≤ now) (h4 : now ≤ 1152921504606846976) : okE (now, List.replicate n (-1)) :=
  ⟨h3, h4, by simpa using h1, by simpa using h2, fun m hm => Or.inl (List.mem_replicate.1 hm).2⟩

theorem goes26 (n : Nat) (h1 : 1 ≤ n) (h2 : n ≤ 64) (was : Int) (h3 : 0 ≤ was) (h4 : was ≤ 1152921504606846972) (k : Nat) : tendrillaw06_EraGoes_L26x1 (k + 4) was 0 was (List.replicate n (-1)) = some true := by
  have tf : ∀ now : Int, 0 ≤ now → now < 1152921504606846976 → turnV (now, List.replicate n (-1)) = ((now + 1, List.replicate n (-1)), true) := fun now a b => turn_free (okE_rep n h1 h2 now a (by omega)) (by simp only; omega) fun m hm => Or.inl (List.mem_replicate.1 hm).2
  rw [tendrillaw06_EraGoes_L26x1]
  simp only [dec, pturn_eq, tf was h3 (by omega), Option.bind_some, Bool.not_true, cond_false]
  rw [if_pos (by decide), w01, tendrillaw06_EraGoes_L26x1]
  simp only [dec, pturn_eq, tf (was + 1) (by omega) (by omega), Option.bind_some, Bool.not_true, cond_false]
  rw [if_pos (by decide), w12, tendrillaw06_EraGoes_L26x1]
  simp only [dec, pturn_eq, tf (was + 1 + 1) (by omega) (by omega), Option.bind_some, Bool.not_true, cond_false]
  rw [if_pos (by decide), w23, tendrillaw06_EraGoes_L26x1]
  simp only [dec, eqc, psafe_eq, Option.bind_some]
  rw [if_neg (by decide), w64 (by omega) (by omega), if_pos (by omega)]
  unfold safeV
  rw [if_pos (okE_rep n h1 h2 _ (by omega) (by omega))]
  simp only
  congr 1
  simp; omega

theorem EraGoes (x : Era) (_ : InRT [⟨true, .pair .int (.sl .int)⟩] x) : tendrillaw06_EraGoes x = some true := by
  obtain ⟨now, l⟩ := x
  unfold tendrillaw06_EraGoes tendrillaw06_EraGoes_K
  simp only [live6_eq, Option.bind_some, Bool.not_true, cond_false, etaE, dec, nec, pche_eq]
  by_cases h : okE (now, l)
  · rw [chkE_pos h, if_pos rfl]
    by_cases c : 1152921504606846972 < now
    · rw [if_pos c]
    rw [if_neg c]
    have h1 : 1 ≤ l.length := h.2.2.1
    have h2 : l.length ≤ 64 := h.2.2.2.1
    rw [show (2000000 : Nat) = 1999999 + 1 from rfl, tendrillaw06_EraGoes_L16]
    simp only [dec]
    rw [if_pos (by omega), show wrap64 (0 + 1) = ((1 : Nat) : Int) from w01]
    obtain ⟨k', hk', ih⟩ := goes_loop l.length (by omega) now 1999999 1 (by omega) (by omega)
    rw [show [(-1 : Int)] = List.replicate 1 (-1) from rfl, ih]
    obtain ⟨j, rfl⟩ : ∃ j, k' = j + 4 := ⟨k' - 4, by omega⟩
    exact goes26 l.length h1 h2 now h.1 (by omega) j
  · rw [chkE_neg h, if_neg (by decide)]

/-! ### EraApart -/
theorem EraApart_loops (l : List Int) (hl : l.length ≤ 1000) (hl1 : 1 ≤ l.length) (now t f g : Int) (an bn : Int) (a b : List Int)
    (ha : a = [] ∨ (a.length = l.length ∧ an = now ∧ ∀ i : Nat, i < l.length → (a.getD i 0 ≠ l.getD i 0 ↔ (i : Int) = t)))
    (hb : b = [] ∨ (b.length = l.length ∧ bn = now ∧ ∀ i : Nat, i < l.length → (b.getD i 0 ≠ l.getD i 0 ↔ (i : Int) = t)))
    (hfg : (f = 0 ∨ g = 0) ↔ (0 ≤ t ∧ t < (l.length : Int))) : ∀ (k : Nat),
    (∀ (i : Nat), i ≤ 2 → (2 - i) * 2000 + 1 ≤ k → tendrillaw06_EraApart_L22 k t f g (2 : Nat) i now l an bn a b = some true) ∧
    (∀ (j : Nat), b ≠ [] → j ≤ l.length → (l.length - j) + 2 ≤ k → tendrillaw06_EraApart_L34 k t f g (2 : Nat) (1 : Nat) l.length j now l bn an bn b a = some true) ∧
    (∀ (j : Nat), a ≠ [] → j ≤ l.length → 2000 + (l.length - j) + 2 ≤ k → tendrillaw06_EraApart_L34x1 k t f g (2 : Nat) (0 : Nat) l.length j now l an an bn a b = some true)
  | 0 => ⟨by intros; omega, by intros; omega, by intros; omega⟩
  | k + 1 => by
    obtain ⟨ih1, ih2, ih3⟩ := EraApart_loops l hl hl1 now t f g an bn a b ha hb hfg k
    refine ⟨?_, ?_, ?_⟩
    · intro i hi hk
      rw [tendrillaw06_EraApart_L22]
      have hi4 : i = 0 ∨ i = 1 ∨ i = 2 := by omega
      simp only [dec, eqc, nec]
      rcases hi4 with rfl | rfl | rfl
      · rw [if_pos (by decide), if_neg (by decide), if_pos (by rfl)]
        rcases ha with rfl | ⟨h1, h2, h3⟩
        · rw [if_pos (by rfl), wi (by omega)]
          exact ih1 1 (by omega) (by omega)
        · rw [if_neg (by omega), if_pos (by omega), if_pos h2]
          exact ih3 0 (by intro h; rw [h] at h1; simp at h1; omega) (by omega) (by omega)
      · rw [if_pos (by decide), if_pos (by rfl)]
        rcases hb with rfl | ⟨h1, h2, h3⟩
        · rw [if_pos (by rfl), wi (by omega)]
          exact ih1 2 (by omega) (by omega)
        · rw [if_neg (by omega), if_pos (by omega), if_pos h2]
          exact ih2 0 (by intro h; rw [h] at h1; simp at h1; omega) (by omega) (by omega)
      · rw [if_neg (by decide)]
        by_cases e : f = 0
        · rw [if_pos e]
          have := hfg.1 (Or.inl e)
          rw [if_pos this.1]
          simp [this.2]
        · rw [if_neg e]
          by_cases e2 : g = 0
          · have := hfg.1 (Or.inr e2)
            rw [if_pos this.1]
            simp [this.2, e2]
          · by_cases c : 0 ≤ t
            · rw [if_pos c]
              have : ¬ t < (l.length : Int) := fun q => by
                rcases hfg.2 ⟨c, q⟩ with h | h
                · exact e h
                · exact e2 h
              simp [e2, this]
            · rw [if_neg c]; simp [e2]
    · intro j hne hj hk
      rw [tendrillaw06_EraApart_L34]
      rcases hb with h | ⟨h1, h2, h3⟩
      · exact absurd h hne
      by_cases hlt : j < l.length
      · have q := h3 j hlt
        have e : (!((b.getD j 0 != l.getD j 0) == ((j : Int) == t))) = false := by
          rw [ne_dec, eq_dec]
          by_cases c : b.getD j 0 = l.getD j 0
          · have : ¬ (j : Int) = t := fun z => q.2 z c
            simp only [c, this, decide_true, decide_false]; rfl
          · have := q.1 c
            simp only [c, this, decide_true, decide_false]; rfl
        simp only [show (j : Int) < (l.length : Int) by omega, show (j : Int) < (b.length : Int) by omega, show (0 : Int) ≤ (j : Int) by omega, decide_true, cond_true, Int.toNat_natCast, wi (show j ≤ 1000000 by omega), e, cond_false]
        exact ih2 (j + 1) hne (by omega) (by omega)
      · have : j = l.length := by omega
        subst this
        simp only [Int.lt_irrefl, decide_false, cond_false, wi (show 1 ≤ 1000000 by omega)]
        exact ih1 2 (by omega) (by omega)
    · intro j hne hj hk
      rw [tendrillaw06_EraApart_L34x1]
      rcases ha with h | ⟨h1, h2, h3⟩
      · exact absurd h hne
      by_cases hlt : j < l.length
      · have q := h3 j hlt
        have e : (!((a.getD j 0 != l.getD j 0) == ((j : Int) == t))) = false := by
          rw [ne_dec, eq_dec]
          by_cases c : a.getD j 0 = l.getD j 0
          · have : ¬ (j : Int) = t := fun z => q.2 z c
            simp only [c, this, decide_true, decide_false]; rfl
          · have := q.1 c
            simp only [c, this, decide_true, decide_false]; rfl
        simp only [show (j : Int) < (l.length : Int) by omega, show (j : Int) < (a.length : Int) by omega, show (0 : Int) ≤ (j : Int) by omega, decide_true, cond_true, Int.toNat_natCast, wi (show j ≤ 1000000 by omega), e, cond_false]
        exact ih3 (j + 1) hne (by omega) (by omega)
      · have : j = l.length := by omega
        subst this
        simp only [Int.lt_irrefl, decide_false, cond_false, wi (show 0 ≤ 1000000 by omega)]
        exact ih1 1 (by omega) (by omega)

theorem set_apart (l : List Int) (t v : Int) (h0 : 0 ≤ t) (h1 : t < (l.length : Int)) (hv : v ≠ l.getD t.toNat 0) (i : Nat) (hi : i < l.length) : ((l.set t.toNat v).getD i 0 ≠ l.getD i 0 ↔ (i : Int) = t) := by
  rw [getD_set l t.toNat i v 0 (by omega)]
  by_cases e : t.toNat = i
  · subst e; rw [if_pos rfl]; exact ⟨fun _ => by omega, fun _ => hv⟩
  · rw [if_neg e]; exact ⟨fun h => absurd rfl h, fun h => by omega⟩

theorem EraApart (x : Era × Int) (_ : InRT [⟨true, .pair .int (.sl .int)⟩, ⟨false, .int⟩] x) : tendrillaw06_EraApart x = some true := by
  obtain ⟨⟨now, l⟩, t⟩ := x
  unfold tendrillaw06_EraApart tendrillaw06_EraApart_K
  simp only [live6_eq, Option.bind_some, Bool.not_true, cond_false, etaE, dec, nec, eqc, pche_eq, ppin_eq, punpin_eq]
  by_cases hf : (200 : Int) < (l.length : Int)
  · rw [if_pos hf]
  rw [if_neg hf]
  by_cases h : okE (now, l)
  · rw [chkE_pos h, if_pos rfl]
    have hl1 : 1 ≤ l.length := h.2.2.1
    have hnow : 0 ≤ now := h.1
    by_cases ht : 0 ≤ t ∧ t < (l.length : Int)
    · by_cases d : l.getD t.toNat 0 = -1
      · have p1 : pinV (now, l) t = ((now, l.set t.toNat now), 0) := if_pos ⟨h, ht.1, ht.2, d⟩
        have p2 : unpinV (now, l) t = (noE, 2) := by unfold unpinV; rw [if_pos ⟨h, ht⟩, if_pos d]
        rw [p1, p2]
        simp only [noE]
        rw [if_pos trivial, if_neg (by decide)]
        exact (EraApart_loops l (by omega) hl1 now t 0 2 now 0 (l.set t.toNat now) [] (Or.inr ⟨by simp, rfl, set_apart l t now ht.1 ht.2 (by omega)⟩) (Or.inl rfl) ⟨fun _ => ht, fun _ => Or.inl rfl⟩ 2000000).1 0 (by omega) (by omega)
      · have p1 : pinV (now, l) t = (noE, 1) := if_neg fun q => d q.2.2.2
        have p2 : unpinV (now, l) t = ((now, l.set t.toNat (-1)), 0) := by unfold unpinV; rw [if_pos ⟨h, ht⟩, if_neg d]
        rw [p1, p2]
        simp only [noE]
        rw [if_neg (by decide)]
        exact (EraApart_loops l (by omega) hl1 now t 1 0 0 now [] (l.set t.toNat (-1)) (Or.inl rfl) (Or.inr ⟨by simp, rfl, set_apart l t (-1) ht.1 ht.2 (fun q => d q.symm)⟩) ⟨fun _ => ht, fun _ => Or.inr rfl⟩ 2000000).1 0 (by omega) (by omega)
    · have p1 : pinV (now, l) t = (noE, 1) := if_neg fun q => ht ⟨q.2.1, q.2.2.1⟩
      have p2 : unpinV (now, l) t = (noE, 1) := if_neg fun q => ht q.2
      rw [p1, p2]
      simp only [noE]
      rw [if_neg (by decide)]
      exact (EraApart_loops l (by omega) hl1 now t 1 1 0 0 [] [] (Or.inl rfl) (Or.inl rfl) ⟨fun q => by omega, fun q => absurd q ht⟩ 2000000).1 0 (by omega) (by omega)
  · rw [chkE_neg h, if_neg (by decide)]

/-! ### EraSafe -/
theorem since_loop (n : Nat) (hn : n ≤ 1000) (st : List Int) (now : Int) (pins : List Int) : ∀ (k i : Nat) (s : List Int), s.length = n → i ≤ n → n < k + i → (∀ j, j < i → s.getD j 0 = -1) → ∃ k', k' = k - (n - i) - 1 ∧ tendrillaw06_EraSafe_L22 k n st n i now s pins = tendrillaw06_EraSafe_L32 k' n st st.length 0 now (List.replicate n (-1)) pins
  | 0, i, s, hs, hi, hk, hj => by omega
  | k + 1, i, s, hs, hi, hk, hj => by
    rw [tendrillaw06_EraSafe_L22]
    by_cases hlt : i < n
    · obtain ⟨k', h1, h2⟩ := since_loop n hn st now pins k (i + 1) (s.set i (-1)) (by simpa using hs) (by omega) (by omega) (fun j hj' => by
        rw [getD_set s i j (-1) 0 (by omega)]
        by_cases e : i = j
        · rw [if_pos e]
        · rw [if_neg e]; exact hj j (by omega))
      simp only [show (i : Int) < (n : Int) by omega, show (0 : Int) ≤ (i : Int) by omega, hs, decide_true, cond_true, Int.toNat_natCast, wi (show i ≤ 1000000 by omega)]
      exact ⟨k', by omega, h2⟩
    · have : i = n := by omega
      subst this
      have e : s = List.replicate i (-1) := by
        apply ext_getD 0 (by simpa using hs)
        intro j hj'
        rw [hj j (by omega), getD_rep i j (-1) 0 (by omega)]
      subst e
      simp only [Int.lt_irrefl, decide_false, cond_false]
      exact ⟨k, by omega, rfl⟩

theorem turn_cases (e : Era) (h : okE e) : turnV e = (e, false) ∨ turnV e = ((e.1 + 1, e.2), true) := by
  unfold turnV
  rw [if_pos h]
  split
  · exact Or.inl rfl
  · exact Or.inr rfl

theorem safe_loops (n : Nat) (hn1 : 1 ≤ n) (hn : n ≤ 8) (st : List Int) (m : Nat) (hm : st.length = m) (hm2 : m ≤ 1000) (hst : ∀ s ∈ st, s ≤ 9223372036854775807) : ∀ (k : Nat),
    (∀ (i : Nat) (now : Int) (l : List Int), okE (now, l) → l.length = n → i ≤ m → (m - i) * 100 + 1 ≤ k → tendrillaw06_EraSafe_L32 k n st m i now l l = some true) ∧
    (∀ (i j : Nat) (now : Int) (l : List Int), okE (now, l) → l.length = n → i < m → j ≤ n → (m - (i + 1)) * 100 + (n - j) + 2 ≤ k → tendrillaw06_EraSafe_L88 k n st m i n j now l l = some true)
  | 0 => ⟨by intros; omega, by intros; omega⟩
  | k + 1 => by
    obtain ⟨ih1, ih2⟩ := safe_loops n hn1 hn st m hm hm2 hst k
    refine ⟨?_, ?_⟩
    · intro i now l hok hl hi hk
      rw [tendrillaw06_EraSafe_L32]
      have hnow0 : 0 ≤ now := hok.1
      have hnow1 : now ≤ 1152921504606846976 := hok.2.1
      by_cases hlt : i < m
      · simp only [show (i : Int) < (m : Int) by omega, show (0 : Int) ≤ (i : Int) by omega, hm, decide_true, cond_true, Int.toNat_natCast, dec, eqc, nec, etaE, ppin_eq, punpin_eq, pturn_eq, pche_eq, Option.bind_some]
        have hs := hst (st.getD i 0) (by rw [getD_get st i 0 (by omega)]; exact List.getElem_mem _)
        by_cases a : st.getD i 0 < 0
        · rw [if_pos a]
        rw [if_neg a, if_neg (by omega)]
        have e1 : (wrap64 ((st.getD i 0).tdiv 3)).tmod n = st.getD i 0 / 3 % (n : Int) := by
          rw [(tdm (st.getD i 0) 3 (by omega)).1, w64 (by omega) (by omega), (tdm (st.getD i 0 / 3) n (by omega)).2]
        simp only [e1]
        have b0 : 0 ≤ st.getD i 0 / 3 % (n : Int) := Int.emod_nonneg _ (by omega)
        have b1 : st.getD i 0 / 3 % (n : Int) < (n : Int) := Int.emod_lt_of_pos _ (by omega)
        obtain ⟨t, ht⟩ : ∃ t, st.getD i 0 / 3 % (n : Int) = t := ⟨_, rfl⟩
        simp only [ht] at b0 b1 ⊢
        have go : ∀ (now' : Int) (l' : List Int), okE (now', l') → l'.length = n → tendrillaw06_EraSafe_L88 k n st m i l'.length 0 now' l' l' = some true := fun now' l' q1 q2 => by rw [q2]; exact ih2 i 0 now' l' q1 q2 hlt (by omega) (by omega)
        by_cases c0 : (st.getD i 0).tmod 3 = 0
        · rw [if_pos c0]
          rw [if_pos b0, if_pos (by omega)]
          by_cases d : l.getD t.toNat 0 = -1
          · have p1 : pinV (now, l) t = ((now, l.set t.toNat now), 0) := if_pos ⟨hok, b0, by simp only; omega, d⟩
            have hk' := okE_set (t := t.toNat) (v := now) hok (Or.inr ⟨hnow0, by simp, by simp only; omega⟩)
            simp only at hk'
            simp only [p1, d]
            rw [if_pos trivial]
            simp only [chkE_pos hk', show (!(((0 : Int) == 0) == ((-1 : Int) == -1))) = false from rfl, cond_false]
            rw [if_pos b0, if_pos (by omega), if_pos trivial]
            exact go now _ hk' (by simpa using hl)
          · have p1 : pinV (now, l) t = (noE, 1) := if_neg fun q => d q.2.2.2
            simp only [p1]
            have e : (!(((1 : Int) == 0) == (l.getD t.toNat 0 == -1))) = false := by rw [eq_dec (l.getD t.toNat 0), decide_eq_false d]; rfl
            simp only [e, cond_false]
            rw [if_neg (by decide), chkE_pos hok, if_pos rfl]
            exact go now l hok hl
        · rw [if_neg c0]
          by_cases c1 : (st.getD i 0).tmod 3 = 1
          · rw [if_pos c1]
            rw [if_pos b0, if_pos (by omega)]
            by_cases d : l.getD t.toNat 0 = -1
            · have p1 : unpinV (now, l) t = (noE, 2) := by unfold unpinV; rw [if_pos ⟨hok, b0, by simp only; omega⟩, if_pos d]
              simp only [p1, d]
              simp only [show (!(((2 : Int) == 0) == ((-1 : Int) != -1))) = false from rfl, cond_false]
              rw [if_neg (by decide), chkE_pos hok, if_pos rfl]
              exact go now l hok hl
            · have p1 : unpinV (now, l) t = ((now, l.set t.toNat (-1)), 0) := by unfold unpinV; rw [if_pos ⟨hok, b0, by simp only; omega⟩, if_neg d]
              have hk' := okE_set (t := t.toNat) (v := -1) hok (Or.inl rfl)
              simp only at hk'
              have e : (!(((0 : Int) == 0) == (l.getD t.toNat 0 != -1))) = false := by rw [ne_dec (l.getD t.toNat 0), decide_eq_false d]; rfl
              simp only [p1, e, cond_false]
              rw [if_pos trivial, if_pos b0, if_pos (by omega), chkE_pos hk', if_pos rfl]
              exact go now _ hk' (by simpa using hl)
          · rw [if_neg c1]
            rcases turn_cases (now, l) hok with p | p
            · have e : (!(false == (now == wrap64 (now + 1)))) = false := by
                have : ¬ now = now + 1 := by omega
                rw [w64 (by omega) (by omega), eq_dec]; simp [this]
              simp only [p, e, cond_false, Bool.not_false, cond_true]
              rw [if_pos trivial, chkE_pos hok, if_pos rfl]
              exact go now l hok hl
            · have hk' := okE_turn hok
              rw [p] at hk'
              simp only at hk'
              have e : (!(true == (now + 1 == wrap64 (now + 1)))) = false := by rw [w64 (by omega) (by omega), eq_dec]; simp
              simp only [p, e, cond_false, Bool.not_true]
              rw [chkE_pos hk', if_pos rfl]
              exact go _ l hk' hl
      · have : i = m := by omega
        subst this
        simp only [Int.lt_irrefl, decide_false, cond_false]
    · intro i j now l hok hl hi hj hk
      rw [tendrillaw06_EraSafe_L88]
      have hnow0 : 0 ≤ now := hok.1
      have hnow1 : now ≤ 1152921504606846976 := hok.2.1
      by_cases hlt : j < n
      · have hp := hok.2.2.2.2 (l.getD j 0) (by simp only; rw [getD_get l j 0 (by omega)]; exact List.getElem_mem _)
        simp only at hp
        have es : safeV (now, l) = now - 2 := if_pos hok
        simp only [show (j : Int) < (n : Int) by omega, show (j : Int) < (l.length : Int) by omega, show (0 : Int) ≤ (j : Int) by omega, decide_true, cond_true, Int.toNat_natCast, dec, nec, psafe_eq, es, Option.bind_some, wi (show j ≤ 1000000 by omega)]
        have go := ih2 i (j + 1) now l hok hl hi (by omega) (by omega)
        by_cases a : l.getD j 0 = -1
        · rw [if_pos a]; exact go
        · have e3 : wrap64 (l.getD j 0 + 1) = l.getD j 0 + 1 := w64 (by rcases hp with q | q <;> omega) (by rcases hp with q | q <;> omega)
          simp only [e3]
          rw [if_neg a, if_neg (by rcases hp with q | q <;> omega), if_neg (by rcases hp with q | q <;> omega)]
          exact go
      · have : j = n := by omega
        subst this
        simp only [Int.lt_irrefl, decide_false, cond_false, wi (show i ≤ 1000000 by omega)]
        exact ih1 (i + 1) now l hok hl (by omega) (by omega)

theorem EraSafe_K (K : Nat) (hK : 100000 ≤ K) (x : Int × List Int) (hx : ∀ s ∈ x.2, s ≤ 9223372036854775807) : tendrillaw06_EraSafe_K K x = some true := by
  obtain ⟨n, st⟩ := x
  simp only at hx
  unfold tendrillaw06_EraSafe_K
  simp only [live6_eq, Option.bind_some, Bool.not_true, cond_false, dec, nec, pnewE_eq]
  by_cases a : n < 1
  · rw [if_pos a]
  rw [if_neg a]
  by_cases b : 8 < n
  · rw [if_pos b]
  rw [if_neg b]
  by_cases c : (100 : Int) < (st.length : Int)
  · rw [if_pos c]
  rw [if_neg c]
  obtain ⟨q, rfl⟩ := Int.eq_ofNat_of_zero_le (show 0 ≤ n by omega)
  have e : newE (q : Int) = ((0, List.replicate q (-1)), 0) := by unfold newE; rw [if_pos (by omega), Int.toNat_natCast]
  simp only [e, List.length_replicate, Int.toNat_natCast]
  rw [if_pos trivial, if_pos trivial, if_pos (by omega), if_pos (by omega)]
  obtain ⟨k', h1, h2⟩ := since_loop q (by omega) st 0 (List.replicate q (-1)) K 0 (List.replicate q 0) (by simp) (by omega) (by omega) (fun j hj => by omega)
  rw [show ((0 : Nat) : Int) = 0 from rfl] at h2
  rw [h2]
  exact (safe_loops q (by omega) (by omega) st st.length rfl (by omega) hx k').1 0 0 _ (okE_rep q (by omega) (by omega) 0 (by omega) (by omega)) (by simp) (by omega) (by omega)

theorem EraSafe (x : Int × List Int) (hx : InRT [⟨false, .int⟩, ⟨false, .sl .int⟩] x) : tendrillaw06_EraSafe x = some true := EraSafe_K 2000000 (by decide) x fun s hs => (hx.2.2 s hs).2
end Go.Proofs.Ytcoiboghdmmdcab.Pure
