/- Pools: what may be; what pool's functions and the reference's come to; no condition. -/
import Derived.Test.YtcoiboghdmmdcacPureSame
import Derived.Test.YtcoiboghdmmdcacPurePack
set_option linter.unusedVariables false
set_option linter.unusedSimpArgs false
namespace Go.Proofs.Ytcoiboghdmmdcac.Pure
open Go Go.RowKit Go.Proofs.YtcoiboghdmmdcacFn Go.Proofs.YtcoiboghdmmdcacPx

abbrev Pool := List Int × List Int × List Int × List Int
abbrev noP : Pool := ([], [], [], [])

def slotOk (g s w : Int) : Prop := 0 ≤ g ∧ g ≤ 1099511627775 ∧ 0 ≤ s ∧ s ≤ 2 ∧ (s = 2 ∨ w = 0)
def slotsFrom (p : Pool) (i : Nat) : Prop := ∀ t, i ≤ t → t < p.1.length → slotOk (p.1.getD t 0) (p.2.1.getD t 0) (p.2.2.1.getD t 0)
def freeOk (S F : List Int) (n : Nat) : Prop := ∀ t, t < n → F.count (t : Int) = if S.getD t 0 = 0 then 1 else 0
def inAll (F : List Int) (n : Nat) : Prop := ∀ f ∈ F, 0 ≤ f ∧ f < (n : Int)
/-- A pool that may be. -/
def okP (p : Pool) : Prop := (1 ≤ p.1.length ∧ p.1.length ≤ 64) ∧ (p.2.1.length = p.1.length ∧ p.2.2.1.length = p.1.length) ∧ slotsFrom p 0 ∧ inAll p.2.2.2 p.1.length ∧ freeOk p.2.1 p.2.2.2 p.1.length
open Classical in
noncomputable def chk (p : Prop) : Int := if p then 0 else 1
theorem chk_pos {p : Prop} (h : p) : chk p = 0 := if_pos h
theorem chk_neg {p : Prop} (h : ¬ p) : chk p = 1 := if_neg h
theorem chk_congr {p q : Prop} (h : p ↔ q) : chk p = chk q := by rw [propext h]
theorem chk_zero {p : Prop} : chk p = 0 ↔ p := by
  by_cases h : p
  · exact ⟨fun _ => h, fun _ => chk_pos h⟩
  · exact ⟨fun e => by rw [chk_neg h] at e; exact absurd e (by decide), fun q => absurd q h⟩

/-! ### pool.Check -/
theorem index_loop (b : List Bool) (v : Bool) (n : Nat) (hn : b.length = n) (hb : n ≤ 1000000) : ∀ (k i : Nat), i ≤ n → n < k + i → ∃ r, slices_Index_L6 k b v n i = some r ∧ (0 ≤ r ↔ v ∈ b.drop i)
  | 0, i, hi, hk => by omega
  | k + 1, i, hi, hk => by
    rw [slices_Index_L6]
    by_cases hlt : i < n
    · have e := drop_cons b i false (by omega)
      obtain ⟨r, h1, h2⟩ := index_loop b v n hn hb k (i + 1) (by omega) (by omega)
      simp only [show (i : Int) < (n : Int) by omega, show (0 : Int) ≤ (i : Int) by omega, hn, decide_true, cond_true, Int.toNat_natCast, wi (show i ≤ 1000000 by omega), h1, e]
      by_cases he : v = b.getD i false
      · refine ⟨i, by rw [← he]; cases v <;> rfl, ?_⟩
        exact ⟨fun _ => by rw [he]; exact List.mem_cons_self, fun _ => by omega⟩
      · refine ⟨r, by cases v <;> cases hq : b.getD i false <;> simp_all, ?_⟩
        rw [h2, List.mem_cons]
        exact ⟨.inr, fun h => h.resolve_left he⟩
    · have : i = n := by omega
      subst this
      refine ⟨-1, by simp, ?_⟩
      rw [List.drop_of_length_le (by omega)]
      simp

theorem contains_eq (b : List Bool) (v : Bool) (hb : b.length ≤ 1000000) : slices_Contains (b, v) = some (decide (v ∈ b)) := by
  unfold slices_Contains slices_Index slices_Index_K
  obtain ⟨r, h1, h2⟩ := index_loop b v b.length rfl hb 2000000 0 (by omega) (by omega)
  simp only [show ((0 : Nat) : Int) = 0 from rfl] at h1
  simp only [h1, Option.bind_some, Option.some.injEq]
  rw [List.drop_zero] at h2
  rw [Bool.eq_iff_iff]
  simp [h2]

theorem mark_loop (n : Nat) (F : List Int) (hn : n ≤ 1000) (hF : F.length ≤ 1000) : ∀ (k j : Nat) (b : List Bool), b.length = n → j ≤ F.length → F.length + 1 < k + j →
    pool_Check_L28 k n F F.length j b = some (chk (inAll (F.drop j) n ∧ ∀ t, t < n → (F.drop j).count (t : Int) = if b.getD t false then 1 else 0))
  | 0, j, b, hb, hj, hk => by omega
  | k + 1, j, b, hb, hj, hk => by
    rw [pool_Check_L28]
    by_cases hlt : j < F.length
    · have e := drop_cons F j 0 hlt
      simp only [show (j : Int) < (F.length : Int) by omega, show (0 : Int) ≤ (j : Int) by omega, decide_true, cond_true, Int.toNat_natCast, wi (show j ≤ 1000000 by omega), hb, dec]
      rw [e]
      obtain ⟨f, hf⟩ : ∃ f, F.getD j 0 = f := ⟨_, rfl⟩
      simp only [hf]
      by_cases h0 : f < 0
      · rw [if_pos h0, chk_neg]
        rintro ⟨h, _⟩
        have := h f (by simp)
        omega
      rw [if_neg h0]
      by_cases h1 : (n : Int) ≤ f
      · rw [if_pos h1, chk_neg]
        rintro ⟨h, _⟩
        have := h f (by simp)
        omega
      rw [if_neg h1, if_pos (by omega), if_pos (by omega), if_pos (by omega), if_pos (by omega)]
      obtain ⟨q, rfl⟩ := Int.eq_ofNat_of_zero_le (show 0 ≤ f by omega)
      have hq : q < n := by omega
      simp only [Int.toNat_natCast]
      cases hbq : b.getD q false with
      | false =>
        simp only [Bool.not_false, cond_true]
        rw [chk_neg]
        rintro ⟨_, h⟩
        have := h q hq
        rw [hbq, List.count_cons_self] at this
        simp at this
      | true =>
        simp only [Bool.not_true, cond_false]
        rw [mark_loop n F hn hF k (j + 1) (b.set q false) (by simp [hb]) (by omega) (by omega)]
        congr 1
        apply chk_congr
        constructor
        · rintro ⟨h, h'⟩
          refine ⟨fun x hx => ?_, fun t ht => ?_⟩
          · rcases List.mem_cons.1 hx with rfl | hx
            · omega
            · exact h x hx
          · have := h' t ht
            rw [getD_set b q t false false (by omega)] at this
            rw [List.count_cons, this]
            by_cases hqt : q = t
            · subst hqt; simp only [hbq, beq_self_eq_true, if_true, Bool.false_eq_true, if_false]
            · have hne : ((q : Int) == (t : Int)) = false := by rw [beq_eq_false_iff_ne]; omega
              simp only [hqt, if_false, hne, Bool.false_eq_true, Nat.add_zero]
        · rintro ⟨h, h'⟩
          refine ⟨fun x hx => h x (List.mem_cons_of_mem _ hx), fun t ht => ?_⟩
          have := h' t ht
          rw [List.count_cons] at this
          rw [getD_set b q t false false (by omega)]
          by_cases hqt : q = t
          · subst hqt
            simp only [hbq, beq_self_eq_true, if_true] at this
            simp only [if_true, Bool.false_eq_true, if_false]
            omega
          · have hne : ((q : Int) == (t : Int)) = false := by rw [beq_eq_false_iff_ne]; omega
            simp only [hne, Bool.false_eq_true, if_false, Nat.add_zero] at this
            simp only [hqt, if_false]
            exact this
    · have : j = F.length := by omega
      subst this
      simp only [Int.lt_irrefl, decide_false, cond_false]
      rw [contains_eq b true (by omega), List.drop_of_length_le (Nat.le_refl _)]
      simp only [Option.bind_some]
      by_cases hm : true ∈ b
      · rw [chk_neg]
        · simp [hm]
        · rintro ⟨_, h⟩
          obtain ⟨t, ht, e⟩ := List.getElem_of_mem hm
          have := h t (by omega)
          rw [getD_get b t false ht, e] at this
          simp at this
      · rw [chk_pos]
        · simp [hm]
        · refine ⟨fun x hx => by simp at hx, fun t ht => ?_⟩
          have : b.getD t false = false := by
            rw [getD_get b t false (by omega)]
            cases hq : b[t]'(by omega) with
            | false => rfl
            | true => exact absurd (hq ▸ List.getElem_mem _) hm
          rw [this]; rfl

theorem slots_loop (p : Pool) (n : Nat) (h0 : p.1.length = n) (h1 : p.2.1.length = n) (h2 : p.2.2.1.length = n) (hn : n ≤ 64) (hF : p.2.2.2.length ≤ 1000) : ∀ (k i : Nat) (b : List Bool), b.length = n → i ≤ n → n + p.2.2.2.length + 5 < k + i →
    (∀ t, t < i → b.getD t false = decide (p.2.1.getD t 0 = 0)) →
    pool_Check_L14 k n p.2.1 n i p.1 p.2.1 p.2.2.1 p.2.2.2 b = some (chk (slotsFrom p i ∧ inAll p.2.2.2 n ∧ freeOk p.2.1 p.2.2.2 n))
  | 0, i, b, hb, hi, hk, hv => by omega
  | k + 1, i, b, hb, hi, hk, hv => by
    obtain ⟨G, S, W, F⟩ := p
    simp only at h0 h1 h2 hF hk hv ⊢
    rw [pool_Check_L14]
    by_cases hlt : i < n
    · have ih : slotOk (G.getD i 0) (S.getD i 0) (W.getD i 0) → pool_Check_L14 k n S n (i + 1 : Nat) G S W F (b.set i (S.getD i 0 == 0)) = some (chk (slotsFrom (G, S, W, F) i ∧ inAll F n ∧ freeOk S F n)) := fun hs => by
        refine (slots_loop (G, S, W, F) n h0 h1 h2 hn hF k (i + 1) (b.set i (S.getD i 0 == 0)) (by simp [hb]) (by omega) (by simp only; omega) fun t ht => ?_).trans ?_
        · rw [getD_set b i t _ _ (by omega)]
          by_cases e : i = t
          · subst e; simp [eq_dec]
          · simp only [e, if_false]; exact hv t (by omega)
        · congr 1
          apply chk_congr
          refine and_congr_left fun _ => ⟨fun h t h3 h4 => ?_, fun h t h3 h4 => h t (by omega) h4⟩
          by_cases e : i = t
          · subst e; exact hs
          · exact h t (by omega) h4
      have no : ¬ slotOk (G.getD i 0) (S.getD i 0) (W.getD i 0) → chk (slotsFrom (G, S, W, F) i ∧ inAll F n ∧ freeOk S F n) = 1 := fun hs => chk_neg fun h => hs (h.1 i (by omega) (by simp only; omega))
      simp only [show (i : Int) < (n : Int) by omega, show (0 : Int) ≤ (i : Int) by omega, h0, h1, h2, hb, decide_true, cond_true, Int.toNat_natCast, wi (show i ≤ 1000000 by omega), dec, nec]
      by_cases a1 : G.getD i 0 < 0
      · rw [if_pos a1, no (fun h => by have := h.1; omega)]
      rw [if_neg a1]
      by_cases a2 : 1099511627775 < G.getD i 0
      · rw [if_pos a2, no (fun h => by have := h.2.1; omega)]
      rw [if_neg a2]
      by_cases a3 : S.getD i 0 < 0
      · rw [if_pos a3, no (fun h => by have := h.2.2.1; omega)]
      rw [if_neg a3]
      by_cases a4 : 2 < S.getD i 0
      · rw [if_pos a4, no (fun h => by have := h.2.2.2.1; omega)]
      rw [if_neg a4]
      by_cases a5 : S.getD i 0 = 2
      · rw [if_pos a5]
        exact ih ⟨by omega, by omega, by omega, by omega, .inl a5⟩
      rw [if_neg a5]
      by_cases a6 : W.getD i 0 = 0
      · rw [if_pos a6]
        exact ih ⟨by omega, by omega, by omega, by omega, .inr a6⟩
      · rw [if_neg a6, no (fun h => by have := h.2.2.2.2; omega)]
    · have : i = n := by omega
      subst this
      simp only [Int.lt_irrefl, decide_false, cond_false]
      have := mark_loop i F (by omega) hF k 0 b hb (by omega) (by omega)
      simp only [List.drop_zero, show ((0 : Nat) : Int) = 0 from rfl] at this
      rw [this]
      congr 1
      apply chk_congr
      constructor
      · rintro ⟨g1, g2⟩
        refine ⟨fun t h3 h4 => by simp only at h4; omega, g1, fun t ht => ?_⟩
        rw [g2 t ht, hv t ht]; simp
      · rintro ⟨_, g1, g2⟩
        refine ⟨g1, fun t ht => ?_⟩
        rw [g2 t ht, hv t ht]; simp

theorem pcheck_eq (p : Pool) (hF : p.2.2.2.length ≤ 1000) : pool_Check p = some (chk (okP p)) := by
  unfold pool_Check pool_Check_K
  simp only [dec, nec]
  by_cases h1 : (p.1.length : Int) < 1
  · rw [if_pos h1, chk_neg (fun h => by have := h.1; omega)]
  rw [if_neg h1]
  by_cases h2 : 64 < (p.1.length : Int)
  · rw [if_pos h2, chk_neg (fun h => by have := h.1; omega)]
  rw [if_neg h2]
  by_cases h3 : (p.2.1.length : Int) = p.1.length
  · rw [if_pos h3]
    by_cases h4 : (p.2.2.1.length : Int) = p.1.length
    · rw [if_pos h4, if_pos (by omega), Int.toNat_natCast]
      have := slots_loop p p.1.length rfl (by omega) (by omega) (by omega) hF 2000000 0 (List.replicate p.1.length false) (by simp) (by omega) (by omega) (fun t ht => by omega)
      rw [h3]
      refine this.trans ?_
      congr 1
      apply chk_congr
      exact ⟨fun h => ⟨⟨by omega, by omega⟩, ⟨by omega, by omega⟩, h⟩, fun h => h.2.2⟩
    · rw [if_neg h4, chk_neg (fun h => by have := h.2.1; omega)]
  · rw [if_neg h3, chk_neg (fun h => by have := h.2.1; omega)]

/-! ### The reference's -/
theorem countP_succ (F : List Int) (i : Nat) : F.countP (fun f => decide (0 ≤ f ∧ f < ((i + 1 : Nat) : Int))) = F.countP (fun f => decide (0 ≤ f ∧ f < (i : Int))) + F.count (i : Int) := by
  induction F with
  | nil => rfl
  | cons f F ih =>
    simp only [List.countP_cons, List.count_cons, ih, decide_eq_true_eq, beq_iff_eq]
    by_cases h1 : f = (i : Int)
    · rw [if_pos (by omega), if_neg (by omega), if_pos h1]
      omega
    · by_cases h2 : 0 ≤ f ∧ f < (i : Int)
      · rw [if_pos (by omega), if_pos h2, if_neg h1]
        omega
      · rw [if_neg (by omega), if_neg h2, if_neg h1]
        omega

theorem countP_zero (F : List Int) : F.countP (fun f => decide (0 ≤ f ∧ f < ((0 : Nat) : Int))) = 0 := by
  rw [List.countP_eq_zero]
  intro f _
  simp only [decide_eq_true_eq]
  omega

theorem countP_all (F : List Int) (n : Nat) : F.countP (fun f => decide (0 ≤ f ∧ f < (n : Int))) = F.length ↔ inAll F n := by
  rw [List.countP_eq_length]
  constructor
  · intro h f hf; exact of_decide_eq_true (h f hf)
  · intro h f hf; exact decide_eq_true (h f hf)

def slotsCnt (p : Pool) (i : Nat) : Prop := ∀ t, i ≤ t → t < p.1.length → slotOk (p.1.getD t 0) (p.2.1.getD t 0) (p.2.2.1.getD t 0) ∧ p.2.2.2.count (t : Int) = if p.2.1.getD t 0 = 0 then 1 else 0
end Go.Proofs.Ytcoiboghdmmdcac.Pure
