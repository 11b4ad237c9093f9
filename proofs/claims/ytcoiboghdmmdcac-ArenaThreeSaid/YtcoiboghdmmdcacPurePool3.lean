/- Pools: what is kept by whatever is done; made, and counted; no condition. -/
import Derived.Test.YtcoiboghdmmdcacPurePool2
set_option linter.unusedVariables false
set_option linter.unusedSimpArgs false
namespace Go.Proofs.Ytcoiboghdmmdcac.Pure
open Go Go.RowKit Go.Proofs.YtcoiboghdmmdcacFn Go.Proofs.YtcoiboghdmmdcacPx

/-! ### What is kept -/
theorem okP_take {G S W F : List Int} {f : Int} (h : okP (G, S, W, f :: F)) : okP (G, S.set f.toNat 1, W, F) ∧ (0 ≤ f ∧ f < (G.length : Int)) ∧ S.getD f.toNat 0 = 0 := by
  have hl := h.lens
  have hf := h.inF f (by simp)
  have hc := h.cnt
  simp only at hl hf hc
  obtain ⟨q, rfl⟩ := Int.eq_ofNat_of_zero_le hf.1
  simp only [Int.toNat_natCast]
  have hq : q < G.length := by omega
  have hz : S.getD q 0 = 0 := by
    have := hc q hq
    rw [List.count_cons_self] at this
    by_cases e : S.getD q 0 = 0
    · exact e
    · rw [if_neg e] at this; omega
  refine ⟨⟨hl.1, ⟨by simp only [List.length_set]; exact hl.2.1, hl.2.2⟩, fun t h1 h2 => ?_, fun x hx => h.inF x (List.mem_cons_of_mem _ hx), fun t ht => ?_⟩, hf, hz⟩
  · simp only at h2 ⊢
    have := h.slot (t := t) h2
    simp only at this
    rw [getD_set S q t 1 0 (by omega)]
    by_cases e : q = t
    · subst e
      rw [if_pos rfl]
      refine ⟨this.1, this.2.1, by omega, by omega, ?_⟩
      have := this.2.2.2.2
      rw [hz] at this
      omega
    · rw [if_neg e]; exact this
  · simp only at ht ⊢
    have := hc t ht
    rw [List.count_cons] at this
    rw [getD_set S q t 1 0 (by omega)]
    by_cases e : q = t
    · subst e
      rw [if_pos rfl]
      rw [hz] at this
      simp at this ⊢
      exact this
    · have hne : ((q : Int) == (t : Int)) = false := by rw [beq_eq_false_iff_ne]; omega
      rw [hne] at this
      rw [if_neg e, ← this]
      simp

theorem okP_retire {p : Pool} {u : Int × Int × Int} (w : Int) (h : okP p) (h0 : 0 ≤ u.1) (h1 : u.1 < (p.1.length : Int)) (h2 : holdsR p u) : okP (p.1, p.2.1.set u.1.toNat 2, p.2.2.1.set u.1.toNat w, p.2.2.2) := by
  obtain ⟨G, S, W, F⟩ := p
  have hl := h.lens
  have hc := h.cnt
  simp only [holdsR] at hl h1 h2 hc ⊢
  refine ⟨hl.1, ⟨by simp only [List.length_set]; exact hl.2.1, by simp only [List.length_set]; exact hl.2.2⟩, fun t h3 h4 => ?_, h.inF, fun t ht => ?_⟩
  · simp only at h4 ⊢
    have := h.slot (t := t) h4
    simp only at this
    rw [getD_set S u.1.toNat t 2 0 (by omega), getD_set W u.1.toNat t w 0 (by omega)]
    by_cases e : u.1.toNat = t
    · rw [if_pos e, if_pos e]
      exact ⟨this.1, this.2.1, by omega, by omega, .inl rfl⟩
    · rw [if_neg e, if_neg e]; exact this
  · simp only at ht ⊢
    have := hc t ht
    rw [getD_set S u.1.toNat t 2 0 (by omega), this]
    by_cases e : u.1.toNat = t
    · subst e
      rw [h2.1]; simp
    · rw [if_neg e]

theorem okP_recStep {p : Pool} (u : Int) (i : Nat) (h : okP p) (hi : i < p.1.length) : okP (recStep u i p) := by
  unfold recStep
  split
  · rename_i hc
    obtain ⟨G, S, W, F⟩ := p
    have hl := h.lens
    have hcn := h.cnt
    have hs := h.slot (t := i) hi
    simp only [recCond] at hl hc hcn hi hs ⊢
    refine ⟨by simp only [List.length_set]; exact hl.1, ⟨by simp only [List.length_set]; exact hl.2.1, by simp only [List.length_set]; exact hl.2.2⟩, fun t h3 h4 => ?_, fun x hx => ?_, fun t ht => ?_⟩
    · simp only [List.length_set] at h4 ⊢
      have := h.slot (t := t) h4
      simp only at this
      rw [getD_set S i t 0 0 (by omega), getD_set W i t 0 0 (by omega), getD_set G i t _ 0 (by omega)]
      by_cases e : i = t
      · subst e
        rw [if_pos rfl, if_pos rfl, if_pos rfl]
        exact ⟨by have := hs.1; omega, by have := hs.2.1; omega, by omega, by omega, .inr rfl⟩
      · rw [if_neg e, if_neg e, if_neg e]; exact this
    · simp only [List.length_set]
      rcases List.mem_append.1 hx with hx | hx
      · exact h.inF x hx
      · rw [List.mem_singleton] at hx
        subst hx
        omega
    · simp only [List.length_set] at ht ⊢
      have := hcn t ht
      rw [List.count_append, this, getD_set S i t 0 0 (by omega)]
      by_cases e : i = t
      · subst e
        rw [hc.1]; simp
      · have hne : ((i : Int) == (t : Int)) = false := by rw [beq_eq_false_iff_ne]; omega
        rw [if_neg e, List.count_singleton, hne]; simp
  · exact h

theorem okP_recFrom (u : Int) : ∀ (d i : Nat) (p : Pool), okP p → i + d ≤ p.1.length → okP (recFrom u d i p)
  | 0, _, _, h, _ => h
  | d + 1, i, p, h, hd => okP_recFrom u d (i + 1) (recStep u i p) (okP_recStep u i h (by omega)) (by rw [(recStep_len u i p).1]; omega)

theorem recFrom_out (u : Int) : ∀ (d i t : Nat) (p : Pool), (t < i ∨ i + d ≤ t) → (recFrom u d i p).1.getD t 0 = p.1.getD t 0 ∧ (recFrom u d i p).2.1.getD t 0 = p.2.1.getD t 0 ∧ (recFrom u d i p).2.2.1.getD t 0 = p.2.2.1.getD t 0
  | 0, _, _, _, _ => ⟨rfl, rfl, rfl⟩
  | d + 1, i, t, p, h => by
    obtain ⟨a1, a2, a3⟩ := recFrom_out u d (i + 1) t (recStep u i p) (by omega)
    obtain ⟨b1, b2, b3⟩ := recStep_getD u i t p (by omega)
    exact ⟨a1.trans b1, a2.trans b2, a3.trans b3⟩

theorem recCond_congr (u : Int) (t : Nat) {p q : Pool} (h : q.1.getD t 0 = p.1.getD t 0 ∧ q.2.1.getD t 0 = p.2.1.getD t 0 ∧ q.2.2.1.getD t 0 = p.2.2.1.getD t 0) : recCond u t q ↔ recCond u t p := by
  unfold recCond; rw [h.1, h.2.1, h.2.2]

theorem recFrom_in (u : Int) : ∀ (d i t : Nat) (p : Pool), i ≤ t → t < i + d → t < p.1.length → p.2.1.length = p.1.length → p.2.2.1.length = p.1.length →
    (recCond u t p → (recFrom u d i p).1.getD t 0 = p.1.getD t 0 + 1 ∧ (recFrom u d i p).2.1.getD t 0 = 0 ∧ (recFrom u d i p).2.2.1.getD t 0 = 0) ∧
    (¬ recCond u t p → (recFrom u d i p).1.getD t 0 = p.1.getD t 0 ∧ (recFrom u d i p).2.1.getD t 0 = p.2.1.getD t 0 ∧ (recFrom u d i p).2.2.1.getD t 0 = p.2.2.1.getD t 0)
  | 0, i, t, p, h1, h2, _, _, _ => by omega
  | d + 1, i, t, p, h1, h2, h3, h4, h5 => by
    by_cases e : i = t
    · subst e
      obtain ⟨a1, a2, a3⟩ := recFrom_out u d (i + 1) i (recStep u i p) (.inl (by omega))
      show (recCond u i p → (recFrom u d (i + 1) (recStep u i p)).1.getD i 0 = _ ∧ (recFrom u d (i + 1) (recStep u i p)).2.1.getD i 0 = _ ∧ (recFrom u d (i + 1) (recStep u i p)).2.2.1.getD i 0 = _) ∧ (¬ recCond u i p → (recFrom u d (i + 1) (recStep u i p)).1.getD i 0 = _ ∧ (recFrom u d (i + 1) (recStep u i p)).2.1.getD i 0 = _ ∧ (recFrom u d (i + 1) (recStep u i p)).2.2.1.getD i 0 = _)
      rw [a1, a2, a3]
      unfold recStep
      constructor
      · intro hc
        rw [if_pos hc]
        simp only [getD_set p.1 i i _ 0 h3, getD_set p.2.1 i i _ 0 (by omega), getD_set p.2.2.1 i i _ 0 (by omega), if_true, and_self]
      · intro hc
        rw [if_neg hc]
        exact ⟨rfl, rfl, rfl⟩
    · obtain ⟨l1, l2, l3, _, _⟩ := recStep_len u i p
      have hg := recStep_getD u i t p e
      have ih := recFrom_in u d (i + 1) t (recStep u i p) (by omega) (by omega) (by omega) (by omega) (by omega)
      rw [recCond_congr u t hg, hg.1, hg.2.1, hg.2.2] at ih
      exact ih

theorem recFrom_snoc (u : Int) : ∀ (d i : Nat) (p : Pool), recFrom u (d + 1) i p = recStep u (i + d) (recFrom u d i p)
  | 0, _, _ => rfl
  | d + 1, i, p => by
    show recFrom u (d + 1) (i + 1) (recStep u i p) = _
    rw [recFrom_snoc u d (i + 1) (recStep u i p), show i + 1 + d = i + (d + 1) by omega]
    rfl

/-- How many of the first slots are reclaimed. -/
def cntR (u : Int) (p : Pool) : Nat → Nat
  | 0 => 0
  | d + 1 => cntR u p d + if recCond u d p then 1 else 0

theorem cntR_le (u : Int) (p : Pool) : ∀ d, cntR u p d ≤ d
  | 0 => Nat.le_refl _
  | d + 1 => by have := cntR_le u p d; unfold cntR; split <;> omega

theorem recFrom_many (u : Int) (p : Pool) : ∀ d, (recFrom u d 0 p).2.2.2.length = p.2.2.2.length + cntR u p d
  | 0 => rfl
  | d + 1 => by
    have ih := recFrom_many u p d
    have hc := recCond_congr u d (recFrom_out u d 0 d p (.inr (by omega)))
    rw [recFrom_snoc, Nat.zero_add]
    unfold recStep cntR
    by_cases h : recCond u d p
    · rw [if_pos (hc.2 h), if_pos h]
      simp only [List.length_append, List.length_singleton, ih]
      omega
    · rw [if_neg (fun q => h (hc.1 q)), if_neg h, ih]
      rfl

theorem reclaim_some {p : Pool} (u : Int) (h : okP p) : reclaimV p u = (recFrom u p.1.length 0 p, (cntR u p p.1.length : Int)) := by
  unfold reclaimV
  rw [if_pos h, recFrom_many]
  simp only [Prod.mk.injEq, true_and]
  omega

theorem okP_reclaim {p : Pool} (u : Int) (h : okP p) : okP (recFrom u p.1.length 0 p) := okP_recFrom u p.1.length 0 p h (by omega)

/-! ### Made -/
def rangeI (n : Nat) : List Int := (List.range n).map (fun (i : Nat) => (i : Int))
theorem rangeI_len (n : Nat) : (rangeI n).length = n := by simp [rangeI]
theorem rangeI_succ (n : Nat) : rangeI (n + 1) = rangeI n ++ [(n : Int)] := by simp [rangeI, List.range_succ]
theorem rangeI_count (n t : Nat) : (rangeI n).count (t : Int) = if t < n then 1 else 0 := by
  induction n with
  | zero => rfl
  | succ n ih =>
    rw [rangeI_succ, List.count_append, ih, List.count_singleton]
    by_cases e : n = t
    · subst e; simp
    · have hne : ((n : Int) == (t : Int)) = false := by rw [beq_eq_false_iff_ne]; omega
      rw [hne]
      by_cases h : t < n
      · simp [h, show t < n + 1 by omega]
      · simp [h, show ¬ t < n + 1 by omega]
theorem rangeI_getD (n t : Nat) (h : t < n) : (rangeI n).getD t 0 = (t : Int) := by simp [rangeI, List.getD_eq_getElem?_getD, h]

def newP (n : Nat) : Pool := (List.replicate n 0, List.replicate n 0, List.replicate n 0, rangeI n)
def newV (n : Int) : Pool × Int := if 1 ≤ n ∧ n ≤ 64 then (newP n.toNat, 0) else (noP, 1)

theorem okP_new (n : Nat) (h1 : 1 ≤ n) (h2 : n ≤ 64) : okP (newP n) := by
  refine ⟨by simp [newP]; omega, by simp [newP], fun t _ h4 => ?_, fun x hx => ?_, fun t ht => ?_⟩
  · simp only [newP, List.length_replicate] at h4 ⊢
    rw [getD_rep n t 0 0 h4]
    exact ⟨by omega, by omega, by omega, by omega, .inr rfl⟩
  · simp only [newP, rangeI, List.mem_map, List.mem_range, List.length_replicate] at hx ⊢
    obtain ⟨a, ha, rfl⟩ := hx
    omega
  · simp only [newP, List.length_replicate] at ht
    show (rangeI n).count (t : Int) = if (List.replicate n (0 : Int)).getD t 0 = 0 then 1 else 0
    simp only [getD_rep n t (0 : Int) 0 ht, if_true]
    rw [rangeI_count, if_pos ht]

theorem new_loop (n : Nat) (hn : n ≤ 64) (a b c : List Int) : ∀ (k i : Nat) (f : List Int), f.length = n → i ≤ n → n < k + i → (∀ t, t < i → f.getD t 0 = (t : Int)) →
    pool_New_L12 k n i a b c f = some ((a, b, c, rangeI n), 0)
  | 0, i, f, hf, hi, hk, hv => by omega
  | k + 1, i, f, hf, hi, hk, hv => by
    rw [pool_New_L12]
    by_cases hlt : i < n
    · simp only [show (i : Int) < (n : Int) by omega, show (0 : Int) ≤ (i : Int) by omega, hf, decide_true, cond_true, Int.toNat_natCast, wi (show i ≤ 1000000 by omega)]
      refine new_loop n hn a b c k (i + 1) (f.set i i) (by simp [hf]) (by omega) (by omega) fun t ht => ?_
      rw [getD_set f i t _ 0 (by omega)]
      by_cases e : i = t
      · subst e; rw [if_pos rfl]
      · rw [if_neg e]; exact hv t (by omega)
    · have : i = n := by omega
      subst this
      simp only [Int.lt_irrefl, decide_false, cond_false]
      have : f = rangeI i := ext_getD 0 (by rw [hf, rangeI_len]) fun t ht => by rw [hv t (by omega), rangeI_getD i t (by omega)]
      rw [this]

theorem pnew_eq (n : Int) : pool_New n = some (newV n) := by
  unfold pool_New pool_New_K newV
  simp only [dec]
  by_cases h1 : n < 1
  · rw [if_pos h1, if_neg (by omega)]
  rw [if_neg h1]
  by_cases h2 : 64 < n
  · rw [if_pos h2, if_neg (by omega)]
  obtain ⟨q, rfl⟩ := Int.eq_ofNat_of_zero_le (show 0 ≤ n by omega)
  have e1 : (0 : Int) ≤ (q : Int) := by omega
  have e2 : (q : Int) ≤ 1000000 := by omega
  rw [if_neg h2, if_pos (⟨by omega, by omega⟩ : 1 ≤ (q : Int) ∧ (q : Int) ≤ 64)]
  simp only [e1, e2, if_true, Int.toNat_natCast, List.length_replicate]
  exact new_loop q (by omega) _ _ _ 2000000 0 (List.replicate q 0) (by simp) (by omega) (by omega) (fun t ht => by omega)

/-! ### Counted -/
open Classical in
noncomputable def countV (p : Pool) : Int × Int × Int := if okP p then ((p.2.1.count 1 : Int), (p.2.1.count 2 : Int), (p.2.1.count 0 : Int)) else (0, 0, 0)

theorem count_loop (S : List Int) (n : Nat) (hS : S.length = n) (hn : n ≤ 64) (hv : ∀ t, t < n → 0 ≤ S.getD t 0 ∧ S.getD t 0 ≤ 2) : ∀ (k i a b c : Nat), i ≤ n → n < k + i → a ≤ i → b ≤ i → c ≤ i →
    pool_Count_L10 k a b c S n i = some (((a + (S.drop i).count 1 : Nat) : Int), ((b + (S.drop i).count 2 : Nat) : Int), ((c + (S.drop i).count 0 : Nat) : Int))
  | 0, i, a, b, c, hi, hk, _, _, _ => by omega
  | k + 1, i, a, b, c, hi, hk, ha, hb, hc => by
    rw [pool_Count_L10]
    by_cases hlt : i < n
    · have e := drop_cons S i 0 (by omega)
      have hvi := hv i hlt
      simp only [show (i : Int) < (n : Int) by omega, show (0 : Int) ≤ (i : Int) by omega, hS, decide_true, cond_true, Int.toNat_natCast, wi (show i ≤ 1000000 by omega), wi (show a ≤ 1000000 by omega), wi (show b ≤ 1000000 by omega), wi (show c ≤ 1000000 by omega), eqc]
      rw [e]
      obtain ⟨s, hs⟩ : ∃ s, S.getD i 0 = s := ⟨_, rfl⟩
      rw [hs] at hvi
      simp only [hs]
      have : s = 0 ∨ s = 1 ∨ s = 2 := by omega
      rcases this with rfl | rfl | rfl
      · rw [if_neg (by decide), if_neg (by decide), count_loop S n hS hn hv k (i + 1) a b (c + 1) (by omega) (by omega) (by omega) (by omega) (by omega)]
        simp [List.count_cons]; omega
      · rw [if_pos rfl, count_loop S n hS hn hv k (i + 1) (a + 1) b c (by omega) (by omega) (by omega) (by omega) (by omega)]
        simp [List.count_cons]; omega
      · rw [if_neg (by decide), if_pos rfl, count_loop S n hS hn hv k (i + 1) a (b + 1) c (by omega) (by omega) (by omega) (by omega) (by omega)]
        simp [List.count_cons]; omega
    · have : i = n := by omega
      subst this
      simp only [Int.lt_irrefl, decide_false, cond_false]
      rw [List.drop_of_length_le (by omega)]
      simp

theorem pcount_eq (p : Pool) (hF : p.2.2.2.length ≤ 1000) : pool_Count p = some (countV p) := by
  have hc := pcheck_eq p hF
  unfold pool_Count pool_Count_K countV
  simp only [show ((p.1, p.2.1, p.2.2.1, p.2.2.2) : Pool) = p from rfl, hc, Option.bind_some, nec]
  by_cases h : okP p
  · rw [chk_pos h, if_pos rfl, if_pos h]
    have hl := h.lens
    have := count_loop p.2.1 p.1.length hl.2.1 hl.1.2 (fun t ht => by have := h.slot ht; exact ⟨this.2.2.1, this.2.2.2.1⟩) 2000000 0 0 0 0 (by omega) (by omega) (by omega) (by omega) (by omega)
    rw [show (p.2.1.length : Int) = (p.1.length : Int) by rw [hl.2.1]]
    simp only [Nat.zero_add, List.drop_zero] at this
    exact this
  · rw [chk_neg h, if_neg (by decide), if_neg h]
/-- All slots are live, retired or free; the free ones are listed. -/
theorem okP_counts {p : Pool} (h : okP p) : p.2.1.count 1 + p.2.1.count 2 + p.2.1.count 0 = p.1.length ∧ p.2.1.count 0 = p.2.2.2.length := by
  have hl := h.lens
  constructor
  · have key : ∀ S : List Int, (∀ t, t < S.length → 0 ≤ S.getD t 0 ∧ S.getD t 0 ≤ 2) → S.count 1 + S.count 2 + S.count 0 = S.length := by
      intro S
      induction S with
      | nil => intro _; rfl
      | cons s S ih =>
        intro hv
        have h0 := hv 0 (by simp)
        have ih := ih fun t ht => by have := hv (t + 1) (by simpa using ht); simpa using this
        have hs : (s :: S).getD 0 0 = s := rfl
        rw [hs] at h0
        have : s = 0 ∨ s = 1 ∨ s = 2 := by omega
        rcases this with rfl | rfl | rfl <;> simp [List.count_cons] <;> omega
    rw [key p.2.1 fun t ht => by have := h.slot (t := t) (by omega); exact ⟨this.2.2.1, this.2.2.2.1⟩, hl.2.1]
  · have key : ∀ i, i ≤ p.1.length → (p.2.1.take i).count 0 = p.2.2.2.countP (fun f => decide (0 ≤ f ∧ f < (i : Int))) := by
      intro i
      induction i with
      | zero => intro _; rw [countP_zero]; rfl
      | succ i ih =>
        intro hi
        have ih := ih (by omega)
        rw [countP_succ, ← ih, h.cnt i (by omega), List.take_add_one, List.count_append]
        congr 1
        have : p.2.1[i]? = some (p.2.1.getD i 0) := by rw [getD_get p.2.1 i 0 (by omega)]; simp
        rw [this]
        simp [List.count_singleton]
    have := key p.1.length (Nat.le_refl _)
    rw [(countP_all _ _).2 h.inF, List.take_of_length_le (by omega)] at this
    exact this
end Go.Proofs.Ytcoiboghdmmdcac.Pure
