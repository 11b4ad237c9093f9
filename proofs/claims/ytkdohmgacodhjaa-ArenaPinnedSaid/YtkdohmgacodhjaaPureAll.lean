/- Plain facts, in one text; no condition. -/
import Derived.Test.YtkdohmgacodhjaaFns
import Derived.IntWalk
import Derived.Laws.BitsLemmas
set_option linter.unusedVariables false
set_option linter.unusedSimpArgs false
namespace Go.Proofs.Ytkdohmgacodhjaa.Pure
open Go Go.RowKit Go.Proofs.YtkdohmgacodhjaaFn Go.Proofs.YtkdohmgacodhjaaPx

theorem ne_dec (a b : Int) : (a != b) = !decide (a = b) := rfl
theorem eq_dec (a b : Int) : (a == b) = decide (a = b) := rfl
theorem nec (a b : Int) {α : Type} (x y : α) : (bif a != b then x else y) = if a = b then y else x := by by_cases h : a = b <;> simp [h, ne_dec]
theorem eqc (a b : Int) {α : Type} (x y : α) : (bif a == b then x else y) = if a = b then x else y := by by_cases h : a = b <;> simp [h, eq_dec]
theorem dec {p : Prop} [Decidable p] {α : Type} (x y : α) : (bif decide p then x else y) = if p then x else y := by by_cases h : p <;> simp [h]
theorem w64 {n : Int} (h1 : -9223372036854775808 ≤ n) (h2 : n ≤ 9223372036854775807) : wrap64 n = n := IntWalk.wrap64_in n ⟨h1, h2⟩
theorem wi {i : Nat} (h : i ≤ 1000000) : wrap64 ((i : Int) + 1) = ((i + 1 : Nat) : Int) := by rw [w64 (by omega) (by omega)]; omega

theorem getD_set {α : Type} (l : List α) (i j : Nat) (v d : α) (h : i < l.length) : (l.set i v).getD j d = if i = j then v else l.getD j d := by
  simp only [List.getD_eq_getElem?_getD, List.getElem?_set]
  by_cases e : i = j
  · subst e; simp [h]
  · simp [e]
theorem getD_get {α : Type} (l : List α) (i : Nat) (d : α) (h : i < l.length) : l.getD i d = l[i] := by simp [List.getD_eq_getElem?_getD, h]
theorem getD_rep {α : Type} (n i : Nat) (v d : α) (h : i < n) : (List.replicate n v).getD i d = v := by simp [List.getD_eq_getElem?_getD, h]
theorem ext_getD {α : Type} (d : α) {a b : List α} (h : a.length = b.length) (he : ∀ i, i < a.length → a.getD i d = b.getD i d) : a = b := by
  apply List.ext_getElem h
  intro i h1 h2
  have := he i h1
  rwa [getD_get a i d h1, getD_get b i d h2] at this
theorem drop_cons {α : Type} (l : List α) (i : Nat) (d : α) (h : i < l.length) : l.drop i = l.getD i d :: l.drop (i + 1) := by
  rw [getD_get l i d h]; exact List.drop_eq_getElem_cons h

theorem and1023 (n : Int) (h0 : 0 ≤ n) (h1 : n < 9223372036854775808) : Go.bits .and .i64 n 1023 = n % 1024 :=
  bits_mask .i64 63 (by decide) (fun m a b => by rw [IntKind.wrap_i64]; omega) 10 (by decide) n h0 h1
theorem and1 (n : Int) (h0 : 0 ≤ n) (h1 : n < 9223372036854775808) : Go.bits .and .i64 n 1 = n % 2 :=
  bits_mask .i64 63 (by decide) (fun m a b => by rw [IntKind.wrap_i64]; omega) 1 (by decide) n h0 h1
theorem and3 (n : Int) (h0 : 0 ≤ n) (h1 : n < 9223372036854775808) : Go.bits .and .i64 n 3 = n % 4 :=
  bits_mask .i64 63 (by decide) (fun m a b => by rw [IntKind.wrap_i64]; omega) 2 (by decide) n h0 h1
theorem min10 : Min.min (Int.toNat (10 : Int)) Go.IntKind.i64.bits = 10 := by decide
theorem tdm (a b : Int) (h : 0 ≤ a) : a.tdiv b = a / b ∧ a.tmod b = a % b := ⟨Int.tdiv_eq_ediv_of_nonneg h, Int.tmod_eq_emod_of_nonneg h⟩
end Go.Proofs.Ytkdohmgacodhjaa.Pure
namespace Go.Proofs.Ytkdohmgacodhjaa.Pure
open Go Go.RowKit Go.Proofs.YtkdohmgacodhjaaFn Go.Proofs.YtkdohmgacodhjaaPx

theorem clone_eq (m : List Int) (h : m.length ≤ 1000000) : slices_Clone m = some m := by
  unfold slices_Clone
  simp [h]
end Go.Proofs.Ytkdohmgacodhjaa.Pure
namespace Go.Proofs.Ytkdohmgacodhjaa.Pure
open Go Go.RowKit Go.Proofs.YtkdohmgacodhjaaFn Go.Proofs.YtkdohmgacodhjaaPx

def packV (s g : Int) : Int × Int := if 0 ≤ s ∧ s < 1024 ∧ 0 ≤ g ∧ g < 1099511627776 then (1 + 1024 * g + s, 0) else (0, 1)
def unpackV (r : Int) : Int × Int × Int := if 1 ≤ r ∧ r ≤ 1125899906842624 then ((r - 1) % 1024, (r - 1) / 1024, 0) else (0, 0, 1)

theorem unpack_eq (r : Int) (hb : -9223372036854775808 ≤ r ∧ r ≤ 9223372036854775807) : tag_Unpack r = some (unpackV r) := by
  unfold tag_Unpack unpackV
  rw [min10]
  simp only [dec]
  by_cases h1 : r < 1
  · rw [if_pos h1, if_neg (by omega)]
  · have e : wrap64 (r - 1) = r - 1 := w64 (by omega) (by omega)
    have e2 : (r - 1).fdiv (2 ^ 10) = (r - 1) / 1024 := by rw [Int.fdiv_eq_ediv_of_nonneg _ (by decide)]; rfl
    rw [if_neg h1, e, e2, and1023 _ (by omega) (by omega)]
    by_cases h2 : r ≤ 1125899906842624
    · rw [if_neg (by omega), if_pos (by omega)]
    · rw [if_pos (by omega), if_neg (by omega)]

theorem unpack_pack (s g : Int) (h : 0 ≤ s ∧ s < 1024 ∧ 0 ≤ g ∧ g < 1099511627776) : unpackV (1 + 1024 * g + s) = (s, g, 0) := by
  unfold unpackV
  rw [if_pos (by omega)]
  simp only [Prod.mk.injEq, and_true]
  omega
theorem unpack_some {r s g : Int} (h : unpackV r = (s, g, 0)) : r = 1 + 1024 * g + s ∧ 0 ≤ s ∧ s < 1024 ∧ 0 ≤ g ∧ g < 1099511627776 := by
  unfold unpackV at h
  split at h
  · simp only [Prod.mk.injEq, and_true] at h; omega
  · simp at h
theorem unpack_err (r : Int) : (unpackV r).2.2 = 0 ∨ unpackV r = (0, 0, 1) := by
  unfold unpackV
  split
  · exact .inl rfl
  · exact .inr rfl
end Go.Proofs.Ytkdohmgacodhjaa.Pure
namespace Go.Proofs.Ytkdohmgacodhjaa.Pure
open Go Go.RowKit Go.Proofs.YtkdohmgacodhjaaFn Go.Proofs.YtkdohmgacodhjaaPx

theorem pack_eq (s g : Int) : tag_Pack (s, g) = some (packV s g) := by
  unfold tag_Pack packV
  rw [min10]
  simp only [dec]
  by_cases h : 0 ≤ s ∧ s < 1024 ∧ 0 ≤ g ∧ g < 1099511627776
  · rw [if_pos h, if_neg (by omega), if_neg (by omega), if_neg (by omega), if_neg (by omega)]
    rw [show (2 : Int) ^ 10 = 1024 from rfl, w64 (n := g * 1024) (by omega) (by omega), w64 (n := g * 1024 + s) (by omega) (by omega), w64 (by omega) (by omega)]
    simp only [Option.some.injEq, Prod.mk.injEq, and_true]
    omega
  · rw [if_neg h]
    repeat' split
    all_goals first | rfl | (exfalso; omega)
end Go.Proofs.Ytkdohmgacodhjaa.Pure
namespace Go.Proofs.Ytkdohmgacodhjaa.Pure
open Go Go.RowKit Go.Proofs.YtkdohmgacodhjaaFn Go.Proofs.YtkdohmgacodhjaaPx

abbrev Pool := List Int × List Int × List Int × List Int
abbrev noP : Pool := ([], [], [], [])

def slotOk (g s w : Int) : Prop := 0 ≤ g ∧ g ≤ 1099511627775 ∧ 0 ≤ s ∧ s ≤ 2 ∧ (s = 2 ∨ w = 0)
def slotsFrom (p : Pool) (i : Nat) : Prop := ∀ t, i ≤ t → t < p.1.length → slotOk (p.1.getD t 0) (p.2.1.getD t 0) (p.2.2.1.getD t 0)
def freeOk (S F : List Int) (n : Nat) : Prop := ∀ t, t < n → F.count (t : Int) = if S.getD t 0 = 0 then 1 else 0
def inAll (F : List Int) (n : Nat) : Prop := ∀ f ∈ F, 0 ≤ f ∧ f < (n : Int)
/-- A pool that may be. -/
def okP (p : Pool) : Prop := (1 ≤ p.1.length ∧ p.1.length ≤ 64) ∧ (p.2.1.length = p.1.length ∧ p.2.2.1.length = p.1.length) ∧ slotsFrom p 0 ∧ inAll p.2.2.2 p.1.length ∧ freeOk p.2.1 p.2.2.2 p.1.length
open Classical in
noncomputable def chk (p : Prop) : Int := if p then 0 else 1
theorem chk_pos {p : Prop} (h : p) : chk p = 0 := if_pos h
theorem chk_neg {p : Prop} (h : ¬ p) : chk p = 1 := if_neg h
theorem chk_congr {p q : Prop} (h : p ↔ q) : chk p = chk q := by rw [propext h]
theorem chk_zero {p : Prop} : chk p = 0 ↔ p := by
  by_cases h : p
  · exact ⟨fun _ => h, fun _ => chk_pos h⟩
  · exact ⟨fun e => by rw [chk_neg h] at e; exact absurd e (by decide), fun q => absurd q h⟩

/-! ### pool.Check -/
theorem index_loop (b : List Bool) (v : Bool) (n : Nat) (hn : b.length = n) (hb : n ≤ 1000000) : ∀ (k i : Nat), i ≤ n → n < k + i → ∃ r, slices_Index_L6 k b v n i = some r ∧ (0 ≤ r ↔ v ∈ b.drop i)
  | 0, i, hi, hk => by omega
  | k + 1, i, hi, hk => by
    rw [slices_Index_L6]
    by_cases hlt : i < n
    · have e := drop_cons b i false (by omega)
      obtain ⟨r, h1, h2⟩ := index_loop b v n hn hb k (i + 1) (by omega) (by omega)
      simp only [show (i : Int) < (n : Int) by omega, show (0 : Int) ≤ (i : Int) by omega, hn, decide_true, cond_true, Int.toNat_natCast, wi (show i ≤ 1000000 by omega), h1, e]
      by_cases he : v = b.getD i false
      · refine ⟨i, by rw [← he]; cases v <;> rfl, ?_⟩
        exact ⟨fun _ => by rw [he]; exact List.mem_cons_self, fun _ => by omega⟩
      · refine ⟨r, by cases v <;> cases hq : b.getD i false <;> simp_all, ?_⟩
        rw [h2, List.mem_cons]
        exact ⟨.inr, fun h => h.resolve_left he⟩
    · have : i = n := by omega
      subst this
      refine ⟨-1, by simp, ?_⟩
      rw [List.drop_of_length_le (by omega)]
      simp

theorem contains_eq (b : List Bool) (v : Bool) (hb : b.length ≤ 1000000) : slices_Contains (b, v) = some (decide (v ∈ b)) := by
  unfold slices_Contains slices_Index slices_Index_K
  obtain ⟨r, h1, h2⟩ := index_loop b v b.length rfl hb 2000000 0 (by omega) (by omega)
  simp only [show ((0 : Nat) : Int) = 0 from rfl] at h1
  simp only [h1, Option.bind_some, Option.some.injEq]
  rw [List.drop_zero] at h2
  rw [Bool.eq_iff_iff]
  simp [h2]

theorem mark_loop (n : Nat) (F : List Int) (hn : n ≤ 1000) (hF : F.length ≤ 1000) : ∀ (k j : Nat) (b : List Bool), b.length = n → j ≤ F.length → F.length + 1 < k + j →
    pool_Check_L28 k n F F.length j b = some (chk (inAll (F.drop j) n ∧ ∀ t, t < n → (F.drop j).count (t : Int) = if b.getD t false then 1 else 0))
  | 0, j, b, hb, hj, hk => by omega
  | k + 1, j, b, hb, hj, hk => by
    rw [pool_Check_L28]
    by_cases hlt : j < F.length
    · have e := drop_cons F j 0 hlt
      simp only [show (j : Int) < (F.length : Int) by omega, show (0 : Int) ≤ (j : Int) by omega, decide_true, cond_true, Int.toNat_natCast, wi (show j ≤ 1000000 by omega), hb, dec]
      rw [e]
      obtain ⟨f, hf⟩ : ∃ f, F.getD j 0 = f := ⟨_, rfl⟩
      simp only [hf]
      by_cases h0 : f < 0
      · rw [if_pos h0, chk_neg]
        rintro ⟨h, _⟩
        have := h f (by simp)
        omega
      rw [if_neg h0]
      by_cases h1 : (n : Int) ≤ f
      · rw [if_pos h1, chk_neg]
        rintro ⟨h, _⟩
        have := h f (by simp)
        omega
      rw [if_neg h1, if_pos (by omega), if_pos (by omega), if_pos (by omega), if_pos (by omega)]
      obtain ⟨q, rfl⟩ := Int.eq_ofNat_of_zero_le (show 0 ≤ f by omega)
      have hq : q < n := by omega
      simp only [Int.toNat_natCast]
      cases hbq : b.getD q false with
      | false =>
        simp only [Bool.not_false, cond_true]
        rw [chk_neg]
        rintro ⟨_, h⟩
        have := h q hq
        rw [hbq, List.count_cons_self] at this
        simp at this
      | true =>
        simp only [Bool.not_true, cond_false]
        rw [mark_loop n F hn hF k (j + 1) (b.set q false) (by simp [hb]) (by omega) (by omega)]
        congr 1
        apply chk_congr
        constructor
        · rintro ⟨h, h'⟩
          refine ⟨fun x hx => ?_, fun t ht => ?_⟩
          · rcases List.mem_cons.1 hx with rfl | hx
            · omega
            · exact h x hx
          · have := h' t ht
            rw [getD_set b q t false false (by omega)] at this
            rw [List.count_cons, this]
            by_cases hqt : q = t
            · subst hqt; simp only [hbq, beq_self_eq_true, if_true, Bool.false_eq_true, if_false]
            · have hne : ((q : Int) == (t : Int)) = false := by rw [beq_eq_false_iff_ne]; omega
              simp only [hqt, if_false, hne, Bool.false_eq_true, Nat.add_zero]
        · rintro ⟨h, h'⟩
          refine ⟨fun x hx => h x (List.mem_cons_of_mem _ hx), fun t ht => ?_⟩
          have := h' t ht
          rw [List.count_cons] at this
          rw [getD_set b q t false false (by omega)]
          by_cases hqt : q = t
          · subst hqt
            simp only [hbq, beq_self_eq_true, if_true] at this
            simp only [if_true, Bool.false_eq_true, if_false]
            omega
          · have hne : ((q : Int) == (t : Int)) = false := by rw [beq_eq_false_iff_ne]; omega
            simp only [hne, Bool.false_eq_true, if_false, Nat.add_zero] at this
            simp only [hqt, if_false]
            exact this
    · have : j = F.length := by omega
      subst this
      simp only [Int.lt_irrefl, decide_false, cond_false]
      rw [contains_eq b true (by omega), List.drop_of_length_le (Nat.le_refl _)]
      simp only [Option.bind_some]
      by_cases hm : true ∈ b
      · rw [chk_neg]
        · simp [hm]
        · rintro ⟨_, h⟩
          obtain ⟨t, ht, e⟩ := List.getElem_of_mem hm
          have := h t (by omega)
          rw [getD_get b t false ht, e] at this
          simp at this
      · rw [chk_pos]
        · simp [hm]
        · refine ⟨fun x hx => by simp at hx, fun t ht => ?_⟩
          have : b.getD t false = false := by
            rw [getD_get b t false (by omega)]
            cases hq : b[t]'(by omega) with
            | false => rfl
            | true => exact absurd (hq ▸ List.getElem_mem _) hm
          rw [this]; rfl

theorem slots_loop (p : Pool) (n : Nat) (h0 : p.1.length = n) (h1 : p.2.1.length = n) (h2 : p.2.2.1.length = n) (hn : n ≤ 64) (hF : p.2.2.2.length ≤ 1000) : ∀ (k i : Nat) (b : List Bool), b.length = n → i ≤ n → n + p.2.2.2.length + 5 < k + i →
    (∀ t, t < i → b.getD t false = decide (p.2.1.getD t 0 = 0)) →
    pool_Check_L14 k n p.2.1 n i p.1 p.2.1 p.2.2.1 p.2.2.2 b = some (chk (slotsFrom p i ∧ inAll p.2.2.2 n ∧ freeOk p.2.1 p.2.2.2 n))
  | 0, i, b, hb, hi, hk, hv => by omega
  | k + 1, i, b, hb, hi, hk, hv => by
    obtain ⟨G, S, W, F⟩ := p
    simp only at h0 h1 h2 hF hk hv ⊢
    rw [pool_Check_L14]
    by_cases hlt : i < n
    · have ih : slotOk (G.getD i 0) (S.getD i 0) (W.getD i 0) → pool_Check_L14 k n S n (i + 1 : Nat) G S W F (b.set i (S.getD i 0 == 0)) = some (chk (slotsFrom (G, S, W, F) i ∧ inAll F n ∧ freeOk S F n)) := fun hs => by
        refine (slots_loop (G, S, W, F) n h0 h1 h2 hn hF k (i + 1) (b.set i (S.getD i 0 == 0)) (by simp [hb]) (by omega) (by simp only; omega) fun t ht => ?_).trans ?_
        · rw [getD_set b i t _ _ (by omega)]
          by_cases e : i = t
          · subst e; simp [eq_dec]
          · simp only [e, if_false]; exact hv t (by omega)
        · congr 1
          apply chk_congr
          refine and_congr_left fun _ => ⟨fun h t h3 h4 => ?_, fun h t h3 h4 => h t (by omega) h4⟩
          by_cases e : i = t
          · subst e; exact hs
          · exact h t (by omega) h4
      have no : ¬ slotOk (G.getD i 0) (S.getD i 0) (W.getD i 0) → chk (slotsFrom (G, S, W, F) i ∧ inAll F n ∧ freeOk S F n) = 1 := fun hs => chk_neg fun h => hs (h.1 i (by omega) (by simp only; omega))
      simp only [show (i : Int) < (n : Int) by omega, show (0 : Int) ≤ (i : Int) by omega, h0, h1, h2, hb, decide_true, cond_true, Int.toNat_natCast, wi (show i ≤ 1000000 by omega), dec, nec]
      by_cases a1 : G.getD i 0 < 0
      · rw [if_pos a1, no (fun h => by have := h.1; omega)]
      rw [if_neg a1]
      by_cases a2 : 1099511627775 < G.getD i 0
      · rw [if_pos a2, no (fun h => by have := h.2.1; omega)]
      rw [if_neg a2]
      by_cases a3 : S.getD i 0 < 0
      · rw [if_pos a3, no (fun h => by have := h.2.2.1; omega)]
      rw [if_neg a3]
      by_cases a4 : 2 < S.getD i 0
      · rw [if_pos a4, no (fun h => by have := h.2.2.2.1; omega)]
      rw [if_neg a4]
      by_cases a5 : S.getD i 0 = 2
      · rw [if_pos a5]
        exact ih ⟨by omega, by omega, by omega, by omega, .inl a5⟩
      rw [if_neg a5]
      by_cases a6 : W.getD i 0 = 0
      · rw [if_pos a6]
        exact ih ⟨by omega, by omega, by omega, by omega, .inr a6⟩
      · rw [if_neg a6, no (fun h => by have := h.2.2.2.2; omega)]
    · have : i = n := by omega
      subst this
      simp only [Int.lt_irrefl, decide_false, cond_false]
      have := mark_loop i F (by omega) hF k 0 b hb (by omega) (by omega)
      simp only [List.drop_zero, show ((0 : Nat) : Int) = 0 from rfl] at this
      rw [this]
      congr 1
      apply chk_congr
      constructor
      · rintro ⟨g1, g2⟩
        refine ⟨fun t h3 h4 => by simp only at h4; omega, g1, fun t ht => ?_⟩
        rw [g2 t ht, hv t ht]; simp
      · rintro ⟨_, g1, g2⟩
        refine ⟨g1, fun t ht => ?_⟩
        rw [g2 t ht, hv t ht]; simp

theorem pcheck_eq (p : Pool) (hF : p.2.2.2.length ≤ 1000) : pool_Check p = some (chk (okP p)) := by
  unfold pool_Check pool_Check_K
  simp only [dec, nec]
  by_cases h1 : (p.1.length : Int) < 1
  · rw [if_pos h1, chk_neg (fun h => by have := h.1; omega)]
  rw [if_neg h1]
  by_cases h2 : 64 < (p.1.length : Int)
  · rw [if_pos h2, chk_neg (fun h => by have := h.1; omega)]
  rw [if_neg h2]
  by_cases h3 : (p.2.1.length : Int) = p.1.length
  · rw [if_pos h3]
    by_cases h4 : (p.2.2.1.length : Int) = p.1.length
    · rw [if_pos h4, if_pos (by omega), Int.toNat_natCast]
      have := slots_loop p p.1.length rfl (by omega) (by omega) (by omega) hF 2000000 0 (List.replicate p.1.length false) (by simp) (by omega) (by omega) (fun t ht => by omega)
      rw [h3]
      refine this.trans ?_
      congr 1
      apply chk_congr
      exact ⟨fun h => ⟨⟨by omega, by omega⟩, ⟨by omega, by omega⟩, h⟩, fun h => h.2.2⟩
    · rw [if_neg h4, chk_neg (fun h => by have := h.2.1; omega)]
  · rw [if_neg h3, chk_neg (fun h => by have := h.2.1; omega)]

/-! ### The reference's -/
theorem countP_succ (F : List Int) (i : Nat) : F.countP (fun f => decide (0 ≤ f ∧ f < ((i + 1 : Nat) : Int))) = F.countP (fun f => decide (0 ≤ f ∧ f < (i : Int))) + F.count (i : Int) := by
  induction F with
  | nil => rfl
  | cons f F ih =>
    simp only [List.countP_cons, List.count_cons, ih, decide_eq_true_eq, beq_iff_eq]
    by_cases h1 : f = (i : Int)
    · rw [if_pos (by omega), if_neg (by omega), if_pos h1]
      omega
    · by_cases h2 : 0 ≤ f ∧ f < (i : Int)
      · rw [if_pos (by omega), if_pos h2, if_neg h1]
        omega
      · rw [if_neg (by omega), if_neg h2, if_neg h1]
        omega

theorem countP_zero (F : List Int) : F.countP (fun f => decide (0 ≤ f ∧ f < ((0 : Nat) : Int))) = 0 := by
  rw [List.countP_eq_zero]
  intro f _
  simp only [decide_eq_true_eq]
  omega

theorem countP_all (F : List Int) (n : Nat) : F.countP (fun f => decide (0 ≤ f ∧ f < (n : Int))) = F.length ↔ inAll F n := by
  rw [List.countP_eq_length]
  constructor
  · intro h f hf; exact of_decide_eq_true (h f hf)
  · intro h f hf; exact decide_eq_true (h f hf)

def slotsCnt (p : Pool) (i : Nat) : Prop := ∀ t, i ≤ t → t < p.1.length → slotOk (p.1.getD t 0) (p.2.1.getD t 0) (p.2.2.1.getD t 0) ∧ p.2.2.2.count (t : Int) = if p.2.1.getD t 0 = 0 then 1 else 0
end Go.Proofs.Ytkdohmgacodhjaa.Pure
namespace Go.Proofs.Ytkdohmgacodhjaa.Pure
open Go Go.RowKit Go.Proofs.YtkdohmgacodhjaaFn Go.Proofs.YtkdohmgacodhjaaPx

def small (p : Pool) : Prop := p.1.length ≤ 1000 ∧ p.2.1.length ≤ 1000 ∧ p.2.2.1.length ≤ 1000 ∧ p.2.2.2.length ≤ 1000

theorem okP.lens {p : Pool} (h : okP p) : (1 ≤ p.1.length ∧ p.1.length ≤ 64) ∧ p.2.1.length = p.1.length ∧ p.2.2.1.length = p.1.length := ⟨h.1, h.2.1.1, h.2.1.2⟩
theorem okP.slot {p : Pool} (h : okP p) {t : Nat} (ht : t < p.1.length) : slotOk (p.1.getD t 0) (p.2.1.getD t 0) (p.2.2.1.getD t 0) := h.2.2.1 t (by omega) ht
theorem okP.inF {p : Pool} (h : okP p) : inAll p.2.2.2 p.1.length := h.2.2.2.1
theorem okP.cnt {p : Pool} (h : okP p) : freeOk p.2.1 p.2.2.2 p.1.length := h.2.2.2.2
/-- There are no more free slots than slots. -/
theorem okP.few {p : Pool} (h : okP p) : p.2.2.2.length ≤ 64 := by
  have h1 := (countP_all p.2.2.2 p.1.length).2 h.inF
  have key : ∀ i : Nat, i ≤ p.1.length → p.2.2.2.countP (fun f => decide (0 ≤ f ∧ f < (i : Int))) ≤ i := by
    intro i
    induction i with
    | zero => intro _; rw [countP_zero]; exact Nat.le_refl _
    | succ i ih =>
      intro hi
      rw [countP_succ]
      have := ih (by omega)
      have h2 := h.cnt i (by omega)
      rw [h2]
      split <;> omega
  have := key p.1.length (Nat.le_refl _)
  have := h.1
  omega
theorem okP.small {p : Pool} (h : okP p) : small p := by
  have h1 := h.lens
  have h2 := h.few
  exact ⟨by omega, by omega, by omega, by omega⟩
theorem small_noP : small noP := ⟨by decide, by decide, by decide, by decide⟩

theorem own_eq (p : Pool) (h : small p) : pool_own p = some p := by
  obtain ⟨G, S, W, F⟩ := p
  obtain ⟨h1, h2, h3, h4⟩ := h
  simp only at h1 h2 h3 h4
  unfold pool_own
  simp only [clone_eq G (by omega), clone_eq S (by omega), clone_eq W (by omega), clone_eq F (by omega), Option.bind_some]
/-! ### Take -/
open Classical in
noncomputable def takeV (p : Pool) : Pool × Int × Int := if okP p then (match p.2.2.2 with
  | [] => (noP, 0, 3)
  | f :: F => ((p.1, p.2.1.set f.toNat 1, p.2.2.1, F), 1 + 1024 * p.1.getD f.toNat 0 + f, 0)) else (noP, 0, 1)

theorem take_no {p : Pool} (h : ¬ okP p) : takeV p = (noP, 0, 1) := if_neg h
theorem take_full {G S W : List Int} (h : okP (G, S, W, [])) : takeV (G, S, W, []) = (noP, 0, 3) := if_pos h
theorem take_one {G S W F : List Int} {f : Int} (h : okP (G, S, W, f :: F)) : takeV (G, S, W, f :: F) = ((G, S.set f.toNat 1, W, F), 1 + 1024 * G.getD f.toNat 0 + f, 0) := if_pos h

theorem ptake_eq (p : Pool) (hF : p.2.2.2.length ≤ 1000) : pool_Take p = some (takeV p) := by
  have hc := pcheck_eq p hF
  obtain ⟨G, S, W, F⟩ := p
  unfold pool_Take
  simp only at hc ⊢
  rw [hc]
  simp only [Option.bind_some, nec, eqc, dec]
  by_cases h : okP (G, S, W, F)
  · rw [chk_pos h, if_pos rfl]
    have hl := h.lens
    simp only at hl
    cases F with
    | nil => rw [take_full h]; rfl
    | cons f F =>
      have hf := h.inF f (by simp)
      simp only at hf
      have hs := h.slot (t := f.toNat) (by simp only; omega)
      simp only at hs
      rw [own_eq _ h.small, if_neg (by simp; omega)]
      have e1 : List.getD (f :: F) (Int.toNat 0) 0 = f := rfl
      simp only [Option.bind_some, e1, hl.2.1, hl.2.2, pack_eq]
      rw [if_pos (by simp only [List.length_cons]; omega), if_pos (by simp only [List.length_cons]; omega), if_pos hf.1, if_pos hf.2, if_pos hf.1, if_pos hf.2, take_one h]
      have e2 : packV f (G.getD f.toNat 0) = (1 + 1024 * G.getD f.toNat 0 + f, 0) := by
        unfold packV; rw [if_pos ⟨by omega, by omega, hs.1, by have := hs.2.1; omega⟩]
      rw [e2]
      have e3 : List.drop (Int.toNat 1) (List.take (f :: F).length (f :: F)) = F := by rw [List.take_length]; rfl
      rw [e3]
  · rw [chk_neg h, if_neg (by decide), take_no h]

/-! ### Retire -/
/-- That this reference may be retired. -/
def holdsR (p : Pool) (u : Int × Int × Int) : Prop := p.2.1.getD u.1.toNat 0 = 1 ∧ p.1.getD u.1.toNat 0 = u.2.1
instance (p : Pool) (u : Int × Int × Int) : Decidable (holdsR p u) := by unfold holdsR; infer_instance
open Classical in
noncomputable def retireV (p : Pool) (r w : Int) : Pool × Int :=
  if okP p ∧ (unpackV r).2.2 = 0 ∧ (unpackV r).1 < p.1.length then
    (if holdsR p (unpackV r) then ((p.1, p.2.1.set (unpackV r).1.toNat 2, p.2.2.1.set (unpackV r).1.toNat w, p.2.2.2), 0) else (noP, 2))
  else (noP, 1)

theorem pretire_eq (p : Pool) (r w : Int) (hF : p.2.2.2.length ≤ 1000) (hb : -9223372036854775808 ≤ r ∧ r ≤ 9223372036854775807) : pool_Retire (p, r, w) = some (retireV p r w) := by
  have hc := pcheck_eq p hF
  obtain ⟨G, S, W, F⟩ := p
  unfold pool_Retire retireV
  simp only at hc ⊢
  rw [hc, unpack_eq r hb]
  simp only [Option.bind_some, nec, eqc, dec]
  by_cases h : okP (G, S, W, F)
  · rw [chk_pos h, if_pos rfl]
    have hl := h.lens
    simp only at hl
    by_cases h1 : (unpackV r).2.2 = 0
    · rw [if_pos h1]
      have hu := unpack_some (r := r) (s := (unpackV r).1) (g := (unpackV r).2.1) (Prod.ext rfl (Prod.ext rfl h1))
      by_cases h2 : (G.length : Int) ≤ (unpackV r).1
      · rw [if_pos h2, if_neg (fun q => by have := q.2.2; omega)]
      rw [if_neg h2, if_pos (⟨h, h1, by omega⟩ : okP (G, S, W, F) ∧ _ ∧ _), own_eq _ h.small]
      simp only [Option.bind_some, hl.2.1, hl.2.2]
      rw [if_pos hu.2.1, if_pos (show (unpackV r).1 < (G.length : Int) by omega)]
      by_cases h3 : S.getD (unpackV r).1.toNat 0 = 1
      · rw [if_pos h3, if_pos hu.2.1, if_pos (show (unpackV r).1 < (G.length : Int) by omega)]
        by_cases h4 : G.getD (unpackV r).1.toNat 0 = (unpackV r).2.1
        · rw [if_pos h4, if_pos (show (unpackV r).1 < (G.length : Int) by omega), if_pos hu.2.1, if_pos hu.2.1, if_pos (show (unpackV r).1 < (G.length : Int) by omega), if_pos (show holdsR (G, S, W, F) (unpackV r) from ⟨h3, h4⟩)]
        · rw [if_neg h4, if_neg (show ¬ holdsR (G, S, W, F) (unpackV r) from fun q => h4 q.2)]
      · rw [if_neg h3, if_neg (show ¬ holdsR (G, S, W, F) (unpackV r) from fun q => h3 q.1)]
    · rw [if_neg h1, if_neg (fun q => h1 q.2.1)]
  · rw [chk_neg h, if_neg (by decide), if_neg (fun q => h q.1)]

/-! ### Reclaim -/
def recCond (u : Int) (i : Nat) (p : Pool) : Prop := p.2.1.getD i 0 = 2 ∧ p.2.2.1.getD i 0 ≤ u ∧ p.1.getD i 0 ≠ 1099511627775
instance (u : Int) (i : Nat) (p : Pool) : Decidable (recCond u i p) := by unfold recCond; infer_instance
def recStep (u : Int) (i : Nat) (p : Pool) : Pool :=
  if recCond u i p then (p.1.set i (p.1.getD i 0 + 1), p.2.1.set i 0, p.2.2.1.set i 0, p.2.2.2 ++ [(i : Int)]) else p
def recFrom (u : Int) : Nat → Nat → Pool → Pool
  | 0, _, p => p
  | d + 1, i, p => recFrom u d (i + 1) (recStep u i p)
open Classical in
noncomputable def reclaimV (p : Pool) (u : Int) : Pool × Int := if okP p then (recFrom u p.1.length 0 p, ((recFrom u p.1.length 0 p).2.2.2.length : Int) - p.2.2.2.length) else (noP, 0)

theorem recStep_len (u : Int) (i : Nat) (p : Pool) : (recStep u i p).1.length = p.1.length ∧ (recStep u i p).2.1.length = p.2.1.length ∧ (recStep u i p).2.2.1.length = p.2.2.1.length ∧ (recStep u i p).2.2.2.length ≤ p.2.2.2.length + 1 ∧ p.2.2.2.length ≤ (recStep u i p).2.2.2.length := by
  unfold recStep
  split
  · simp
  · simp
theorem recStep_getD (u : Int) (i t : Nat) (p : Pool) (h : i ≠ t) : (recStep u i p).1.getD t 0 = p.1.getD t 0 ∧ (recStep u i p).2.1.getD t 0 = p.2.1.getD t 0 ∧ (recStep u i p).2.2.1.getD t 0 = p.2.2.1.getD t 0 := by
  unfold recStep
  split
  · simp only [List.getD_eq_getElem?_getD, List.getElem?_set, h, if_false, and_self]
  · exact ⟨rfl, rfl, rfl⟩

theorem rec_loop (u : Int) (n was : Nat) (hn : n ≤ 64) (hwas : was ≤ 1000) : ∀ (d k i : Nat) (p : Pool), i + d = n → d < k → p.1.length = n → p.2.1.length = n → p.2.2.1.length = n → p.2.2.2.length ≤ 1000 + i →
    (∀ t, i ≤ t → t < n → 0 ≤ p.1.getD t 0 ∧ p.1.getD t 0 ≤ 1099511627775) →
    pool_Reclaim_L14 k u was n i p.2.1 p.1 p.2.2.1 p.2.2.2 = some (recFrom u d i p, wrap64 (((recFrom u d i p).2.2.2.length : Int) - was))
  | 0, k, i, p, hd, hk, h0, h1, h2, hF, hg => by
    obtain ⟨k, rfl⟩ : ∃ q, k = q + 1 := ⟨k - 1, by omega⟩
    have : i = n := by omega
    subst this
    rw [pool_Reclaim_L14]
    simp only [Int.lt_irrefl, decide_false, cond_false]
    rfl
  | d + 1, k, i, p, hd, hk, h0, h1, h2, hF, hg => by
    obtain ⟨k, rfl⟩ : ∃ q, k = q + 1 := ⟨k - 1, by omega⟩
    obtain ⟨l1, l2, l3, l4, l5⟩ := recStep_len u i p
    have ih := rec_loop u n was hn hwas d k (i + 1) (recStep u i p) (by omega) (by omega) (by omega) (by omega) (by omega) (by omega) (fun t h3 h4 => by
      rw [(recStep_getD u i t p (by omega)).1]; exact hg t (by omega) h4)
    have hgi := hg i (Nat.le_refl _) (by omega)
    obtain ⟨G, S, W, F⟩ := p
    simp only at h0 h1 h2 hF hgi
    rw [pool_Reclaim_L14]
    show _ = some (recFrom u d (i + 1) (recStep u i (G, S, W, F)), wrap64 (((recFrom u d (i + 1) (recStep u i (G, S, W, F))).2.2.2.length : Int) - was))
    simp only [show (i : Int) < (n : Int) by omega, show (0 : Int) ≤ (i : Int) by omega, h0, h1, h2, decide_true, cond_true, Int.toNat_natCast, wi (show i ≤ 1000000 by omega), dec, nec, eqc]
    by_cases hc : recCond u i (G, S, W, F)
    · have hc' := hc
      unfold recCond at hc'
      simp only at hc'
      have e : recStep u i (G, S, W, F) = (G.set i (G.getD i 0 + 1), S.set i 0, W.set i 0, F ++ [(i : Int)]) := if_pos hc
      rw [if_pos hc'.1, if_pos hc'.2.1, if_neg hc'.2.2, if_pos (by simp; omega), w64 (by omega) (by omega)]
      rw [e] at ih ⊢
      exact ih
    · have e : recStep u i (G, S, W, F) = (G, S, W, F) := if_neg hc
      rw [e] at ih ⊢
      unfold recCond at hc
      simp only at hc
      by_cases a1 : S.getD i 0 = 2
      · rw [if_pos a1]
        by_cases a2 : W.getD i 0 ≤ u
        · rw [if_pos a2]
          by_cases a3 : G.getD i 0 = 1099511627775
          · rw [if_pos a3]; exact ih
          · exact absurd ⟨a1, a2, a3⟩ hc
        · rw [if_neg a2]; exact ih
      · rw [if_neg a1]; exact ih

theorem recFrom_len (u : Int) : ∀ (d i : Nat) (p : Pool), (recFrom u d i p).1.length = p.1.length ∧ (recFrom u d i p).2.1.length = p.2.1.length ∧ (recFrom u d i p).2.2.1.length = p.2.2.1.length ∧ (recFrom u d i p).2.2.2.length ≤ p.2.2.2.length + d ∧ p.2.2.2.length ≤ (recFrom u d i p).2.2.2.length
  | 0, _, _ => ⟨rfl, rfl, rfl, Nat.le_refl _, Nat.le_refl _⟩
  | d + 1, i, p => by
    obtain ⟨a1, a2, a3, a4, a5⟩ := recFrom_len u d (i + 1) (recStep u i p)
    obtain ⟨b1, b2, b3, b4, b5⟩ := recStep_len u i p
    exact ⟨a1.trans b1, a2.trans b2, a3.trans b3, by show (recFrom u d (i + 1) (recStep u i p)).2.2.2.length ≤ _; omega, by show _ ≤ (recFrom u d (i + 1) (recStep u i p)).2.2.2.length; omega⟩

theorem preclaim_eq (p : Pool) (u : Int) (hF : p.2.2.2.length ≤ 1000) : pool_Reclaim (p, u) = some (reclaimV p u) := by
  have hc := pcheck_eq p hF
  unfold pool_Reclaim pool_Reclaim_K reclaimV
  simp only [show ((p.1, p.2.1, p.2.2.1, p.2.2.2) : Pool) = p from rfl, hc, Option.bind_some, nec]
  by_cases h : okP p
  · rw [chk_pos h, if_pos rfl, own_eq p h.small, if_pos h]
    have hl := h.lens
    simp only [Option.bind_some]
    rw [show (p.2.1.length : Int) = (p.1.length : Int) by rw [hl.2.1]]
    have := rec_loop u p.1.length p.2.2.2.length hl.1.2 hF p.1.length 2000000 0 p (by omega) (by omega) rfl hl.2.1 hl.2.2 (by omega) (fun t _ h4 => by have := h.slot h4; exact ⟨this.1, this.2.1⟩)
    refine this.trans ?_
    obtain ⟨a1, a2, a3, a4, a5⟩ := recFrom_len u p.1.length 0 p
    rw [w64 (by omega) (by omega)]
  · rw [chk_neg h, if_neg (by decide), if_neg h]
end Go.Proofs.Ytkdohmgacodhjaa.Pure
namespace Go.Proofs.Ytkdohmgacodhjaa.Pure
open Go Go.RowKit Go.Proofs.YtkdohmgacodhjaaFn Go.Proofs.YtkdohmgacodhjaaPx

/-! ### What is kept -/
theorem okP_take {G S W F : List Int} {f : Int} (h : okP (G, S, W, f :: F)) : okP (G, S.set f.toNat 1, W, F) ∧ (0 ≤ f ∧ f < (G.length : Int)) ∧ S.getD f.toNat 0 = 0 := by
  have hl := h.lens
  have hf := h.inF f (by simp)
  have hc := h.cnt
  simp only at hl hf hc
  obtain ⟨q, rfl⟩ := Int.eq_ofNat_of_zero_le hf.1
  simp only [Int.toNat_natCast]
  have hq : q < G.length := by omega
  have hz : S.getD q 0 = 0 := by
    have := hc q hq
    rw [List.count_cons_self] at this
    by_cases e : S.getD q 0 = 0
    · exact e
    · rw [if_neg e] at this; omega
  refine ⟨⟨hl.1, ⟨by simp only [List.length_set]; exact hl.2.1, hl.2.2⟩, fun t h1 h2 => ?_, fun x hx => h.inF x (List.mem_cons_of_mem _ hx), fun t ht => ?_⟩, hf, hz⟩
  · simp only at h2 ⊢
    have := h.slot (t := t) h2
    simp only at this
    rw [getD_set S q t 1 0 (by omega)]
    by_cases e : q = t
    · subst e
      rw [if_pos rfl]
      refine ⟨this.1, this.2.1, by omega, by omega, ?_⟩
      have := this.2.2.2.2
      rw [hz] at this
      omega
    · rw [if_neg e]; exact this
  · simp only at ht ⊢
    have := hc t ht
    rw [List.count_cons] at this
    rw [getD_set S q t 1 0 (by omega)]
    by_cases e : q = t
    · subst e
      rw [if_pos rfl]
      rw [hz] at this
      simp at this ⊢
      exact this
    · have hne : ((q : Int) == (t : Int)) = false := by rw [beq_eq_false_iff_ne]; omega
      rw [hne] at this
      rw [if_neg e, ← this]
      simp

theorem okP_retire {p : Pool} {u : Int × Int × Int} (w : Int) (h : okP p) (h0 : 0 ≤ u.1) (h1 : u.1 < (p.1.length : Int)) (h2 : holdsR p u) : okP (p.1, p.2.1.set u.1.toNat 2, p.2.2.1.set u.1.toNat w, p.2.2.2) := by
  obtain ⟨G, S, W, F⟩ := p
  have hl := h.lens
  have hc := h.cnt
  simp only [holdsR] at hl h1 h2 hc ⊢
  refine ⟨hl.1, ⟨by simp only [List.length_set]; exact hl.2.1, by simp only [List.length_set]; exact hl.2.2⟩, fun t h3 h4 => ?_, h.inF, fun t ht => ?_⟩
  · simp only at h4 ⊢
    have := h.slot (t := t) h4
    simp only at this
    rw [getD_set S u.1.toNat t 2 0 (by omega), getD_set W u.1.toNat t w 0 (by omega)]
    by_cases e : u.1.toNat = t
    · rw [if_pos e, if_pos e]
      exact ⟨this.1, this.2.1, by omega, by omega, .inl rfl⟩
    · rw [if_neg e, if_neg e]; exact this
  · simp only at ht ⊢
    have := hc t ht
    rw [getD_set S u.1.toNat t 2 0 (by omega), this]
    by_cases e : u.1.toNat = t
    · subst e
      rw [h2.1]; simp
    · rw [if_neg e]

theorem okP_recStep {p : Pool} (u : Int) (i : Nat) (h : okP p) (hi : i < p.1.length) : okP (recStep u i p) := by
  unfold recStep
  split
  · rename_i hc
    obtain ⟨G, S, W, F⟩ := p
    have hl := h.lens
    have hcn := h.cnt
    have hs := h.slot (t := i) hi
    simp only [recCond] at hl hc hcn hi hs ⊢
    refine ⟨by simp only [List.length_set]; exact hl.1, ⟨by simp only [List.length_set]; exact hl.2.1, by simp only [List.length_set]; exact hl.2.2⟩, fun t h3 h4 => ?_, fun x hx => ?_, fun t ht => ?_⟩
    · simp only [List.length_set] at h4 ⊢
      have := h.slot (t := t) h4
      simp only at this
      rw [getD_set S i t 0 0 (by omega), getD_set W i t 0 0 (by omega), getD_set G i t _ 0 (by omega)]
      by_cases e : i = t
      · subst e
        rw [if_pos rfl, if_pos rfl, if_pos rfl]
        exact ⟨by have := hs.1; omega, by have := hs.2.1; omega, by omega, by omega, .inr rfl⟩
      · rw [if_neg e, if_neg e, if_neg e]; exact this
    · simp only [List.length_set]
      rcases List.mem_append.1 hx with hx | hx
      · exact h.inF x hx
      · rw [List.mem_singleton] at hx
        subst hx
        omega
    · simp only [List.length_set] at ht ⊢
      have := hcn t ht
      rw [List.count_append, this, getD_set S i t 0 0 (by omega)]
      by_cases e : i = t
      · subst e
        rw [hc.1]; simp
      · have hne : ((i : Int) == (t : Int)) = false := by rw [beq_eq_false_iff_ne]; omega
        rw [if_neg e, List.count_singleton, hne]; simp
  · exact h

theorem okP_recFrom (u : Int) : ∀ (d i : Nat) (p : Pool), okP p → i + d ≤ p.1.length → okP (recFrom u d i p)
  | 0, _, _, h, _ => h
  | d + 1, i, p, h, hd => okP_recFrom u d (i + 1) (recStep u i p) (okP_recStep u i h (by omega)) (by rw [(recStep_len u i p).1]; omega)

theorem recFrom_out (u : Int) : ∀ (d i t : Nat) (p : Pool), (t < i ∨ i + d ≤ t) → (recFrom u d i p).1.getD t 0 = p.1.getD t 0 ∧ (recFrom u d i p).2.1.getD t 0 = p.2.1.getD t 0 ∧ (recFrom u d i p).2.2.1.getD t 0 = p.2.2.1.getD t 0
  | 0, _, _, _, _ => ⟨rfl, rfl, rfl⟩
  | d + 1, i, t, p, h => by
    obtain ⟨a1, a2, a3⟩ := recFrom_out u d (i + 1) t (recStep u i p) (by omega)
    obtain ⟨b1, b2, b3⟩ := recStep_getD u i t p (by omega)
    exact ⟨a1.trans b1, a2.trans b2, a3.trans b3⟩

theorem recCond_congr (u : Int) (t : Nat) {p q : Pool} (h : q.1.getD t 0 = p.1.getD t 0 ∧ q.2.1.getD t 0 = p.2.1.getD t 0 ∧ q.2.2.1.getD t 0 = p.2.2.1.getD t 0) : recCond u t q ↔ recCond u t p := by
  unfold recCond; rw [h.1, h.2.1, h.2.2]

theorem recFrom_in (u : Int) : ∀ (d i t : Nat) (p : Pool), i ≤ t → t < i + d → t < p.1.length → p.2.1.length = p.1.length → p.2.2.1.length = p.1.length →
    (recCond u t p → (recFrom u d i p).1.getD t 0 = p.1.getD t 0 + 1 ∧ (recFrom u d i p).2.1.getD t 0 = 0 ∧ (recFrom u d i p).2.2.1.getD t 0 = 0) ∧
    (¬ recCond u t p → (recFrom u d i p).1.getD t 0 = p.1.getD t 0 ∧ (recFrom u d i p).2.1.getD t 0 = p.2.1.getD t 0 ∧ (recFrom u d i p).2.2.1.getD t 0 = p.2.2.1.getD t 0)
  | 0, i, t, p, h1, h2, _, _, _ => by omega
  | d + 1, i, t, p, h1, h2, h3, h4, h5 => by
    by_cases e : i = t
    · subst e
      obtain ⟨a1, a2, a3⟩ := recFrom_out u d (i + 1) i (recStep u i p) (.inl (by omega))
      show (recCond u i p → (recFrom u d (i + 1) (recStep u i p)).1.getD i 0 = _ ∧ (recFrom u d (i + 1) (recStep u i p)).2.1.getD i 0 = _ ∧ (recFrom u d (i + 1) (recStep u i p)).2.2.1.getD i 0 = _) ∧ (¬ recCond u i p → (recFrom u d (i + 1) (recStep u i p)).1.getD i 0 = _ ∧ (recFrom u d (i + 1) (recStep u i p)).2.1.getD i 0 = _ ∧ (recFrom u d (i + 1) (recStep u i p)).2.2.1.getD i 0 = _)
      rw [a1, a2, a3]
      unfold recStep
      constructor
      · intro hc
        rw [if_pos hc]
        simp only [getD_set p.1 i i _ 0 h3, getD_set p.2.1 i i _ 0 (by omega), getD_set p.2.2.1 i i _ 0 (by omega), if_true, and_self]
      · intro hc
        rw [if_neg hc]
        exact ⟨rfl, rfl, rfl⟩
    · obtain ⟨l1, l2, l3, _, _⟩ := recStep_len u i p
      have hg := recStep_getD u i t p e
      have ih := recFrom_in u d (i + 1) t (recStep u i p) (by omega) (by omega) (by omega) (by omega) (by omega)
      rw [recCond_congr u t hg, hg.1, hg.2.1, hg.2.2] at ih
      exact ih

theorem recFrom_snoc (u : Int) : ∀ (d i : Nat) (p : Pool), recFrom u (d + 1) i p = recStep u (i + d) (recFrom u d i p)
  | 0, _, _ => rfl
  | d + 1, i, p => by
    show recFrom u (d + 1) (i + 1) (recStep u i p) = _
    rw [recFrom_snoc u d (i + 1) (recStep u i p), show i + 1 + d = i + (d + 1) by omega]
    rfl

/-- How many of the first slots are reclaimed. -/
def cntR (u : Int) (p : Pool) : Nat → Nat
  | 0 => 0
  | d + 1 => cntR u p d + if recCond u d p then 1 else 0

theorem cntR_le (u : Int) (p : Pool) : ∀ d, cntR u p d ≤ d
  | 0 => Nat.le_refl _
  | d + 1 => by have := cntR_le u p d; unfold cntR; split <;> omega

theorem recFrom_many (u : Int) (p : Pool) : ∀ d, (recFrom u d 0 p).2.2.2.length = p.2.2.2.length + cntR u p d
  | 0 => rfl
  | d + 1 => by
    have ih := recFrom_many u p d
    have hc := recCond_congr u d (recFrom_out u d 0 d p (.inr (by omega)))
    rw [recFrom_snoc, Nat.zero_add]
    unfold recStep cntR
    by_cases h : recCond u d p
    · rw [if_pos (hc.2 h), if_pos h]
      simp only [List.length_append, List.length_singleton, ih]
      omega
    · rw [if_neg (fun q => h (hc.1 q)), if_neg h, ih]
      rfl

theorem reclaim_some {p : Pool} (u : Int) (h : okP p) : reclaimV p u = (recFrom u p.1.length 0 p, (cntR u p p.1.length : Int)) := by
  unfold reclaimV
  rw [if_pos h, recFrom_many]
  simp only [Prod.mk.injEq, true_and]
  omega

theorem okP_reclaim {p : Pool} (u : Int) (h : okP p) : okP (recFrom u p.1.length 0 p) := okP_recFrom u p.1.length 0 p h (by omega)

/-! ### Made -/
def rangeI (n : Nat) : List Int := (List.range n).map (fun (i : Nat) => (i : Int))
theorem rangeI_len (n : Nat) : (rangeI n).length = n := by simp [rangeI]
theorem rangeI_succ (n : Nat) : rangeI (n + 1) = rangeI n ++ [(n : Int)] := by simp [rangeI, List.range_succ]
theorem rangeI_count (n t : Nat) : (rangeI n).count (t : Int) = if t < n then 1 else 0 := by
  induction n with
  | zero => rfl
  | succ n ih =>
    rw [rangeI_succ, List.count_append, ih, List.count_singleton]
    by_cases e : n = t
    · subst e; simp
    · have hne : ((n : Int) == (t : Int)) = false := by rw [beq_eq_false_iff_ne]; omega
      rw [hne]
      by_cases h : t < n
      · simp [h, show t < n + 1 by omega]
      · simp [h, show ¬ t < n + 1 by omega]
theorem rangeI_getD (n t : Nat) (h : t < n) : (rangeI n).getD t 0 = (t : Int) := by simp [rangeI, List.getD_eq_getElem?_getD, h]

def newP (n : Nat) : Pool := (List.replicate n 0, List.replicate n 0, List.replicate n 0, rangeI n)
def newV (n : Int) : Pool × Int := if 1 ≤ n ∧ n ≤ 64 then (newP n.toNat, 0) else (noP, 1)

theorem okP_new (n : Nat) (h1 : 1 ≤ n) (h2 : n ≤ 64) : okP (newP n) := by
  refine ⟨by simp [newP]; omega, by simp [newP], fun t _ h4 => ?_, fun x hx => ?_, fun t ht => ?_⟩
  · simp only [newP, List.length_replicate] at h4 ⊢
    rw [getD_rep n t 0 0 h4]
    exact ⟨by omega, by omega, by omega, by omega, .inr rfl⟩
  · simp only [newP, rangeI, List.mem_map, List.mem_range, List.length_replicate] at hx ⊢
    obtain ⟨a, ha, rfl⟩ := hx
    omega
  · simp only [newP, List.length_replicate] at ht
    show (rangeI n).count (t : Int) = if (List.replicate n (0 : Int)).getD t 0 = 0 then 1 else 0
    simp only [getD_rep n t (0 : Int) 0 ht, if_true]
    rw [rangeI_count, if_pos ht]

theorem new_loop (n : Nat) (hn : n ≤ 64) (a b c : List Int) : ∀ (k i : Nat) (f : List Int), f.length = n → i ≤ n → n < k + i → (∀ t, t < i → f.getD t 0 = (t : Int)) →
    pool_New_L12 k n i a b c f = some ((a, b, c, rangeI n), 0)
  | 0, i, f, hf, hi, hk, hv => by omega
  | k + 1, i, f, hf, hi, hk, hv => by
    rw [pool_New_L12]
    by_cases hlt : i < n
    · simp only [show (i : Int) < (n : Int) by omega, show (0 : Int) ≤ (i : Int) by omega, hf, decide_true, cond_true, Int.toNat_natCast, wi (show i ≤ 1000000 by omega)]
      refine new_loop n hn a b c k (i + 1) (f.set i i) (by simp [hf]) (by omega) (by omega) fun t ht => ?_
      rw [getD_set f i t _ 0 (by omega)]
      by_cases e : i = t
      · subst e; rw [if_pos rfl]
      · rw [if_neg e]; exact hv t (by omega)
    · have : i = n := by omega
      subst this
      simp only [Int.lt_irrefl, decide_false, cond_false]
      have : f = rangeI i := ext_getD 0 (by rw [hf, rangeI_len]) fun t ht => by rw [hv t (by omega), rangeI_getD i t (by omega)]
      rw [this]

theorem pnew_eq (n : Int) : pool_New n = some (newV n) := by
  unfold pool_New pool_New_K newV
  simp only [dec]
  by_cases h1 : n < 1
  · rw [if_pos h1, if_neg (by omega)]
  rw [if_neg h1]
  by_cases h2 : 64 < n
  · rw [if_pos h2, if_neg (by omega)]
  obtain ⟨q, rfl⟩ := Int.eq_ofNat_of_zero_le (show 0 ≤ n by omega)
  have e1 : (0 : Int) ≤ (q : Int) := by omega
  have e2 : (q : Int) ≤ 1000000 := by omega
  rw [if_neg h2, if_pos (⟨by omega, by omega⟩ : 1 ≤ (q : Int) ∧ (q : Int) ≤ 64)]
  simp only [e1, e2, if_true, Int.toNat_natCast, List.length_replicate]
  exact new_loop q (by omega) _ _ _ 2000000 0 (List.replicate q 0) (by simp) (by omega) (by omega) (fun t ht => by omega)

/-! ### Counted -/
open Classical in
noncomputable def countV (p : Pool) : Int × Int × Int := if okP p then ((p.2.1.count 1 : Int), (p.2.1.count 2 : Int), (p.2.1.count 0 : Int)) else (0, 0, 0)

/-- All slots are live, retired or free; the free ones are listed. -/
theorem okP_counts {p : Pool} (h : okP p) : p.2.1.count 1 + p.2.1.count 2 + p.2.1.count 0 = p.1.length ∧ p.2.1.count 0 = p.2.2.2.length := by
  have hl := h.lens
  constructor
  · have key : ∀ S : List Int, (∀ t, t < S.length → 0 ≤ S.getD t 0 ∧ S.getD t 0 ≤ 2) → S.count 1 + S.count 2 + S.count 0 = S.length := by
      intro S
      induction S with
      | nil => intro _; rfl
      | cons s S ih =>
        intro hv
        have h0 := hv 0 (by simp)
        have ih := ih fun t ht => by have := hv (t + 1) (by simpa using ht); simpa using this
        have hs : (s :: S).getD 0 0 = s := rfl
        rw [hs] at h0
        have : s = 0 ∨ s = 1 ∨ s = 2 := by omega
        rcases this with rfl | rfl | rfl <;> simp [List.count_cons] <;> omega
    rw [key p.2.1 fun t ht => by have := h.slot (t := t) (by omega); exact ⟨this.2.2.1, this.2.2.2.1⟩, hl.2.1]
  · have key : ∀ i, i ≤ p.1.length → (p.2.1.take i).count 0 = p.2.2.2.countP (fun f => decide (0 ≤ f ∧ f < (i : Int))) := by
      intro i
      induction i with
      | zero => intro _; rw [countP_zero]; rfl
      | succ i ih =>
        intro hi
        have ih := ih (by omega)
        rw [countP_succ, ← ih, h.cnt i (by omega), List.take_add_one, List.count_append]
        congr 1
        have : p.2.1[i]? = some (p.2.1.getD i 0) := by rw [getD_get p.2.1 i 0 (by omega)]; simp
        rw [this]
        simp [List.count_singleton]
    have := key p.1.length (Nat.le_refl _)
    rw [(countP_all _ _).2 h.inF, List.take_of_length_le (by omega)] at this
    exact this
end Go.Proofs.Ytkdohmgacodhjaa.Pure
namespace Go.Proofs.Ytkdohmgacodhjaa.Pure
open Go Go.RowKit Go.Proofs.YtkdohmgacodhjaaFn Go.Proofs.YtkdohmgacodhjaaPx

abbrev Era := Int × List Int
abbrev pinOk (now n : Int) : Prop := n = -1 ∨ (0 ≤ n ∧ n ≤ now ∧ now - 1 ≤ n)
def okE (e : Era) : Prop := 0 ≤ e.1 ∧ e.1 ≤ 1152921504606846976 ∧ 1 ≤ e.2.length ∧ e.2.length ≤ 64 ∧ ∀ n ∈ e.2, pinOk e.1 n
instance (e : Era) : Decidable (okE e) := by unfold okE; infer_instance
def chkE (e : Era) : Int := if okE e then 0 else 1
theorem chkE_pos {e : Era} (h : okE e) : chkE e = 0 := if_pos h
theorem chkE_neg {e : Era} (h : ¬ okE e) : chkE e = 1 := if_neg h

theorem check1_eq (n now : Int) (l : List Int) (h0 : 0 ≤ now) (h1 : now ≤ 1152921504606846976) : era_Check_1 (n, now, l) = some (decide (¬ pinOk now n)) := by
  unfold era_Check_1
  simp only [nec, dec, w64 (show -9223372036854775808 ≤ now - 1 by omega) (by omega)]
  by_cases h : n = -1
  · rw [if_pos h]; simp [h]
  · rw [if_neg h]
    by_cases a : n < 0
    · rw [if_pos a]; congr 1; simp; omega
    · rw [if_neg a]
      by_cases b : now < n
      · rw [if_pos b]; congr 1; simp; omega
      · rw [if_neg b]; congr 1; rw [decide_eq_decide]; omega

theorem turn1_eq (n now : Int) (l : List Int) : era_Turn_1 (n, now, l) = some (decide (n ≠ -1 ∧ n ≠ now)) := by
  unfold era_Turn_1
  simp only [nec]
  by_cases h : n = -1
  · simp [h]
  · by_cases a : n = now <;> simp [h, a, ne_dec]

theorem idx1_loop (l : List Int) (now : Int) (pins : List Int) (h0 : 0 ≤ now) (h1 : now ≤ 1152921504606846976) (hn : l.length ≤ 1000000) : ∀ (k i : Nat), i ≤ l.length → l.length < k + i → ∃ r, slices_IndexFunc_era_Check_1_L6 k l (now, pins) l.length i = some r ∧ decide (0 ≤ r) = decide (∃ m ∈ l.drop i, ¬ pinOk now m)
  | 0, i, hi, hk => by omega
  | k + 1, i, hi, hk => by
    rw [slices_IndexFunc_era_Check_1_L6]
    by_cases hlt : i < l.length
    · have e0 := drop_cons l i 0 (by omega)
      obtain ⟨r, hr, hd⟩ := idx1_loop l now pins h0 h1 hn k (i + 1) (by omega) (by omega)
      simp only [show (i : Int) < (l.length : Int) by omega, show (0 : Int) ≤ (i : Int) by omega, decide_true, cond_true, Int.toNat_natCast, wi (show i ≤ 1000000 by omega), check1_eq _ now pins h0 h1, Option.bind_some, dec, e0]
      by_cases hp : pinOk now (l.getD i 0)
      · rw [if_neg (fun h => h hp)]
        refine ⟨r, hr, ?_⟩
        rw [hd, decide_eq_decide]
        simp only [List.mem_cons, exists_eq_or_imp, hp, not_true, false_or]
      · rw [if_pos hp]
        refine ⟨_, rfl, ?_⟩
        rw [decide_eq_decide]
        simp only [List.mem_cons, exists_eq_or_imp, hp, not_false_iff, true_or, iff_true]
        omega
    · have : i = l.length := by omega
      subst this
      simp only [Int.lt_irrefl, decide_false, cond_false]
      refine ⟨_, rfl, ?_⟩
      rw [List.drop_of_length_le (by omega)]
      simp

theorem idx2_loop (l : List Int) (now : Int) (pins : List Int) (hn : l.length ≤ 1000000) : ∀ (k i : Nat), i ≤ l.length → l.length < k + i → ∃ r, slices_IndexFunc_era_Turn_1_L6 k l (now, pins) l.length i = some r ∧ decide (0 ≤ r) = decide (∃ m ∈ l.drop i, m ≠ -1 ∧ m ≠ now)
  | 0, i, hi, hk => by omega
  | k + 1, i, hi, hk => by
    rw [slices_IndexFunc_era_Turn_1_L6]
    by_cases hlt : i < l.length
    · have e0 := drop_cons l i 0 (by omega)
      obtain ⟨r, hr, hd⟩ := idx2_loop l now pins hn k (i + 1) (by omega) (by omega)
      simp only [show (i : Int) < (l.length : Int) by omega, show (0 : Int) ≤ (i : Int) by omega, decide_true, cond_true, Int.toNat_natCast, wi (show i ≤ 1000000 by omega), turn1_eq, Option.bind_some, dec, e0]
      by_cases hp : l.getD i 0 ≠ -1 ∧ l.getD i 0 ≠ now
      · rw [if_pos hp]
        refine ⟨_, rfl, ?_⟩
        rw [decide_eq_decide]
        constructor
        · intro _; exact ⟨_, List.mem_cons_self, hp⟩
        · intro _; omega
      · rw [if_neg hp]
        refine ⟨r, hr, ?_⟩
        rw [hd, decide_eq_decide]
        constructor
        · rintro ⟨m, h1, h2⟩; exact ⟨m, List.mem_cons_of_mem _ h1, h2⟩
        · rintro ⟨m, h1, h2⟩
          rcases List.mem_cons.1 h1 with rfl | h1
          · exact absurd h2 hp
          · exact ⟨m, h1, h2⟩
    · have : i = l.length := by omega
      subst this
      simp only [Int.lt_irrefl, decide_false, cond_false]
      refine ⟨_, rfl, ?_⟩
      rw [List.drop_of_length_le (by omega)]
      simp

theorem con1_eq (l : List Int) (now : Int) (pins : List Int) (h0 : 0 ≤ now) (h1 : now ≤ 1152921504606846976) (hn : l.length ≤ 1000000) : slices_ContainsFunc_era_Check_1 (l, now, pins) = some (decide (∃ m ∈ l, ¬ pinOk now m)) := by
  obtain ⟨r, hr, hd⟩ := idx1_loop l now pins h0 h1 hn 2000000 0 (by omega) (by omega)
  have e : slices_IndexFunc_era_Check_1 (l, now, pins) = some r := hr
  unfold slices_ContainsFunc_era_Check_1
  simp only [e, Option.bind_some, hd, List.drop_zero]
theorem con2_eq (l : List Int) (now : Int) (pins : List Int) (hn : l.length ≤ 1000000) : slices_ContainsFunc_era_Turn_1 (l, now, pins) = some (decide (∃ m ∈ l, m ≠ -1 ∧ m ≠ now)) := by
  obtain ⟨r, hr, hd⟩ := idx2_loop l now pins hn 2000000 0 (by omega) (by omega)
  have e : slices_IndexFunc_era_Turn_1 (l, now, pins) = some r := hr
  unfold slices_ContainsFunc_era_Turn_1
  simp only [e, Option.bind_some, hd, List.drop_zero]

theorem pche_eq (e : Era) : era_Check e = some (chkE e) := by
  obtain ⟨now, pins⟩ := e
  unfold era_Check
  simp only [dec]
  by_cases a : now < 0
  · rw [if_pos a, chkE_neg (fun h => absurd h.1 (by simp only; omega))]
  rw [if_neg a]
  by_cases b : 1152921504606846976 < now
  · rw [if_pos b, chkE_neg (fun h => absurd h.2.1 (by simp only; omega))]
  rw [if_neg b]
  by_cases c : (pins.length : Int) < 1
  · rw [if_pos c, chkE_neg (fun h => absurd h.2.2.1 (by simp only; omega))]
  rw [if_neg c]
  by_cases d : (64 : Int) < (pins.length : Int)
  · rw [if_pos d, chkE_neg (fun h => absurd h.2.2.2.1 (by simp only; omega))]
  rw [if_neg d, con1_eq pins now pins (by omega) (by omega) (by omega)]
  simp only [Option.bind_some, dec]
  by_cases f : ∃ m ∈ pins, ¬ pinOk now m
  · rw [if_pos f, chkE_neg]
    rintro ⟨_, _, _, _, h⟩
    obtain ⟨m, h1, h2⟩ := f
    exact h2 (h m h1)
  · rw [if_neg f, chkE_pos]
    refine ⟨by simp only; omega, by simp only; omega, by simp only; omega, by simp only; omega, fun n hn => ?_⟩
    by_cases g : pinOk now n
    · exact g
    · exact absurd ⟨n, hn, g⟩ f

/-! ### What they do -/
def noE : Era := (0, [])
def newE (n : Int) : Era × Int := if 1 ≤ n ∧ n ≤ 64 then ((0, List.replicate n.toNat (-1)), 0) else (noE, 1)
def pinV (e : Era) (t : Int) : Era × Int := if okE e ∧ 0 ≤ t ∧ t < (e.2.length : Int) ∧ e.2.getD t.toNat 0 = -1 then ((e.1, e.2.set t.toNat e.1), 0) else (noE, 1)
def unpinV (e : Era) (t : Int) : Era × Int := if okE e ∧ 0 ≤ t ∧ t < (e.2.length : Int) then (if e.2.getD t.toNat 0 = -1 then (noE, 2) else ((e.1, e.2.set t.toNat (-1)), 0)) else (noE, 1)
def turnV (e : Era) : Era × Bool := if okE e then (if e.1 = 1152921504606846976 ∨ ∃ m ∈ e.2, m ≠ -1 ∧ m ≠ e.1 then (e, false) else ((e.1 + 1, e.2), true)) else (noE, false)
def safeV (e : Era) : Int := if okE e then e.1 - 2 else -1

theorem repeat_all : ∀ n : Fin 65, 1 ≤ n.val → slices_Repeat ([(-1 : Int)], (n.val : Int)) = some (List.replicate n.val (-1)) := by decide +kernel
theorem pnewE_eq (n : Int) : era_New n = some (newE n) := by
  unfold era_New newE
  simp only [dec]
  by_cases a : n < 1
  · rw [if_pos a, if_neg (by omega)]; rfl
  rw [if_neg a]
  by_cases b : 64 < n
  · rw [if_pos b, if_neg (by omega)]; rfl
  rw [if_neg b, if_pos (by omega)]
  have h := repeat_all ⟨n.toNat, by omega⟩ (by simp only; omega)
  simp only [show ((n.toNat : Nat) : Int) = n by omega] at h
  rw [h]
  rfl
theorem psafe_eq (e : Era) : era_Safe e = some (safeV e) := by
  unfold era_Safe
  simp only [pche_eq, Option.bind_some, nec]
  by_cases h : okE e
  · rw [show ((e.1, e.2) : Era) = e from rfl, chkE_pos h, if_pos rfl, safeV, if_pos h, w64 (by have := h.1; omega) (by have := h.2.1; omega)]
  · rw [show ((e.1, e.2) : Era) = e from rfl, chkE_neg h, if_neg (by decide), safeV, if_neg h]
theorem pturn_eq (e : Era) : era_Turn e = some (turnV e) := by
  obtain ⟨now, pins⟩ := e
  unfold era_Turn
  simp only [pche_eq, Option.bind_some, nec, eqc, dec]
  by_cases h : okE (now, pins)
  · rw [chkE_pos h, if_pos rfl]
    have hl : pins.length ≤ 64 := h.2.2.2.1
    rw [clone_eq pins (by omega)]
    simp only [Option.bind_some]
    unfold turnV
    simp only [if_pos h]
    by_cases a : now = 1152921504606846976
    · rw [if_pos a, if_pos (Or.inl a)]
    · rw [if_neg a, con2_eq pins now pins (by omega)]
      simp only [Option.bind_some, dec, a, false_or]
      have h0 : 0 ≤ now := h.1
      have h1 : now ≤ 1152921504606846976 := h.2.1
      rw [w64 (by omega) (by omega)]
      by_cases b : ∃ m ∈ pins, m ≠ -1 ∧ m ≠ now
      · rw [if_pos b, if_pos b]
      · rw [if_neg b, if_neg b]
  · rw [chkE_neg h, if_neg (by decide), turnV, if_neg h]; rfl

theorem pinned_no {e : Era} {t : Int} (h : ¬ (okE e ∧ 0 ≤ t ∧ t < (e.2.length : Int))) : era_pinned (e, t) = some (0, 1) := by
  obtain ⟨now, pins⟩ := e
  unfold era_pinned
  simp only [pche_eq, Option.bind_some, nec, dec] at h ⊢
  by_cases k : okE (now, pins)
  · rw [chkE_pos k, if_pos rfl]
    by_cases a : t < 0
    · rw [if_pos a]
    · rw [if_neg a, if_pos (Classical.byContradiction fun b => h ⟨k, by omega, by omega⟩)]
  · rw [chkE_neg k, if_neg (by decide)]
theorem pinned_yes {e : Era} {t : Int} (h : okE e ∧ 0 ≤ t ∧ t < (e.2.length : Int)) : era_pinned (e, t) = some (e.2.getD t.toNat 0, 0) := by
  obtain ⟨now, pins⟩ := e
  obtain ⟨k, h1, h2⟩ := h
  unfold era_pinned
  simp only [pche_eq, Option.bind_some, nec, dec] at h2 ⊢
  rw [chkE_pos k, if_pos rfl, if_neg (by omega), if_neg (by omega), if_pos h1, if_pos h2]
theorem with_yes {e : Era} {t : Int} (v : Int) (h : okE e ∧ 0 ≤ t ∧ t < (e.2.length : Int)) : era_with (e, t, v) = some (e.1, e.2.set t.toNat v) := by
  obtain ⟨now, pins⟩ := e
  obtain ⟨k, h1, h2⟩ := h
  have hl : pins.length ≤ 64 := k.2.2.2.1
  unfold era_with
  simp only [clone_eq pins (show pins.length ≤ 1000000 by omega), Option.bind_some, dec] at h2 ⊢
  rw [if_pos h1, if_pos h2]

theorem ppin_eq (e : Era) (t : Int) : era_Pin (e, t) = some (pinV e t) := by
  unfold era_Pin
  simp only [show ((e.1, e.2) : Era) = e from rfl]
  by_cases h : okE e ∧ 0 ≤ t ∧ t < (e.2.length : Int)
  · rw [pinned_yes h, with_yes _ h]
    simp only [Option.bind_some, nec, pinV]
    by_cases a : e.2.getD t.toNat 0 = -1
    · rw [if_pos trivial, if_pos a, if_pos ⟨h.1, h.2.1, h.2.2, a⟩]
    · rw [if_pos trivial, if_neg a, if_neg (fun q => a q.2.2.2)]; rfl
  · rw [pinned_no h]
    simp only [Option.bind_some, nec, pinV]
    rw [if_neg (by decide), if_neg (fun q => h ⟨q.1, q.2.1, q.2.2.1⟩)]; rfl
theorem punpin_eq (e : Era) (t : Int) : era_Unpin (e, t) = some (unpinV e t) := by
  unfold era_Unpin
  simp only [show ((e.1, e.2) : Era) = e from rfl]
  by_cases h : okE e ∧ 0 ≤ t ∧ t < (e.2.length : Int)
  · rw [pinned_yes h, with_yes _ h]
    simp only [Option.bind_some, nec, eqc, unpinV]
    rw [if_pos trivial, if_pos h]
    by_cases a : e.2.getD t.toNat 0 = -1
    · rw [if_pos a, if_pos a]; rfl
    · rw [if_neg a, if_neg a]
  · rw [pinned_no h]
    simp only [Option.bind_some, nec, unpinV]
    rw [if_neg (by decide), if_neg h]; rfl
/-! ### Eras stay eras -/
theorem okE_new {n : Int} (h : 1 ≤ n ∧ n ≤ 64) : okE (newE n).1 := by
  unfold newE; rw [if_pos h]
  refine ⟨by simp, by simp, by simp; omega, by simp; omega, fun m hm => ?_⟩
  exact Or.inl (List.mem_replicate.1 hm).2
theorem mem_set' {l : List Int} {i : Nat} {v m : Int} (h : m ∈ l.set i v) : m ∈ l ∨ m = v := List.mem_or_eq_of_mem_set h
theorem okE_set {e : Era} {t : Nat} {v : Int} (h : okE e) (hv : pinOk e.1 v) : okE (e.1, e.2.set t v) := by
  obtain ⟨h1, h2, h3, h4, h5⟩ := h
  refine ⟨h1, h2, by simpa using h3, by simpa using h4, fun m hm => ?_⟩
  rcases mem_set' hm with hm | rfl
  · exact h5 m hm
  · exact hv
theorem okE_turn {e : Era} (h : okE e) : okE (turnV e).1 := by
  unfold turnV; rw [if_pos h]
  by_cases a : e.1 = 1152921504606846976 ∨ ∃ m ∈ e.2, m ≠ -1 ∧ m ≠ e.1
  · rw [if_pos a]; exact h
  · rw [if_neg a]
    obtain ⟨h1, h2, h3, h4, h5⟩ := h
    refine ⟨by simp only; omega, by simp only; omega, h3, h4, fun m hm => ?_⟩
    by_cases b : m = -1
    · exact Or.inl b
    · have : m = e.1 := Classical.byContradiction fun c => a (Or.inr ⟨m, hm, b, c⟩)
      exact Or.inr (by simp only; omega)
end Go.Proofs.Ytkdohmgacodhjaa.Pure
namespace Go.Proofs.Ytkdohmgacodhjaa.Pure
open Go Go.RowKit Go.Proofs.YtkdohmgacodhjaaFn Go.Proofs.YtkdohmgacodhjaaPx

theorem pin_len (e : Era) (t : Int) (h : e.2.length ≤ 1000) : (pinV e t).1.2.length ≤ 1000 := by
  unfold pinV
  split
  · simpa using h
  · simp [noE]
theorem unpin_len (e : Era) (t : Int) (h : e.2.length ≤ 1000) : (unpinV e t).1.2.length ≤ 1000 := by
  unfold unpinV
  split
  · split
    · simp [noE]
    · simpa using h
  · simp [noE]
theorem turn_len (e : Era) (h : e.2.length ≤ 1000) : (turnV e).1.2.length ≤ 1000 := by
  unfold turnV
  split
  · split
    · exact h
    · exact h
  · simp [noE]
end Go.Proofs.Ytkdohmgacodhjaa.Pure
namespace Go.Proofs.Ytkdohmgacodhjaa.Pure
open Go Go.RowKit Go.Proofs.YtkdohmgacodhjaaFn Go.Proofs.YtkdohmgacodhjaaPx

theorem w01 : wrap64 (0 + 1) = 1 := by rw [w64 (by decide) (by decide)]; rfl
theorem w12 : wrap64 (1 + 1) = 2 := by rw [w64 (by decide) (by decide)]; rfl
theorem w23 : wrap64 (2 + 1) = 3 := by rw [w64 (by decide) (by decide)]; rfl
theorem etaE (q : Era) : ((q.1, q.2) : Era) = q := rfl

theorem newE_len (n : Int) : (newE n).1.2.length ≤ 1000 := by
  unfold newE
  split
  · simp; omega
  · simp [noE]

/-! ### EraStuck -/
theorem turn_free {e : Era} (h : okE e) (h2 : e.1 ≠ 1152921504606846976) (ha : ∀ m ∈ e.2, m = -1 ∨ m = e.1) : turnV e = ((e.1 + 1, e.2), true) := by
  unfold turnV
  rw [if_pos h, if_neg]
  rintro (g | ⟨m, h1, h2, h3⟩)
  · exact h2 g
  · rcases ha m h1 with h | h
    · exact h2 h
    · exact h3 h
theorem turn_stuck {e : Era} (h : okE e) {m : Int} (h1 : m ∈ e.2) (h2 : m ≠ -1) (h3 : m ≠ e.1) : turnV e = (e, false) := by
  unfold turnV
  rw [if_pos h, if_pos (Or.inr ⟨m, h1, h2, h3⟩)]

/-! ### EraGoes -/
theorem rep_succ (i : Nat) : List.replicate i (-1 : Int) ++ [-1] = List.replicate (i + 1) (-1) := by rw [List.replicate_succ']
theorem okE_rep (n : Nat) (h1 : 1 ≤ n) (h2 : n ≤ 64) (now : Int) (h3 : 0 ≤ now) (h4 : now ≤ 1152921504606846976) : okE (now, List.replicate n (-1)) :=
  ⟨h3, h4, by simpa using h1, by simpa using h2, fun m hm => Or.inl (List.mem_replicate.1 hm).2⟩

/-! ### EraApart -/
theorem set_apart (l : List Int) (t v : Int) (h0 : 0 ≤ t) (h1 : t < (l.length : Int)) (hv : v ≠ l.getD t.toNat 0) (i : Nat) (hi : i < l.length) : ((l.set t.toNat v).getD i 0 ≠ l.getD i 0 ↔ (i : Int) = t) := by
  rw [getD_set l t.toNat i v 0 (by omega)]
  by_cases e : t.toNat = i
  · subst e; rw [if_pos rfl]; exact ⟨fun _ => by omega, fun _ => hv⟩
  · rw [if_neg e]; exact ⟨fun h => absurd rfl h, fun h => by omega⟩

/-! ### EraSafe -/
theorem turn_cases (e : Era) (h : okE e) : turnV e = (e, false) ∨ turnV e = ((e.1 + 1, e.2), true) := by
  unfold turnV
  rw [if_pos h]
  split
  · exact Or.inl rfl
  · exact Or.inr rfl
end Go.Proofs.Ytkdohmgacodhjaa.Pure
namespace Go.Proofs.Ytkdohmgacodhjaa.Pure
open Go Go.RowKit Go.Proofs.YtkdohmgacodhjaaFn Go.Proofs.YtkdohmgacodhjaaPx

/-- A configuration that may be. -/
def ok (c : Int × Int × Int × Int × Int) : Prop := (1 ≤ c.1 ∧ c.1 ≤ 64) ∧ (1 ≤ c.2.1 ∧ c.2.1 ≤ 64) ∧ (1 ≤ c.2.2.1 ∧ c.2.2.1 ≤ 64) ∧ (1 ≤ c.2.2.2.1 ∧ c.2.2.2.1 ≤ 64) ∧ (1 ≤ c.2.2.2.2 ∧ c.2.2.2.2 ≤ 64)
instance (c : Int × Int × Int × Int × Int) : Decidable (ok c) := by unfold ok; infer_instance

theorem any3 {A B C : Prop} [Decidable A] [Decidable B] [Decidable C] (h : A ∨ B ∨ C) : (if A then some 1 else if B then some 1 else if C then some 1 else some 0) = some (1 : Int) := by
  by_cases a : A
  · rw [if_pos a]
  · by_cases b : B
    · rw [if_neg a, if_pos b]
    · by_cases c : C
      · rw [if_neg a, if_neg b, if_pos c]
      · exact absurd h (by simp [a, b, c])

theorem check_eq (c : Int × Int × Int × Int × Int) : place_Check c = some (if ok c then 0 else 1) := by
  obtain ⟨N, E, P, I, J⟩ := c
  unfold place_Check
  simp only [dec]
  by_cases h : ok (N, E, P, I, J)
  · rw [if_pos h]
    simp only [ok] at h
    rw [if_neg, if_neg, if_neg]
    · repeat' split
      all_goals omega
    · repeat' split
      all_goals omega
    · repeat' split
      all_goals omega
  · rw [if_neg h]
    simp only [ok] at h
    refine any3 (Classical.byContradiction fun hn => h ?_)
    simp only [not_or] at hn
    obtain ⟨h1, h2, h3⟩ := hn
    revert h1 h2 h3
    clear h
    repeat' split
    all_goals (intros; omega)

/-- Where a field stands. -/
def fieldV (c : Int × Int × Int × Int × Int) (w s f : Int) : Int × Int :=
  if ok c then
    (if w = 1 ∧ 0 ≤ s ∧ s < c.1 ∧ 0 ≤ f ∧ f < 4 then (2 + c.2.2.2.1 + c.2.2.2.2 + s * 4 + f, 0)
    else if w = 2 ∧ 0 ≤ s ∧ s < c.2.1 ∧ 0 ≤ f ∧ f < 5 then (2 + c.2.2.2.1 + c.2.2.2.2 + c.1 * 4 + s * 5 + f, 0)
    else if w = 3 ∧ 0 ≤ s ∧ s < c.2.2.1 ∧ 0 ≤ f ∧ f < 3 then (2 + c.2.2.2.1 + c.2.2.2.2 + c.1 * 4 + c.2.1 * 5 + s * 3 + f, 0)
    else (0, 1))
  else (0, 1)

def nodeV (c : Int × Int × Int × Int × Int) (i : Int) : Int × Int := if ok c ∧ 1 ≤ i ∧ i ≤ c.2.2.2.1 then (i + 1, 0) else (0, 1)
def edgeV (c : Int × Int × Int × Int × Int) (i : Int) : Int × Int := if ok c ∧ 1 ≤ i ∧ i ≤ c.2.2.2.2 then (c.2.2.2.1 + i + 1, 0) else (0, 1)
end Go.Proofs.Ytkdohmgacodhjaa.Pure
namespace Go.Proofs.Ytkdohmgacodhjaa.Pure
open Go Go.RowKit Go.Proofs.YtkdohmgacodhjaaFn Go.Proofs.YtkdohmgacodhjaaPx

theorem u1 : wrap64 (1 - 1) = 0 := by rw [w64 (by decide) (by decide)]; rfl
theorem u2 : wrap64 (2 - 1) = 1 := by rw [w64 (by decide) (by decide)]; rfl
theorem u3 : wrap64 (3 - 1) = 2 := by rw [w64 (by decide) (by decide)]; rfl
theorem ct {p : Prop} [Decidable p] (h : p) {α : Type} (x y : α) : (bif decide p then x else y) = x := by simp [h]
theorem cf {p : Prop} [Decidable p] (h : ¬ p) {α : Type} (x y : α) : (bif decide p then x else y) = y := by simp [h]

abbrev Sh := List Int × List Int × (Pool × Pool × Pool) × Era
def noS : Sh := ([], [], (noP, noP, noP), noE)
theorem etaS (s : Sh) : ((s.1, s.2.1, ((s.2.2.1.1.1, s.2.2.1.1.2.1, s.2.2.1.1.2.2.1, s.2.2.1.1.2.2.2), (s.2.2.1.2.1.1, s.2.2.1.2.1.2.1, s.2.2.1.2.1.2.2.1, s.2.2.1.2.1.2.2.2), s.2.2.1.2.2.1, s.2.2.1.2.2.2.1, s.2.2.1.2.2.2.2.1, s.2.2.1.2.2.2.2.2), s.2.2.2.1, s.2.2.2.2) : Sh) = s := rfl
theorem etaP (p : Pool) : ((p.1, p.2.1, p.2.2.1, p.2.2.2) : Pool) = p := rfl
theorem etaEr (e : Era) : ((e.1, e.2) : Era) = e := rfl

/-- Small enough to be gone through. -/
def fewS (s : Sh) : Prop := (small s.2.2.1.1 ∧ small s.2.2.1.2.1 ∧ small s.2.2.1.2.2) ∧ s.2.2.2.2.length ≤ 1000 ∧ s.1.length ≤ 5000 ∧ s.2.1.length ≤ 1000
def okA (s : Sh) : Prop := okP s.2.2.1.1 ∧ okP s.2.2.1.2.1 ∧ okP s.2.2.1.2.2 ∧ okE s.2.2.2
theorem chkE_chk (e : Era) : chkE e = chk (okE e) := by
  by_cases h : okE e
  · rw [chkE_pos h, chk_pos h]
  · rw [chkE_neg h, chk_neg h]

/-! ### Checked -/
theorem pchkA_loop (k : Nat) (a b c : Pool) (e : Era) (p13 p14 p15 p16 p17 p18 p19 p20 p21 p22 p23 p24 p25 p26 : List Int) (ha : a.2.2.2.length ≤ 1000) (hb : b.2.2.2.length ≤ 1000) (hc : c.2.2.2.length ≤ 1000) :
    arena_Check_L6 (k + 4) a.1 a.2.1 a.2.2.1 a.2.2.2 b.1 b.2.1 b.2.2.1 b.2.2.2 c.1 c.2.1 c.2.2.1 c.2.2.2 0 p13 p14 p15 p16 p17 p18 p19 p20 p21 p22 p23 p24 p25 p26 e.1 e.2 = some (chk (okP a ∧ okP b ∧ okP c ∧ okE e)) := by
  rw [arena_Check_L6, ct (by decide), cf (by decide), cf (by decide), ct (by rfl), etaP, pcheck_eq a ha]
  simp only [Option.bind_some, nec]
  by_cases h1 : okP a
  · rw [chk_pos h1, if_pos rfl, w01, arena_Check_L6, ct (by decide), cf (by decide), ct (by rfl), etaP, pcheck_eq b hb]
    simp only [Option.bind_some, nec]
    by_cases h2 : okP b
    · rw [chk_pos h2, if_pos rfl, w12, arena_Check_L6, ct (by decide), ct (by rfl), etaP, pcheck_eq c hc]
      simp only [Option.bind_some, nec]
      by_cases h3 : okP c
      · rw [chk_pos h3, if_pos rfl, w23, arena_Check_L6, cf (by decide), etaEr, pche_eq, chkE_chk]
        simp only [Option.bind_some, h1, h2, h3, true_and]
      · rw [chk_neg h3, if_neg (by decide), chk_neg (fun h => h3 h.2.2.1)]
    · rw [chk_neg h2, if_neg (by decide), chk_neg (fun h => h2 h.2.1)]
  · rw [chk_neg h1, if_neg (by decide), chk_neg (fun h => h1 h.1)]
theorem pcheckA_eq (s : Sh) (h : fewS s) : arena_Check s = some (chk (okA s)) := pchkA_loop 1999996 s.2.2.1.1 s.2.2.1.2.1 s.2.2.1.2.2 s.2.2.2 _ _ _ _ _ _ _ _ _ _ _ _ _ _ h.1.1.2.2.2 h.1.2.1.2.2.2 h.1.2.2.2.2.2

/-! ### Few, and the same -/
def fewQ (p : Pool) : Prop := p.1.length ≤ 200 ∧ p.2.1.length ≤ 200 ∧ p.2.2.1.length ≤ 200 ∧ p.2.2.2.length ≤ 200
instance (p : Pool) : Decidable (fewQ p) := by unfold fewQ; infer_instance
def fewB (s : Sh) : Prop := fewQ s.2.2.1.1 ∧ fewQ s.2.2.1.2.1 ∧ fewQ s.2.2.1.2.2 ∧ s.2.2.2.2.length ≤ 200 ∧ s.1.length ≤ 2000 ∧ s.2.1.length ≤ 200
instance (s : Sh) : Decidable (fewB s) := by unfold fewB; infer_instance
theorem fewQ.small {p : Pool} (h : fewQ p) : small p := by
  obtain ⟨h1, h2, h3, h4⟩ := h
  exact ⟨by omega, by omega, by omega, by omega⟩
theorem fewB.fewS {s : Sh} (h : fewB s) : fewS s := by
  obtain ⟨h1, h2, h3, h4, h5, h6⟩ := h
  exact ⟨⟨h1.small, h2.small, h3.small⟩, by omega, by omega, by omega⟩

theorem and3_eq (p q r : Prop) [Decidable p] [Decidable q] [Decidable r] : ((some (decide p)).bind fun x => bif x then (some (decide q)).bind fun y => bif y then (some (decide r)).bind fun z => some z else some false else some false) = some (decide (p ∧ q ∧ r)) := by
  by_cases a : p <;> by_cases b : q <;> simp [a, b]
/-! ### Taken, and retired -/
abbrev kindOk (w : Int) : Prop := 1 ≤ w ∧ w ≤ 3
open Classical in
theorem may_eq (s : Sh) (w : Int) (h : fewS s) : arena_may (s, w) = some (decide (kindOk w ∧ okA s)) := by
  unfold arena_may
  simp only [dec, etaS, pcheckA_eq s h, Option.bind_some]
  by_cases a : 1 ≤ w
  · rw [if_pos a]
    by_cases b : w ≤ 3
    · rw [if_pos b]
      by_cases c : okA s
      · rw [chk_pos c, decide_eq_true (show kindOk w ∧ okA s from ⟨⟨a, b⟩, c⟩)]; rfl
      · rw [chk_neg c, decide_eq_false (fun h : kindOk w ∧ okA s => c h.2)]; rfl
    · rw [if_neg b, decide_eq_false (fun h : kindOk w ∧ okA s => b h.1.2)]
  · rw [if_neg a, decide_eq_false (fun h : kindOk w ∧ okA s => a h.1.1)]
open Classical in
theorem may_yes {s : Sh} {w : Int} (h : fewS s) (g : kindOk w ∧ okA s) : arena_may (s, w) = some true := by
  exact (may_eq s w h).trans (congrArg some (decide_eq_true g))
open Classical in
theorem may_no {s : Sh} {w : Int} (h : fewS s) (g : ¬ (kindOk w ∧ okA s)) : arena_may (s, w) = some false := by
  exact (may_eq s w h).trans (congrArg some (decide_eq_false g))
def pl (s : Sh) (w : Int) : Pool := if w = 1 then s.2.2.1.1 else if w = 2 then s.2.2.1.2.1 else s.2.2.1.2.2
def setpl (s : Sh) (w : Int) (p : Pool) : Sh := (s.1, s.2.1, (if w = 1 then (p, s.2.2.1.2.1, s.2.2.1.2.2) else if w = 2 then (s.2.2.1.1, p, s.2.2.1.2.2) else (s.2.2.1.1, s.2.2.1.2.1, p)), s.2.2.2)
open Classical in
noncomputable def takeA (s : Sh) (w : Int) : Sh × Int × Int := if kindOk w ∧ okA s then (if (takeV (pl s w)).2.2 = 0 then (setpl s w (takeV (pl s w)).1, (takeV (pl s w)).2.1, 0) else (noS, 0, (takeV (pl s w)).2.2)) else (noS, 0, 1)
open Classical in
noncomputable def retA (s : Sh) (w r : Int) : Sh × Int := if kindOk w ∧ okA s then (if (retireV (pl s w) r s.2.2.2.1).2 = 0 then (setpl s w (retireV (pl s w) r s.2.2.2.1).1, 0) else (noS, (retireV (pl s w) r s.2.2.2.1).2)) else (noS, 1)
theorem three {w : Int} (h : kindOk w) : w = 1 ∨ w = 2 ∨ w = 3 := by omega

theorem ptakeA_eq (s : Sh) (w : Int) (h : fewS s) : arena_Take (s, w) = some (takeA s w) := by
  unfold arena_Take
  simp only [etaS, may_eq s w h, Option.bind_some]
  by_cases g : kindOk w ∧ okA s
  · simp only [g, and_self, decide_true, Bool.not_true, cond_false, takeA, if_true, etaP]
    rcases three g.1 with rfl | rfl | rfl
    · simp only [u1]
      rw [cf (by decide), cf (by decide), ct (by rfl), ptake_eq _ h.1.1.2.2.2]
      simp only [Option.bind_some, nec, show pl s 1 = s.2.2.1.1 from rfl]
      by_cases e : (takeV s.2.2.1.1).2.2 = 0
      · rw [if_pos e, if_pos e, cf (by decide), cf (by decide), ct (by rfl)]; rfl
      · rw [if_neg e, if_neg e]; rfl
    · simp only [u2]
      rw [cf (by decide), ct (by rfl), ptake_eq _ h.1.2.1.2.2.2]
      simp only [Option.bind_some, nec, show pl s 2 = s.2.2.1.2.1 from rfl]
      by_cases e : (takeV s.2.2.1.2.1).2.2 = 0
      · rw [if_pos e, if_pos e, cf (by decide), ct (by rfl)]; rfl
      · rw [if_neg e, if_neg e]; rfl
    · simp only [u3]
      rw [ct (by rfl), ptake_eq _ h.1.2.2.2.2.2]
      simp only [Option.bind_some, nec, show pl s 3 = s.2.2.1.2.2 from rfl]
      by_cases e : (takeV s.2.2.1.2.2).2.2 = 0
      · rw [if_pos e, if_pos e, ct (by rfl)]; rfl
      · rw [if_neg e, if_neg e]; rfl
  · simp only [g, decide_false, Bool.not_false, cond_true, takeA, if_false]; rfl

theorem pretA_eq (s : Sh) (w r : Int) (h : fewS s) (hr : -9223372036854775808 ≤ r ∧ r ≤ 9223372036854775807) : arena_Retire (s, w, r) = some (retA s w r) := by
  unfold arena_Retire
  simp only [etaS, may_eq s w h, Option.bind_some]
  by_cases g : kindOk w ∧ okA s
  · simp only [g, and_self, decide_true, Bool.not_true, cond_false, retA, if_true, etaP]
    rcases three g.1 with rfl | rfl | rfl
    · simp only [u1]
      rw [cf (by decide), cf (by decide), ct (by rfl), pretire_eq _ _ _ h.1.1.2.2.2 hr]
      simp only [Option.bind_some, nec, show pl s 1 = s.2.2.1.1 from rfl]
      by_cases e : (retireV s.2.2.1.1 r s.2.2.2.1).2 = 0
      · rw [if_pos e, if_pos e, cf (by decide), cf (by decide), ct (by rfl)]; rfl
      · rw [if_neg e, if_neg e]; rfl
    · simp only [u2]
      rw [cf (by decide), ct (by rfl), pretire_eq _ _ _ h.1.2.1.2.2.2 hr]
      simp only [Option.bind_some, nec, show pl s 2 = s.2.2.1.2.1 from rfl]
      by_cases e : (retireV s.2.2.1.2.1 r s.2.2.2.1).2 = 0
      · rw [if_pos e, if_pos e, cf (by decide), ct (by rfl)]; rfl
      · rw [if_neg e, if_neg e]; rfl
    · simp only [u3]
      rw [ct (by rfl), pretire_eq _ _ _ h.1.2.2.2.2.2 hr]
      simp only [Option.bind_some, nec, show pl s 3 = s.2.2.1.2.2 from rfl]
      by_cases e : (retireV s.2.2.1.2.2 r s.2.2.2.1).2 = 0
      · rw [if_pos e, if_pos e, ct (by rfl)]; rfl
      · rw [if_neg e, if_neg e]; rfl
  · simp only [g, decide_false, Bool.not_false, cond_true, retA, if_false]; rfl
end Go.Proofs.Ytkdohmgacodhjaa.Pure
namespace Go.Proofs.Ytkdohmgacodhjaa.Pure
open Go Go.RowKit Go.Proofs.YtkdohmgacodhjaaFn Go.Proofs.YtkdohmgacodhjaaPx

theorem small_take (p : Pool) (h : small p) : small (takeV p).1 := by
  obtain ⟨G, S, W, F⟩ := p
  by_cases hk : okP (G, S, W, F)
  · cases F with
    | nil => rw [take_full hk]; exact small_noP
    | cons f F =>
      rw [take_one hk]
      obtain ⟨h1, h2, h3, h4⟩ := h
      simp only [List.length_cons] at h1 h2 h3 h4
      exact ⟨h1, by simpa using h2, h3, by simp only; omega⟩
  · rw [take_no hk]; exact small_noP
theorem small_retire (p : Pool) (r w : Int) (h : small p) : small (retireV p r w).1 := by
  unfold retireV
  obtain ⟨h1, h2, h3, h4⟩ := h
  split
  · split
    · exact ⟨h1, by simpa using h2, by simpa using h3, h4⟩
    · exact small_noP
  · exact small_noP
theorem small_reclaim (p : Pool) (u : Int) : small (reclaimV p u).1 := by
  unfold reclaimV
  split
  · rename_i h
    exact (okP_reclaim u h).small
  · exact small_noP
end Go.Proofs.Ytkdohmgacodhjaa.Pure
namespace Go.Proofs.Ytkdohmgacodhjaa.Pure
open Go Go.RowKit Go.Proofs.YtkdohmgacodhjaaFn Go.Proofs.YtkdohmgacodhjaaPx

/-! ### Turned -/
theorem pturn_loop_yes (k : Nat) (m l : List Int) (a b c : Pool) (n1 n2 n3 : Int) (pins : List Int) (ha : a.2.2.2.length ≤ 1000) (hb : b.2.2.2.length ≤ 1000) (hc : c.2.2.2.length ≤ 1000) :
    arena_Turn_L16 (k + 4) true a.1 a.2.1 a.2.2.1 a.2.2.2 b.1 b.2.1 b.2.2.1 b.2.2.2 c.1 c.2.1 c.2.2.1 c.2.2.2 0 m l a.1 a.2.1 a.2.2.1 a.2.2.2 b.1 b.2.1 b.2.2.1 b.2.2.2 c.1 c.2.1 c.2.2.1 c.2.2.2 n1 n2 n3 pins = some ((m, l, ((reclaimV a (safeV (n3, pins))).1, (reclaimV b (safeV (n3, pins))).1, (reclaimV c (safeV (n3, pins))).1), n1, pins), true) := by
  rw [arena_Turn_L16, ct (by decide), cf (by decide), cf (by decide), ct (by rfl), psafe_eq, Option.bind_some, etaP, preclaim_eq a _ ha, Option.bind_some, cf (by decide), cf (by decide), ct (by rfl), w01]
  rw [arena_Turn_L16x3, ct (by decide), cf (by decide), ct (by rfl), psafe_eq, Option.bind_some, etaP, preclaim_eq b _ hb, Option.bind_some, cf (by decide), ct (by rfl), w12]
  rw [arena_Turn_L16x6, ct (by decide), ct (by rfl), psafe_eq, Option.bind_some, etaP, preclaim_eq c _ hc, Option.bind_some, ct (by rfl), w23]
  rw [arena_Turn_L16x7, cf (by decide)]
open Classical in
noncomputable def turnA (s : Sh) : Sh × Bool := if okA s then (if (turnV s.2.2.2).2 = true then ((s.1, s.2.1, ((reclaimV s.2.2.1.1 (safeV (turnV s.2.2.2).1)).1, (reclaimV s.2.2.1.2.1 (safeV (turnV s.2.2.2).1)).1, (reclaimV s.2.2.1.2.2 (safeV (turnV s.2.2.2).1)).1), (turnV s.2.2.2).1), true) else ((s.1, s.2.1, s.2.2.1, (turnV s.2.2.2).1), false)) else (noS, false)

theorem pturnA_eq (s : Sh) (h : fewS s) : arena_Turn s = some (turnA s) := by
  unfold arena_Turn arena_Turn_K
  by_cases ho : okA s
  · simp only [etaS, etaEr, may_yes (w := 1) h ⟨by omega, ho⟩, pturn_eq, Option.bind_some, ho, Bool.not_true, cond_false, turnA, if_true]
    by_cases ht : (turnV s.2.2.2).2 = true
    · have := pturn_loop_yes 1999996 s.1 s.2.1 s.2.2.1.1 s.2.2.1.2.1 s.2.2.1.2.2 (turnV s.2.2.2).1.1 0 (turnV s.2.2.2).1.1 (turnV s.2.2.2).1.2 h.1.1.2.2.2 h.1.2.1.2.2.2 h.1.2.2.2.2.2
      rw [show (1999996 + 4 : Nat) = 2000000 from rfl] at this
      simp only [ht, cond_true, if_true]
      rw [this]
    · simp only [ht, if_false]; rfl
  · simp only [etaS, etaEr, may_no (w := 1) h (fun q => ho q.2), Option.bind_some, ho, Bool.not_false, cond_true, turnA, if_false]; rfl

/-! ### Pinned, and ended -/
open Classical in
noncomputable def pinA (s : Sh) (t : Int) : Sh × Int := if okA s then (if (pinV s.2.2.2 t).2 = 0 then ((s.1, s.2.1, s.2.2.1, (pinV s.2.2.2 t).1), 0) else (noS, (pinV s.2.2.2 t).2)) else (noS, 1)
open Classical in
noncomputable def endA (s : Sh) (t : Int) : Sh × Int := if okA s then (if (unpinV s.2.2.2 t).2 = 0 then ((turnA (s.1, s.2.1, s.2.2.1, (unpinV s.2.2.2 t).1)).1, 0) else (noS, (unpinV s.2.2.2 t).2)) else (noS, 1)

theorem ppinA_eq (s : Sh) (t : Int) (h : fewS s) : arena_Pin (s, t) = some (pinA s t) := by
  unfold arena_Pin
  by_cases ho : okA s
  · simp only [etaS, etaEr, may_yes (w := 1) h ⟨by omega, ho⟩, ppin_eq, Option.bind_some, nec, ho, Bool.not_true, cond_false, pinA, if_true]
    by_cases e : (pinV s.2.2.2 t).2 = 0
    · rw [if_pos e, if_pos e]
    · rw [if_neg e, if_neg e]; rfl
  · simp only [etaS, etaEr, may_no (w := 1) h (fun q => ho q.2), Option.bind_some, ho, Bool.not_false, cond_true, pinA, if_false]; rfl
theorem few_unpin (s : Sh) (t : Int) (h : fewS s) : fewS (s.1, s.2.1, s.2.2.1, (unpinV s.2.2.2 t).1) := ⟨h.1, unpin_len _ t h.2.1, h.2.2⟩
theorem few_pin (s : Sh) (t : Int) (h : fewS s) : fewS (s.1, s.2.1, s.2.2.1, (pinV s.2.2.2 t).1) := ⟨h.1, pin_len _ t h.2.1, h.2.2⟩
theorem pendA_eq (s : Sh) (t : Int) (h : fewS s) : arena_End (s, t) = some (endA s t) := by
  unfold arena_End
  by_cases ho : okA s
  · simp only [etaS, etaEr, may_yes (w := 1) h ⟨by omega, ho⟩, punpin_eq, Option.bind_some, nec, ho, Bool.not_true, cond_false, endA, if_true]
    by_cases e : (unpinV s.2.2.2 t).2 = 0
    · rw [if_pos e, if_pos e]
      have := pturnA_eq _ (few_unpin s t h)
      rw [show ((s.1, s.2.1, ((s.2.2.1.1.1, s.2.2.1.1.2.1, s.2.2.1.1.2.2.1, s.2.2.1.1.2.2.2), (s.2.2.1.2.1.1, s.2.2.1.2.1.2.1, s.2.2.1.2.1.2.2.1, s.2.2.1.2.1.2.2.2), s.2.2.1.2.2.1, s.2.2.1.2.2.2.1, s.2.2.1.2.2.2.2.1, s.2.2.1.2.2.2.2.2), (unpinV s.2.2.2 t).1.1, (unpinV s.2.2.2 t).1.2) : Sh) = (s.1, s.2.1, s.2.2.1, (unpinV s.2.2.2 t).1) from rfl, this]
      rfl
    · rw [if_neg e, if_neg e]; rfl
  · simp only [etaS, etaEr, may_no (w := 1) h (fun q => ho q.2), Option.bind_some, ho, Bool.not_false, cond_true, endA, if_false]; rfl
/-! ### Told -/
open Classical in
noncomputable def genA (s : Sh) (w r : Int) : Int × Int × Int := if (unpackV r).2.2 = 0 ∧ kindOk w ∧ okA s ∧ (unpackV r).1 < ((pl s w).1.length : Int) then ((pl s w).1.getD (unpackV r).1.toNat 0, (pl s w).2.1.getD (unpackV r).1.toNat 0, 0) else (0, 0, 1)
theorem okA.pl {s : Sh} (h : okA s) (w : Int) : okP (pl s w) := by
  unfold Pure.pl
  split
  · exact h.1
  · split
    · exact h.2.1
    · exact h.2.2.1
theorem unpack_nn (r : Int) : 0 ≤ (unpackV r).1 := by
  unfold unpackV
  split
  · exact Int.emod_nonneg _ (by decide)
  · exact Int.le_refl _

/-! ### Made -/
def newA (c : Int × Int × Int × Int × Int) (n : Int) : Sh × Int := if ok c ∧ 1 ≤ n ∧ n ≤ 64 then (([], [], ((newV c.1).1, (newV c.2.1).1, (newV c.2.2.1).1), (newE n).1), 0) else (noS, 1)
theorem newV_zero {n : Int} (h : 1 ≤ n ∧ n ≤ 64) : (newV n).2 = 0 := by unfold newV; rw [if_pos h]
theorem newE_zero (n : Int) : (newE n).2 = 0 ↔ (1 ≤ n ∧ n ≤ 64) := by
  unfold newE
  by_cases h : 1 ≤ n ∧ n ≤ 64
  · rw [if_pos h]; simp [h]
  · rw [if_neg h]; simp [h]
theorem newE_err {n : Int} (h : ¬ (1 ≤ n ∧ n ≤ 64)) : newE n = (noE, 1) := if_neg h

theorem pnew_loop7 (k : Nat) (N E P : Int) (z e1 : Int) (e2 : List Int) (hN : 1 ≤ N ∧ N ≤ 64) (hE : 1 ≤ E ∧ E ≤ 64) (hP : 1 ≤ P ∧ P ≤ 64) :
    arena_New_L20 (k + 4) N E P 0 z e1 e2 = some (([], [], ((newV N).1, (newV E).1, (newV P).1), e1, e2), 0) := by
  rw [arena_New_L20, ct (by decide), cf (by decide), cf (by decide), ct (by rfl), pnew_eq, Option.bind_some, cf (by decide), cf (by decide), ct (by rfl), nec, if_pos (newV_zero hN), w01]
  rw [arena_New_L20x3, ct (by decide), cf (by decide), ct (by rfl), pnew_eq, Option.bind_some, cf (by decide), ct (by rfl), nec, if_pos (newV_zero hE), w12]
  rw [arena_New_L20x6, ct (by decide), ct (by rfl), pnew_eq, Option.bind_some, ct (by rfl), nec, if_pos (newV_zero hP), w23]
  rw [arena_New_L20x7, cf (by decide)]
theorem pnewA_eq (c : Int × Int × Int × Int × Int) (n : Int) : arena_New (c, n) = some (newA c n) := by
  unfold arena_New arena_New_K
  simp only [show ((c.1, c.2.1, c.2.2.1, c.2.2.2.1, c.2.2.2.2) : Int × Int × Int × Int × Int) = c from rfl, check_eq, pnewE_eq, Option.bind_some, nec]
  by_cases hc : ok c
  · rw [if_pos hc, if_pos rfl]
    by_cases hn : 1 ≤ n ∧ n ≤ 64
    · rw [if_pos ((newE_zero n).2 hn), newA, if_pos ⟨hc, hn⟩]
      have := pnew_loop7 1999996 c.1 c.2.1 c.2.2.1 0 (newE n).1.1 (newE n).1.2 hc.1 hc.2.1 hc.2.2.1
      rw [show (1999996 + 4 : Nat) = 2000000 from rfl] at this
      rw [this]
    · rw [newE_err hn, if_neg (by decide), newA, if_neg (fun q => hn q.2)]; rfl
  · rw [if_neg hc, if_neg (by decide), newA, if_neg (fun q => hc q.1)]; rfl
end Go.Proofs.Ytkdohmgacodhjaa.Pure
namespace Go.Proofs.Ytkdohmgacodhjaa.Pure
open Go Go.RowKit Go.Proofs.YtkdohmgacodhjaaFn Go.Proofs.YtkdohmgacodhjaaPx

theorem few_noS : fewS noS := ⟨⟨small_noP, small_noP, small_noP⟩, by decide, by decide, by decide⟩
theorem small_pl {s : Sh} (w : Int) (h : fewS s) : small (pl s w) := by
  unfold pl
  split
  · exact h.1.1
  · split
    · exact h.1.2.1
    · exact h.1.2.2
theorem few_setpl {s : Sh} (w : Int) {p : Pool} (h : fewS s) (hp : small p) : fewS (setpl s w p) := by
  unfold setpl
  refine ⟨?_, h.2⟩
  split
  · exact ⟨hp, h.1.2⟩
  · split
    · exact ⟨h.1.1, hp, h.1.2.2⟩
    · exact ⟨h.1.1, h.1.2.1, hp⟩
theorem few_take {s : Sh} (w : Int) (h : fewS s) : fewS (takeA s w).1 := by
  unfold takeA
  split
  · split
    · exact few_setpl w h (small_take _ (small_pl w h))
    · exact few_noS
  · exact few_noS
theorem few_ret {s : Sh} (w r : Int) (h : fewS s) : fewS (retA s w r).1 := by
  unfold retA
  split
  · split
    · exact few_setpl w h (small_retire _ _ _ (small_pl w h))
    · exact few_noS
  · exact few_noS
theorem few_pinA {s : Sh} (t : Int) (h : fewS s) : fewS (pinA s t).1 := by
  unfold pinA
  split
  · split
    · exact few_pin s t h
    · exact few_noS
  · exact few_noS
theorem few_turnA {s : Sh} (h : fewS s) : fewS (turnA s).1 := by
  unfold turnA
  have ht := turn_len s.2.2.2 h.2.1
  split
  · split
    · exact ⟨⟨small_reclaim _ _, small_reclaim _ _, small_reclaim _ _⟩, ht, h.2.2⟩
    · exact ⟨h.1, ht, h.2.2⟩
  · exact few_noS
theorem few_endA {s : Sh} (t : Int) (h : fewS s) : fewS (endA s t).1 := by
  unfold endA
  split
  · split
    · exact few_turnA (few_unpin s t h)
    · exact few_noS
  · exact few_noS
theorem few_newA (c : Int × Int × Int × Int × Int) (n : Int) : fewS (newA c n).1 := by
  unfold newA
  split
  · rename_i h
    obtain ⟨⟨h1, h2, h3, _⟩, hn⟩ := h
    have q : ∀ N : Int, 1 ≤ N ∧ N ≤ 64 → small (newV N).1 := fun N hN => by
      unfold newV; rw [if_pos hN]
      exact (okP_new N.toNat (by omega) (by omega)).small
    exact ⟨⟨q _ h1, q _ h2, q _ h3⟩, newE_len n, Nat.zero_le _, Nat.zero_le _⟩
  · exact few_noS

theorem live7_eq : tendrillaw07_live () = some true := by kernel_rfl

/-! ### ArenaApart -/
theorem take_set {s : Sh} {w : Int} (h : (takeA s w).2.2 = 0) : kindOk w ∧ ∃ p, (takeA s w).1 = setpl s w p := by
  unfold takeA at h ⊢
  by_cases g : kindOk w ∧ okA s
  · rw [if_pos g] at h ⊢
    by_cases e : (takeV (pl s w)).2.2 = 0
    · rw [if_pos e]; exact ⟨g.1, _, rfl⟩
    · rw [if_neg e] at h; exact absurd h e
  · rw [if_neg g] at h; exact absurd h (by decide)
theorem ret_set {s : Sh} {w r : Int} (h : (retA s w r).2 = 0) : kindOk w ∧ ∃ p, (retA s w r).1 = setpl s w p := by
  unfold retA at h ⊢
  by_cases g : kindOk w ∧ okA s
  · rw [if_pos g] at h ⊢
    by_cases e : (retireV (pl s w) r s.2.2.2.1).2 = 0
    · rw [if_pos e]; exact ⟨g.1, _, rfl⟩
    · rw [if_neg e] at h; exact absurd h e
  · rw [if_neg g] at h; exact absurd h (by decide)
end Go.Proofs.Ytkdohmgacodhjaa.Pure
namespace Go.Proofs.Ytkdohmgacodhjaa.Pure
open Go Go.RowKit Go.Proofs.YtkdohmgacodhjaaFn Go.Proofs.YtkdohmgacodhjaaPx

theorem retire_some7 {p : Pool} {r w : Int} (h : okP p) (hu : (unpackV r).2.2 = 0) (hs : (unpackV r).1 < (p.1.length : Int)) :
    retireV p r w = if holdsR p (unpackV r) then ((p.1, p.2.1.set (unpackV r).1.toNat 2, p.2.2.1.set (unpackV r).1.toNat w, p.2.2.2), 0) else (noP, 2) := if_pos ⟨h, hu, hs⟩
theorem take_cases7 (p : Pool) (hp : okP p) : (takeV p = (noP, 0, 3)) ∨ ∃ f F, takeV p = ((p.1, p.2.1.set f.toNat 1, p.2.2.1, F), 1 + 1024 * p.1.getD f.toNat 0 + f, 0) ∧ okP (p.1, p.2.1.set f.toNat 1, p.2.2.1, F) ∧ 0 ≤ f ∧ f < (p.1.length : Int) ∧ p.2.1.getD f.toNat 0 = 0 ∧ unpackV (1 + 1024 * p.1.getD f.toNat 0 + f) = (f, p.1.getD f.toNat 0, 0) ∧ (-9223372036854775808 ≤ 1 + 1024 * p.1.getD f.toNat 0 + f ∧ 1 + 1024 * p.1.getD f.toNat 0 + f ≤ 9223372036854775807) := by
  obtain ⟨G, S, W, F⟩ := p
  cases F with
  | nil => exact .inl (take_full hp)
  | cons f F =>
    obtain ⟨h1, h2, h3⟩ := okP_take hp
    have hl := hp.lens
    have hs := hp.slot (t := f.toNat) (by simp only at hl ⊢; omega)
    have s1 := hs.1
    have s2 := hs.2.1
    simp only at s1 s2 hl
    exact .inr ⟨f, F, take_one hp, h1, h2.1, h2.2, h3, unpack_pack f (G.getD f.toNat 0) ⟨h2.1, by omega, s1, by omega⟩, by simp only; omega, by simp only; omega⟩
theorem turn_cases7 (e : Era) (h : okE e) : turnV e = (e, false) ∨ turnV e = ((e.1 + 1, e.2), true) := by
  unfold turnV
  rw [if_pos h]
  split
  · exact Or.inl rfl
  · exact Or.inr rfl
theorem turn_okA7 {s : Sh} (h : okA s) : okA (turnA s).1 := by
  unfold turnA
  rw [if_pos h]
  have he := okE_turn h.2.2.2
  have r : ∀ (u : Int) (p : Pool), okP p → okP (reclaimV p u).1 := fun u p hp => by rw [reclaim_some _ hp]; exact okP_reclaim u hp
  split
  · exact ⟨r _ _ h.1, r _ _ h.2.1, r _ _ h.2.2.1, he⟩
  · exact ⟨h.1, h.2.1, h.2.2.1, he⟩
theorem okA_setpl {s : Sh} (w : Int) {p : Pool} (h : okA s) (hp : okP p) : okA (setpl s w p) := by
  unfold setpl
  refine ⟨?_, ?_, ?_, h.2.2.2⟩
  all_goals
    simp only
    split
    · first | exact hp | exact h.2.1 | exact h.2.2.1
    · split
      · first | exact hp | exact h.1 | exact h.2.2.1
      · first | exact hp | exact h.1 | exact h.2.1
theorem pl_setpl {s : Sh} {w x : Int} {p : Pool} (hw : kindOk w) (hx : kindOk x) : pl (setpl s w p) x = if x = w then p else pl s x := by
  rcases three hw with rfl | rfl | rfl <;> rcases three hx with rfl | rfl | rfl <;> rfl
theorem pl_era (m l : List Int) (q : Pool × Pool × Pool) (e e' : Era) (w : Int) : pl (m, l, q, e) w = pl (m, l, q, e') w := rfl
theorem pl_map (m l : List Int) (a b c : Pool) (e e' : Era) (g : Pool → Pool) (w : Int) : pl (m, l, (g a, g b, g c), e) w = g (pl (m, l, (a, b, c), e') w) := by
  unfold pl
  split
  · rfl
  · split <;> rfl

abbrev Row := List (Int × Int)
/-- What was retired since 'P', and stays so. -/
def seenOk (s : Sh) (P : Int) (x : Int × Int) : Prop := kindOk x.1 ∧ 0 ≤ x.2 ∧ x.2 < ((pl s x.1).1.length : Int) ∧ (pl s x.1).2.1.getD x.2.toNat 0 = 2 ∧ P ≤ (pl s x.1).2.2.1.getD x.2.toNat 0
/-- What is taken. -/
def liveOk (s : Sh) (y : Int × Int) : Prop := kindOk y.1 ∧ (-9223372036854775808 ≤ y.2 ∧ y.2 ≤ 9223372036854775807) ∧ (unpackV y.2).2.2 = 0 ∧ (unpackV y.2).1 < ((pl s y.1).1.length : Int) ∧ holdsR (pl s y.1) (unpackV y.2)
def lk (y : Int × Int) : Int × Int := (y.1, (unpackV y.2).1)
structure Inv (n m : Nat) (s : Sh) (pin : List Bool) (live : Row) (seen : List Row) : Prop where
  ok : okA s
  few : fewS s
  lp : s.2.2.2.2.length = n
  lb : pin.length = n
  ls : seen.length = n
  pinned : ∀ i, i < n → pin.getD i false = true → s.2.2.2.2.getD i 0 ≠ -1 ∧ ∀ x ∈ seen.getD i [], seenOk s (s.2.2.2.2.getD i 0) x
  lives : ∀ y ∈ live, liveOk s y
  nodup : (live.map lk).Nodup
  ll : live.length ≤ m
  lr : ∀ i, i < n → (seen.getD i []).length ≤ m
theorem Inv.more {n m m' : Nat} {s : Sh} {pin : List Bool} {live : Row} {seen : List Row} (I : Inv n m s pin live seen) (h : m ≤ m') : Inv n m' s pin live seen :=
  { I with ll := Nat.le_trans I.ll h, lr := fun i hi => Nat.le_trans (I.lr i hi) h }

theorem inv_new {c : Int × Int × Int × Int × Int} {n : Nat} (h : (newA c n).2 = 0) : Inv n 0 (newA c n).1 (List.replicate n false) [] (List.replicate n []) := by
  have hf := few_newA c n
  unfold newA at h hf ⊢
  by_cases g : ok c ∧ 1 ≤ (n : Int) ∧ (n : Int) ≤ 64
  · rw [if_pos g] at h hf ⊢
    obtain ⟨⟨h1, h2, h3, _⟩, hn⟩ := g
    have q : ∀ N : Int, 1 ≤ N ∧ N ≤ 64 → okP (newV N).1 := fun N hN => by
      unfold newV; rw [if_pos hN]
      exact okP_new N.toNat (by omega) (by omega)
    have e : newE (n : Int) = ((0, List.replicate n (-1)), 0) := by unfold newE; rw [if_pos hn, Int.toNat_natCast]
    exact ⟨⟨q _ h1, q _ h2, q _ h3, by rw [e]; exact okE_rep n (by omega) (by omega) 0 (by omega) (by omega)⟩, hf, by simp only [e, List.length_replicate], by simp, by simp,
      fun i hi hp => by rw [getD_rep n i false false hi] at hp; exact absurd hp (by decide), fun y hy => by simp at hy, by simp, by simp, fun i hi => by rw [getD_rep n i _ _ hi]; simp⟩
  · rw [if_neg g] at h; exact absurd h (by decide)

theorem pl_turn (s : Sh) (hs : okA s) (w : Int) : pl (turnA s).1 w = (if (turnV s.2.2.2).2 = true then recFrom (s.2.2.2.1 - 1) (pl s w).1.length 0 (pl s w) else pl s w) ∧ (turnA s).1.2.2.2 = (turnV s.2.2.2).1 ∧ ((turnV s.2.2.2).2 = true → (turnV s.2.2.2).1 = (s.2.2.2.1 + 1, s.2.2.2.2)) ∧ ((turnV s.2.2.2).2 ≠ true → (turnV s.2.2.2).1 = s.2.2.2) := by
  obtain ⟨m, l, ⟨a, b, c⟩, e⟩ := s
  have oe := okE_turn hs.2.2.2
  have r : ∀ (p : Pool) (u : Int), okP p → (reclaimV p u).1 = recFrom u p.1.length 0 p := fun p u hp => by rw [reclaim_some _ hp]
  rcases turn_cases7 e hs.2.2.2 with h | h
  · simp only [turnA, if_pos hs, h]
    simp
  · simp only [h] at oe
    have hv : safeV (e.1 + 1, e.2) = e.1 - 1 := by unfold safeV; rw [if_pos oe]; simp only; omega
    simp only [turnA, if_pos hs, h, if_true, hv, r a _ hs.1, r b _ hs.2.1, r c _ hs.2.2.1]
    refine ⟨?_, trivial, fun _ => trivial, fun q => absurd rfl q⟩
    exact pl_map m l a b c (e.1 + 1, e.2) e (fun p => recFrom (e.1 - 1) p.1.length 0 p) w

theorem inv_turn {n m : Nat} {s : Sh} {pin : List Bool} {live : Row} {seen : List Row} (I : Inv n m s pin live seen) : Inv n m (turnA s).1 pin live seen := by
  have T := fun w => pl_turn s I.ok w
  have o2 := turn_okA7 I.ok
  by_cases c : (turnV s.2.2.2).2 = true
  rotate_left
  · have hp : ∀ w, pl (turnA s).1 w = pl s w := fun w => by rw [(T w).1, if_neg c]
    have he : (turnA s).1.2.2.2 = s.2.2.2 := by rw [(T 1).2.1, (T 1).2.2.2 c]
    exact ⟨o2, few_turnA I.few, by rw [he]; exact I.lp, I.lb, I.ls, fun i hi hb => by
      rw [he]
      exact ⟨(I.pinned i hi hb).1, fun x hx => by unfold seenOk; rw [hp]; exact (I.pinned i hi hb).2 x hx⟩, fun y hy => by unfold liveOk; rw [hp]; exact I.lives y hy, I.nodup, I.ll, I.lr⟩
  · have hp : ∀ w, pl (turnA s).1 w = recFrom (s.2.2.2.1 - 1) (pl s w).1.length 0 (pl s w) := fun w => by rw [(T w).1, if_pos c]
    have he : (turnA s).1.2.2.2 = (s.2.2.2.1 + 1, s.2.2.2.2) := by rw [(T 1).2.1, (T 1).2.2.1 c]
    have keep : ∀ (w : Int) (t : Nat), t < (pl s w).1.length → ¬ recCond (s.2.2.2.1 - 1) t (pl s w) → (pl (turnA s).1 w).1.getD t 0 = (pl s w).1.getD t 0 ∧ (pl (turnA s).1 w).2.1.getD t 0 = (pl s w).2.1.getD t 0 ∧ (pl (turnA s).1 w).2.2.1.getD t 0 = (pl s w).2.2.1.getD t 0 := fun w t ht hc => by
      have hl := (I.ok.pl w).lens
      rw [hp w]
      exact (recFrom_in _ _ 0 t (pl s w) (by omega) (by omega) ht hl.2.1 hl.2.2).2 hc
    have hlen : ∀ w, (pl (turnA s).1 w).1.length = (pl s w).1.length := fun w => by rw [hp w]; exact (recFrom_len _ _ _ _).1
    refine ⟨o2, few_turnA I.few, by rw [he]; exact I.lp, I.lb, I.ls, fun i hi hb => ?_, fun y hy => ?_, I.nodup, I.ll, I.lr⟩
    · rw [he]
      obtain ⟨h1, h2⟩ := I.pinned i hi hb
      refine ⟨h1, fun x hx => ?_⟩
      obtain ⟨a1, a2, a3, a4, a5⟩ := h2 x hx
      have hP : pinOk (s.2.2.2.1 + 1) (s.2.2.2.2.getD i 0) := by
        have := o2.2.2.2.2.2.2.2 (s.2.2.2.2.getD i 0)
        rw [he] at this
        exact this (by rw [getD_get _ i 0 (by rw [I.lp]; exact hi)]; exact List.getElem_mem _)
      obtain ⟨k1, k2, k3⟩ := keep x.1 x.2.toNat (by omega) (fun q => by
        have q2 := q.2.1
        rcases hP with h | h
        · exact h1 h
        · omega)
      exact ⟨a1, a2, by rw [hlen]; exact a3, by rw [k2]; exact a4, by rw [k3]; exact a5⟩
    · obtain ⟨a1, a2, a3, a4, a5⟩ := I.lives y hy
      have u0 : 0 ≤ (unpackV y.2).1 := by unfold unpackV; split <;> simp only <;> omega
      obtain ⟨k1, k2, k3⟩ := keep y.1 (unpackV y.2).1.toNat (by omega) (fun q => by
        have q1 := q.1
        rw [a5.1] at q1; exact absurd q1 (by decide))
      exact ⟨a1, a2, a3, by rw [hlen]; exact a4, by rw [k2]; exact a5.1, by rw [k1]; exact a5.2⟩

theorem inv_pin {n m : Nat} {s : Sh} {pin : List Bool} {live : Row} {seen : List Row} {t : Int} (I : Inv n m s pin live seen) (h : (pinA s t).2 = 0) : Inv n m (pinA s t).1 (pin.set t.toNat true) live (seen.set t.toNat []) := by
  have hf := few_pinA t I.few
  unfold pinA at h hf ⊢
  rw [if_pos I.ok] at h hf ⊢
  by_cases e : (pinV s.2.2.2 t).2 = 0
  rotate_left
  · rw [if_neg e] at h; exact absurd h e
  rw [if_pos e] at h hf ⊢
  have g : okE s.2.2.2 ∧ 0 ≤ t ∧ t < (s.2.2.2.2.length : Int) ∧ s.2.2.2.2.getD t.toNat 0 = -1 := by
    refine Classical.byContradiction fun q => ?_
    unfold pinV at e; rw [if_neg q] at e; exact absurd e (by decide)
  have e1 : (pinV s.2.2.2 t).1 = (s.2.2.2.1, s.2.2.2.2.set t.toNat s.2.2.2.1) := by unfold pinV; rw [if_pos g]
  rw [e1] at hf ⊢
  obtain ⟨g1, g2, g3, g4⟩ := g
  have ht : t.toNat < n := by have := I.lp; omega
  have lp := I.lp; have lb := I.lb; have ls := I.ls
  refine ⟨⟨I.ok.1, I.ok.2.1, I.ok.2.2.1, okE_set (t := t.toNat) (v := s.2.2.2.1) g1 (Or.inr ⟨g1.1, by omega, by omega⟩)⟩, hf, by simpa using lp, by simpa using lb, by simpa using ls, fun i hi hb => ?_, I.lives, I.nodup, I.ll, fun i hi => ?_⟩
  · show (s.2.2.2.2.set t.toNat s.2.2.2.1).getD i 0 ≠ -1 ∧ _
    rw [getD_set _ _ _ _ _ (by omega)]
    rw [getD_set _ _ _ _ _ (by omega)] at hb
    by_cases c : t.toNat = i
    · rw [if_pos c]
      have := g1.1
      refine ⟨by omega, fun x hx => ?_⟩
      rw [getD_set _ _ _ _ _ (by omega), if_pos c] at hx
      exact absurd hx (by simp)
    · rw [if_neg c] at hb ⊢
      refine ⟨(I.pinned i hi hb).1, fun x hx => ?_⟩
      rw [getD_set _ _ _ _ _ (by omega), if_neg c] at hx
      exact (I.pinned i hi hb).2 x hx
  · rw [getD_set _ _ _ _ _ (by omega)]
    split
    · simp
    · exact I.lr i hi

theorem inv_unpin {n m : Nat} {s : Sh} {pin : List Bool} {live : Row} {seen : List Row} {t : Int} (I : Inv n m s pin live seen) (e : (unpinV s.2.2.2 t).2 = 0) : Inv n m (s.1, s.2.1, s.2.2.1, (unpinV s.2.2.2 t).1) (pin.set t.toNat false) live seen := by
  have hf := few_unpin s t I.few
  have g : okE s.2.2.2 ∧ 0 ≤ t ∧ t < (s.2.2.2.2.length : Int) := by
    refine Classical.byContradiction fun q => ?_
    unfold unpinV at e; rw [if_neg q] at e; exact absurd e (by decide)
  have g4 : ¬ s.2.2.2.2.getD t.toNat 0 = -1 := fun q => by unfold unpinV at e; rw [if_pos g, if_pos q] at e; exact absurd e (by decide)
  have e1 : (unpinV s.2.2.2 t).1 = (s.2.2.2.1, s.2.2.2.2.set t.toNat (-1)) := by unfold unpinV; rw [if_pos g, if_neg g4]
  rw [e1] at hf ⊢
  obtain ⟨g1, g2, g3⟩ := g
  have ht : t.toNat < n := by have := I.lp; omega
  have lp := I.lp; have lb := I.lb; have ls := I.ls
  refine ⟨⟨I.ok.1, I.ok.2.1, I.ok.2.2.1, okE_set (t := t.toNat) (v := -1) g1 (Or.inl rfl)⟩, hf, by simpa using lp, by simpa using lb, ls, fun i hi hb => ?_, I.lives, I.nodup, I.ll, I.lr⟩
  show (s.2.2.2.2.set t.toNat (-1)).getD i 0 ≠ -1 ∧ _
  rw [getD_set _ _ _ _ _ (by omega)]
  rw [getD_set _ _ _ _ _ (by omega)] at hb
  by_cases c : t.toNat = i
  · rw [if_pos c] at hb; exact absurd hb (by decide)
  · rw [if_neg c] at hb ⊢
    refine ⟨(I.pinned i hi hb).1, fun x hx => ?_⟩
    exact (I.pinned i hi hb).2 x hx
theorem inv_end {n m : Nat} {s : Sh} {pin : List Bool} {live : Row} {seen : List Row} {t : Int} (I : Inv n m s pin live seen) (h : (endA s t).2 = 0) : Inv n m (endA s t).1 (pin.set t.toNat false) live seen := by
  unfold endA at h ⊢
  rw [if_pos I.ok] at h ⊢
  by_cases e : (unpinV s.2.2.2 t).2 = 0
  · rw [if_pos e]; exact inv_turn (inv_unpin I e)
  · rw [if_neg e] at h; exact absurd h e

theorem inv_take {n m : Nat} {s : Sh} {pin : List Bool} {live : Row} {seen : List Row} {w : Int} (I : Inv n m s pin live seen) (h : (takeA s w).2.2 = 0) :
    (-9223372036854775808 ≤ (takeA s w).2.1 ∧ (takeA s w).2.1 ≤ 9223372036854775807) ∧ (unpackV (takeA s w).2.1).2.2 = 0 ∧ Inv n (m + 1) (takeA s w).1 pin (live ++ [(w, (takeA s w).2.1)]) seen ∧
    (∀ i, i < n → pin.getD i false = true → ∀ x ∈ seen.getD i [], ¬ (x.1 = w ∧ x.2 = (unpackV (takeA s w).2.1).1)) := by
  have hf := few_take w I.few
  unfold takeA at h hf ⊢
  by_cases g : kindOk w ∧ okA s
  rotate_left
  · rw [if_neg g] at h; exact absurd h (by decide)
  rw [if_pos g] at h hf ⊢
  have hl := (I.ok.pl w).lens
  rcases take_cases7 (pl s w) (I.ok.pl w) with q | ⟨f, F, q1, q2, q3, q4, q5, q6, q7⟩
  · rw [q] at h; simp at h
  rw [q1] at hf ⊢
  simp only [if_true] at hf ⊢
  rw [q6]
  have qs : ∀ x : Int, kindOk x → pl (setpl s w ((pl s w).1, (pl s w).2.1.set f.toNat 1, (pl s w).2.2.1, F)) x = if x = w then ((pl s w).1, (pl s w).2.1.set f.toNat 1, (pl s w).2.2.1, F) else pl s x := fun x hx => pl_setpl g.1 hx
  have qlen : ∀ x : Int, kindOk x → (pl (setpl s w ((pl s w).1, (pl s w).2.1.set f.toNat 1, (pl s w).2.2.1, F)) x).1.length = (pl s x).1.length := fun x hx => by
    rw [qs x hx]; split
    · rename_i e; rw [e]
    · rfl
  have keep : ∀ (x : Int) (t : Nat), kindOk x → t < (pl s x).1.length → ¬ (x = w ∧ (t : Int) = f) → (pl (setpl s w ((pl s w).1, (pl s w).2.1.set f.toNat 1, (pl s w).2.2.1, F)) x).1.getD t 0 = (pl s x).1.getD t 0 ∧ (pl (setpl s w ((pl s w).1, (pl s w).2.1.set f.toNat 1, (pl s w).2.2.1, F)) x).2.1.getD t 0 = (pl s x).2.1.getD t 0 ∧ (pl (setpl s w ((pl s w).1, (pl s w).2.1.set f.toNat 1, (pl s w).2.2.1, F)) x).2.2.1.getD t 0 = (pl s x).2.2.1.getD t 0 := fun x t hx ht hn => by
    rw [qs x hx]
    by_cases e : x = w
    · rw [if_pos e]
      subst e
      refine ⟨rfl, ?_, rfl⟩
      show ((pl s x).2.1.set f.toNat 1).getD t 0 = _
      rw [getD_set _ _ _ _ _ (by omega), if_neg (fun z => hn ⟨rfl, by omega⟩)]
    · rw [if_neg e]; exact ⟨rfl, rfl, rfl⟩
  refine ⟨q7, rfl, ⟨okA_setpl w I.ok q2, hf, I.lp, I.lb, I.ls, fun i hi hb => ⟨(I.pinned i hi hb).1, fun x hx => ?_⟩, fun y hy => ?_, ?_, ?_, fun i hi => Nat.le_succ_of_le (I.lr i hi)⟩, fun i hi hb x hx q => ?_⟩
  · obtain ⟨a1, a2, a3, a4, a5⟩ := (I.pinned i hi hb).2 x hx
    obtain ⟨k1, k2, k3⟩ := keep x.1 x.2.toNat a1 (by omega) (fun z => by
      obtain ⟨z1, z2⟩ := z
      have : f.toNat = x.2.toNat := by omega
      rw [this, ← z1, a4] at q5; exact absurd q5 (by decide))
    exact ⟨a1, a2, by rw [qlen _ a1]; exact a3, by rw [k2]; exact a4, by rw [k3]; exact a5⟩
  · rcases List.mem_append.1 hy with hy | hy
    · obtain ⟨a1, a2, a3, a4, a5⟩ := I.lives y hy
      have u0 : 0 ≤ (unpackV y.2).1 := by unfold unpackV; split <;> simp only <;> omega
      obtain ⟨k1, k2, k3⟩ := keep y.1 (unpackV y.2).1.toNat a1 (by omega) (fun z => by
        obtain ⟨z1, z2⟩ := z
        have : f.toNat = (unpackV y.2).1.toNat := by omega
        rw [this, ← z1, a5.1] at q5; exact absurd q5 (by decide))
      exact ⟨a1, a2, a3, by rw [qlen _ a1]; exact a4, by rw [k2]; exact a5.1, by rw [k1]; exact a5.2⟩
    · rw [List.mem_singleton] at hy; subst hy
      refine ⟨g.1, q7, by rw [q6], by rw [q6, qlen _ g.1]; exact q4, ?_⟩
      rw [q6]
      show (pl (setpl s w ((pl s w).1, (pl s w).2.1.set f.toNat 1, (pl s w).2.2.1, F)) w).2.1.getD f.toNat 0 = 1 ∧ (pl (setpl s w ((pl s w).1, (pl s w).2.1.set f.toNat 1, (pl s w).2.2.1, F)) w).1.getD f.toNat 0 = (pl s w).1.getD f.toNat 0
      rw [qs w g.1, if_pos rfl]
      refine ⟨?_, rfl⟩
      show ((pl s w).2.1.set f.toNat 1).getD f.toNat 0 = 1
      rw [getD_set _ _ _ _ _ (by omega), if_pos rfl]
  · rw [List.map_append, List.nodup_append]
    refine ⟨I.nodup, by simp, fun a ha b hb => ?_⟩
    simp only [List.map_cons, List.map_nil, List.mem_singleton] at hb
    obtain ⟨y, hy, rfl⟩ := List.mem_map.1 ha
    subst hb
    intro z
    unfold lk at z
    rw [q6] at z
    simp only [Prod.mk.injEq] at z
    obtain ⟨a1, a2, a3, a4, a5⟩ := I.lives y hy
    have a6 := a5.1
    rw [z.2, z.1, q5] at a6; exact absurd a6 (by decide)
  · simp only [List.length_append, List.length_cons, List.length_nil]; have := I.ll; omega
  · obtain ⟨a1, a2, a3, a4, a5⟩ := (I.pinned i hi hb).2 x hx
    obtain ⟨z1, z2⟩ := q
    rw [z2, z1, q5] at a4; exact absurd a4 (by decide)

theorem inv_ret {n m : Nat} {s : Sh} {pin : List Bool} {live : Row} {seen seen' : List Row} {a : Nat} (I : Inv n m s pin live seen) (ha : a < live.length) {y : Int × Int} (hy : live.getD a (0, 0) = y) (h1 : seen'.length = n)
    (h2 : ∀ i, i < n → seen'.getD i [] = if pin.getD i false = true then seen.getD i [] ++ [(y.1, (unpackV y.2).1)] else seen.getD i []) :
    (-9223372036854775808 ≤ y.2 ∧ y.2 ≤ 9223372036854775807) ∧ (unpackV y.2).2.2 = 0 ∧ (retA s y.1 y.2).2 = 0 ∧ Inv n (m + 1) (retA s y.1 y.2).1 pin (live.take a ++ live.drop (a + 1)) seen' := by
  have hm : y ∈ live := by rw [← hy, getD_get _ a _ ha]; exact List.getElem_mem _
  obtain ⟨g1, g2, g3, g4, g5⟩ := I.lives y hm
  have u0 : 0 ≤ (unpackV y.2).1 := by unfold unpackV; split <;> simp only <;> omega
  have hf := few_ret y.1 y.2 I.few
  have op := I.ok.pl y.1
  have hl := op.lens
  unfold retA at hf ⊢
  rw [if_pos ⟨g1, I.ok⟩] at hf ⊢
  rw [retire_some7 op g3 g4, if_pos g5] at hf ⊢
  simp only [if_true] at hf ⊢
  have o2 := okP_retire (u := unpackV y.2) s.2.2.2.1 op u0 g4 g5
  obtain ⟨P, hP⟩ : ∃ P : Pool, ((pl s y.1).1, (pl s y.1).2.1.set (unpackV y.2).1.toNat 2, (pl s y.1).2.2.1.set (unpackV y.2).1.toNat s.2.2.2.1, (pl s y.1).2.2.2) = P := ⟨_, rfl⟩
  have qs : ∀ x : Int, kindOk x → pl (setpl s y.1 P) x = if x = y.1 then P else pl s x := fun x hx => pl_setpl g1 hx
  have p1 : P.1 = (pl s y.1).1 := by rw [← hP]
  have p2 : P.2.1 = (pl s y.1).2.1.set (unpackV y.2).1.toNat 2 := by rw [← hP]
  have p3 : P.2.2.1 = (pl s y.1).2.2.1.set (unpackV y.2).1.toNat s.2.2.2.1 := by rw [← hP]
  rw [hP] at o2 hf ⊢
  have qlen : ∀ x : Int, kindOk x → (pl (setpl s y.1 P) x).1.length = (pl s x).1.length := fun x hx => by
    rw [qs x hx]; split
    · rename_i e; rw [e, p1]
    · rfl
  have keep : ∀ (x : Int) (t : Nat), kindOk x → t < (pl s x).1.length → ¬ (x = y.1 ∧ (t : Int) = (unpackV y.2).1) → (pl (setpl s y.1 P) x).1.getD t 0 = (pl s x).1.getD t 0 ∧ (pl (setpl s y.1 P) x).2.1.getD t 0 = (pl s x).2.1.getD t 0 ∧ (pl (setpl s y.1 P) x).2.2.1.getD t 0 = (pl s x).2.2.1.getD t 0 := fun x t hx ht hn => by
    rw [qs x hx]
    by_cases e : x = y.1
    · rw [if_pos e, e, p1, p2, p3]
      rw [e] at ht
      rw [getD_set _ _ _ _ _ (by omega), getD_set _ _ _ _ _ (by omega), if_neg (fun z => hn ⟨e, by omega⟩), if_neg (fun z => hn ⟨e, by omega⟩)]
      exact ⟨rfl, rfl, rfl⟩
    · rw [if_neg e]; exact ⟨rfl, rfl, rfl⟩
  have hperm : (y :: (live.take a ++ live.drop (a + 1))).Perm live := by
    have e : live = live.take a ++ y :: live.drop (a + 1) := by
      rw [← hy, ← drop_cons live a (0, 0) ha, List.take_append_drop]
    have := @List.perm_middle _ y (live.take a) (live.drop (a + 1))
    exact this.symm.trans (List.Perm.of_eq e.symm)
  have hnd : ((y :: (live.take a ++ live.drop (a + 1))).map lk).Nodup := (hperm.map lk).nodup_iff.2 I.nodup
  rw [List.map_cons, List.nodup_cons] at hnd
  have hsub : ∀ z ∈ live.take a ++ live.drop (a + 1), z ∈ live := fun z hz => hperm.subset (List.mem_cons_of_mem _ hz)
  refine ⟨g2, g3, trivial, okA_setpl y.1 I.ok o2, hf, I.lp, I.lb, h1, fun i hi hb => ⟨(I.pinned i hi hb).1, fun x hx => ?_⟩, fun z hz => ?_, hnd.2, ?_, fun i hi => ?_⟩
  · rw [h2 i hi, if_pos hb] at hx
    rcases List.mem_append.1 hx with hx | hx
    · obtain ⟨a1, a2, a3, a4, a5⟩ := (I.pinned i hi hb).2 x hx
      obtain ⟨k1, k2, k3⟩ := keep x.1 x.2.toNat a1 (by omega) (fun z => by
        obtain ⟨z1, z2⟩ := z
        have z3 : x.2.toNat = (unpackV y.2).1.toNat := by omega
        rw [z3, z1, g5.1] at a4; exact absurd a4 (by decide))
      exact ⟨a1, a2, by rw [qlen _ a1]; exact a3, by rw [k2]; exact a4, by rw [k3]; exact a5⟩
    · rw [List.mem_singleton] at hx; subst hx
      have hpin := I.ok.2.2.2.2.2.2.2 (s.2.2.2.2.getD i 0) (by rw [getD_get _ i 0 (by rw [I.lp]; exact hi)]; exact List.getElem_mem _)
      refine ⟨g1, u0, by rw [qlen _ g1]; exact g4, ?_, ?_⟩
      · show (pl (setpl s y.1 P) y.1).2.1.getD (unpackV y.2).1.toNat 0 = 2
        rw [qs _ g1, if_pos rfl, p2, getD_set _ _ _ _ _ (by omega), if_pos rfl]
      · show s.2.2.2.2.getD i 0 ≤ (pl (setpl s y.1 P) y.1).2.2.1.getD (unpackV y.2).1.toNat 0
        rw [qs _ g1, if_pos rfl, p3, getD_set _ _ _ _ _ (by omega), if_pos rfl]
        have := (I.pinned i hi hb).1
        rcases hpin with q | q <;> omega
  · obtain ⟨a1, a2, a3, a4, a5⟩ := I.lives z (hsub z hz)
    have v0 : 0 ≤ (unpackV z.2).1 := by unfold unpackV; split <;> simp only <;> omega
    obtain ⟨k1, k2, k3⟩ := keep z.1 (unpackV z.2).1.toNat a1 (by omega) (fun q => hnd.1 (List.mem_map.2 ⟨z, hz, by
      have e : (unpackV z.2).1 = (unpackV y.2).1 := by omega
      show (z.1, (unpackV z.2).1) = (y.1, (unpackV y.2).1)
      rw [e, q.1]⟩))
    exact ⟨a1, a2, a3, by rw [qlen _ a1]; exact a4, by rw [k2]; exact a5.1, by rw [k1]; exact a5.2⟩
  · have := hperm.length_eq
    simp only [List.length_cons] at this
    have := I.ll; omega
  · rw [h2 i hi]
    have := I.lr i hi
    split
    · simp only [List.length_append, List.length_cons, List.length_nil]; omega
    · omega
end Go.Proofs.Ytkdohmgacodhjaa.Pure
