/- Plain facts about the functions of mem and of its reference; no condition. -/
import Derived.Test.YtfnkomlakgiicacFns
import Derived.IntWalk
set_option linter.unusedVariables false
set_option linter.unusedSimpArgs false
namespace Go.Proofs.Ytfnkomlakgiicac.Pure
open Go.RowKit Go.Proofs.YtfnkomlakgiicacFn Go.Proofs.YtfnkomlakgiicacPx

theorem ne_dec (a b : Int) : (a != b) = !decide (a = b) := rfl
theorem eq_dec (a b : Int) : (a == b) = decide (a = b) := rfl
theorem nec (a b : Int) {α : Type} (x y : α) : (bif a != b then x else y) = if a = b then y else x := by by_cases h : a = b <;> simp [h, ne_dec]
theorem eqc (a b : Int) {α : Type} (x y : α) : (bif a == b then x else y) = if a = b then x else y := by by_cases h : a = b <;> simp [h, eq_dec]

theorem same_loop (p0 p1 : List Int) (n : Nat) (h0 : p0.length = n) (h1 : p1.length = n) (hn : n ≤ 1000000) : ∀ (k i : Nat), i ≤ n → n < k + i → tendrilref02_Same_L10 k p0 p1 n i = some (decide (p0.drop i = p1.drop i))
  | 0, i, hi, hk => by omega
  | k + 1, i, hi, hk => by
    rw [tendrilref02_Same_L10]
    by_cases hlt : i < n
    · have e0 : p0.drop i = p0[i] :: p0.drop (i + 1) := List.drop_eq_getElem_cons (by omega)
      have e1 : p1.drop i = p1[i] :: p1.drop (i + 1) := List.drop_eq_getElem_cons (by omega)
      have g0 : p0.getD i 0 = p0[i] := by simp [List.getD_eq_getElem?_getD, h0, hlt]
      have g1 : p1.getD i 0 = p1[i] := by simp [List.getD_eq_getElem?_getD, h1, hlt]
      have hw : Go.RowKit.wrap64 ((i : Int) + 1) = ((i + 1 : Nat) : Int) := by rw [IntWalk.wrap64_in _ (by omega)]; omega
      have ih := same_loop p0 p1 n h0 h1 hn k (i + 1) (by omega) (by omega)
      simp only [show (i : Int) < (n : Int) by omega, show (0 : Int) ≤ (i : Int) by omega, h0, h1, decide_true, cond_true, Int.toNat_natCast, g0, g1, hw, ih, nec]
      rw [e0, e1]
      by_cases he : p0[i] = p1[i]
      · simp only [he, if_true, List.cons.injEq, true_and]
      · simp only [List.cons.injEq, he, false_and, decide_false, if_false]
    · have : i = n := by omega
      subst this
      simp only [Int.lt_irrefl, decide_false, cond_false]
      rw [List.drop_of_length_le (by omega), List.drop_of_length_le (by omega)]
      simp

theorem same_eq (a b : List Int) (ha : a.length ≤ 1000000) : tendrilref02_Same (a, b) = some (decide (a = b)) := by
  unfold tendrilref02_Same tendrilref02_Same_K
  by_cases hl : a.length = b.length
  · have := same_loop a b a.length rfl hl.symm ha 2000000 0 (by omega) (by omega)
    simp only [nec, hl, if_true]
    rw [hl] at this
    exact this
  · have : a ≠ b := fun e => hl (by rw [e])
    have h2 : ¬ ((a.length : Int) = (b.length : Int)) := by omega
    simp [nec, h2, this]

theorem in_eq (m : List Int) (i : Int) : mem_in (m, i) = some (decide (0 ≤ i ∧ i < m.length)) := by
  unfold mem_in
  by_cases h : 0 ≤ i <;> simp [h]

theorem clone_eq (m : List Int) (h : m.length ≤ 1000000) : slices_Clone m = some m := by
  unfold slices_Clone
  simp [h]

theorem copy_eq (m : List Int) (h : m.length ≤ 1000000) : tendrilref02_Copy m = some m := by
  unfold tendrilref02_Copy
  simp [h]

theorem store_eq (m : List Int) (i v : Int) (h : m.length ≤ 1000000) : mem_Store (m, i, v) = some (if 0 ≤ i ∧ i < m.length then (m.set i.toNat v, 0) else ([], 1)) := by
  unfold mem_Store
  simp only [in_eq, Option.bind_some]
  by_cases hi : 0 ≤ i ∧ i < m.length
  · simp [hi.1, hi.2, clone_eq m h]
  · simp [hi]

theorem load_eq (m : List Int) (i : Int) : mem_Load (m, i) = some (if 0 ≤ i ∧ i < m.length then (m.getD i.toNat 0, 0) else (0, 1)) := by
  unfold mem_Load
  simp only [in_eq, Option.bind_some]
  by_cases hi : 0 ≤ i ∧ i < m.length
  · simp [hi.1, hi.2]
  · simp [hi]

theorem cas_eq (m : List Int) (i a b : Int) (h : m.length ≤ 1000000) : mem_Cas (m, i, a, b) = some (if 0 ≤ i ∧ i < m.length then (if m.getD i.toNat 0 = a then (m.set i.toNat b, true, 0) else (m, false, 0)) else ([], false, 1)) := by
  unfold mem_Cas
  simp only [in_eq, Option.bind_some]
  by_cases hi : 0 ≤ i ∧ i < m.length
  · by_cases he : m.getD i.toNat 0 = a
    · simp only [hi, decide_true, cond_true, nec, he, if_true, and_self, Bool.not_true, cond_false, store_eq m i b h, Option.bind_some]
    · simp only [hi, decide_true, cond_true, nec, he, if_true, if_false, and_self, Bool.not_true, cond_false, clone_eq m h, Option.bind_some]
  · simp [hi]

theorem new_eq (n : Int) : mem_New n = some (if 0 ≤ n ∧ n ≤ 4096 then (List.replicate n.toNat 0, 0) else ([], 1)) := by
  unfold mem_New
  by_cases h1 : n < 0
  · have : ¬ (0 ≤ n ∧ n ≤ 4096) := by omega
    simp [h1, this]
  · by_cases h2 : 4096 < n
    · have : ¬ (0 ≤ n ∧ n ≤ 4096) := by omega
      simp [h1, h2, this]
    · have h3 : 0 ≤ n := by omega
      have h4 : n ≤ 4096 := by omega
      have h5 : n ≤ 1000000 := by omega
      simp [h1, h2, h3, h4, h5]

theorem rnew_eq (n : Int) : tendrilref02_New n = mem_New n := rfl

theorem rload_eq (m : List Int) (i : Int) : tendrilref02_Load (m, i) = some (if 0 ≤ i ∧ i < m.length then (m.getD i.toNat 0, 0) else (0, 1)) := by
  unfold tendrilref02_Load
  by_cases h1 : i < 0
  · have : ¬ (0 ≤ i ∧ i < m.length) := by omega
    simp [h1, this]
  · by_cases h2 : (m.length : Int) ≤ i
    · have : ¬ (0 ≤ i ∧ i < m.length) := by omega
      simp [h1, h2, this]
    · have h3 : 0 ≤ i := by omega
      have h4 : i < m.length := by omega
      simp [h1, h2, h3, h4]

theorem rstore_eq (m : List Int) (i v : Int) (h : m.length ≤ 1000000) : tendrilref02_Store (m, i, v) = some (if 0 ≤ i ∧ i < m.length then (m.set i.toNat v, 0) else ([], 1)) := by
  unfold tendrilref02_Store
  by_cases h1 : i < 0
  · have : ¬ (0 ≤ i ∧ i < m.length) := by omega
    simp [h1, this]
  · by_cases h2 : (m.length : Int) ≤ i
    · have : ¬ (0 ≤ i ∧ i < m.length) := by omega
      simp [h1, h2, this]
    · have h3 : 0 ≤ i := by omega
      have h4 : i < m.length := by omega
      simp [h1, h2, h3, h4, h]

theorem rcas_eq (m : List Int) (i a b : Int) (h : m.length ≤ 1000000) : tendrilref02_Cas (m, i, a, b) = mem_Cas (m, i, a, b) := by
  rw [cas_eq m i a b h]
  unfold tendrilref02_Cas
  simp only [rload_eq, Option.bind_some]
  by_cases hi : 0 ≤ i ∧ i < m.length
  · by_cases he : m.getD i.toNat 0 = a
    · simp only [hi, and_self, if_true, nec, he, rstore_eq m i b h, Option.bind_some, if_true]
    · simp only [hi, and_self, if_true, nec, he, if_false, Nat.zero_add, h, decide_true, cond_true]
  · simp [hi]

theorem live_eq : tendrillaw02_live () = some true := by kernel_rfl

theorem swaps_loop (p0 p4 : List Int) (p1 : Bool) (n : Nat) (hn : n ≤ 1000000) (hl : p0.length ≤ 1000000) : ∀ (k i : Nat) (p5 : List Int), p5.length = n → i ≤ n → n < k + i → tendrillaw02_MemSwaps_L22 k p0 p1 n i p4 p5 = some (p1 && decide (p0 = p4))
  | 0, i, _, _, hi, hk => by omega
  | k + 1, i, p5, h5, hi, hk => by
    rw [tendrillaw02_MemSwaps_L22]
    by_cases hlt : i < n
    · have hw : Go.RowKit.wrap64 ((i : Int) + 1) = ((i + 1 : Nat) : Int) := by rw [IntWalk.wrap64_in _ (by omega)]; omega
      simp only [show (i : Int) < (n : Int) by omega, show (0 : Int) ≤ (i : Int) by omega, h5, decide_true, cond_true, hw]
      exact swaps_loop p0 p4 p1 n hn hl k (i + 1) _ (by simp [h5]) (by omega) (by omega)
    · have : i = n := by omega
      subst this
      cases p1 <;> simp [same_eq p0 p4 hl]

theorem does_loop (p0 p4 : List Int) (p1 : Bool) (n : Nat) (hn : n ≤ 1000000) (hl : p0.length ≤ 1000000) : ∀ (k i : Nat) (p5 : List Int), p5.length = n → i ≤ n → n < k + i → tendrillaw02_MemDoes_L30 k p0 p1 n i p4 p5 = some (p1 && decide (p0 = p4))
  | 0, i, _, _, hi, hk => by omega
  | k + 1, i, p5, h5, hi, hk => by
    rw [tendrillaw02_MemDoes_L30]
    by_cases hlt : i < n
    · have hw : Go.RowKit.wrap64 ((i : Int) + 1) = ((i + 1 : Nat) : Int) := by rw [IntWalk.wrap64_in _ (by omega)]; omega
      simp only [show (i : Int) < (n : Int) by omega, show (0 : Int) ≤ (i : Int) by omega, h5, decide_true, cond_true, hw]
      exact does_loop p0 p4 p1 n hn hl k (i + 1) _ (by simp [h5]) (by omega) (by omega)
    · have : i = n := by omega
      subst this
      cases p1 <;> simp [same_eq p0 p4 hl]

theorem MemSwaps (x : List Int × Int × Int × Int) (_ : InRT [⟨false, .sl .int⟩, ⟨false, .int⟩, ⟨false, .int⟩, ⟨false, .int⟩] x) : tendrillaw02_MemSwaps x = some true := by
  obtain ⟨m, i, a, b⟩ := x
  unfold tendrillaw02_MemSwaps tendrillaw02_MemSwaps_K
  simp only [live_eq, Option.bind_some]
  by_cases hl : (1000 : Int) < m.length
  · simp [hl]
  · have hm : m.length ≤ 1000 := by omega
    have hm' : m.length ≤ 1000000 := by omega
    have hc : ∃ r, mem_Cas (m, i, a, b) = some r ∧ r.1.length ≤ 1000 := by
      refine ⟨_, cas_eq m i a b hm', ?_⟩
      split
      · split <;> simp <;> omega
      · simp
    obtain ⟨r, hr, hrl⟩ := hc
    have hlp := swaps_loop m m true r.1.length (by omega) hm' 2000000 0 r.1 rfl (by omega) (by omega)
    simp only [hl, copy_eq m hm', rcas_eq m i a b hm', hr, same_eq r.1 r.1 (by omega), Option.bind_some, Bool.not_true, cond_false, decide_false, decide_true, cond_true, beq_self_eq_true]
    simpa using hlp

theorem MemDoes (x : List Int × Int × Int × Int) (_ : InRT [⟨false, .sl .int⟩, ⟨false, .int⟩, ⟨false, .int⟩, ⟨false, .int⟩] x) : tendrillaw02_MemDoes x = some true := by
  obtain ⟨m, n, i, v⟩ := x
  unfold tendrillaw02_MemDoes tendrillaw02_MemDoes_K
  simp only [live_eq, Option.bind_some]
  by_cases hl : (1000 : Int) < m.length
  · simp [hl]
  · have hm : m.length ≤ 1000 := by omega
    have hm' : m.length ≤ 1000000 := by omega
    have hn : ∃ r, mem_New n = some r ∧ r.1.length ≤ 4096 := by
      refine ⟨_, new_eq n, ?_⟩
      split
      · simp; omega
      · simp
    obtain ⟨r, hr, hrl⟩ := hn
    have hs : ∃ r, mem_Store (m, i, v) = some r ∧ tendrilref02_Store (m, i, v) = some r ∧ r.1.length ≤ 1000 := by
      refine ⟨_, store_eq m i v hm', rstore_eq m i v hm', ?_⟩
      split
      · simp; omega
      · simp
    obtain ⟨s, hs1, hs2, hsl⟩ := hs
    have hlp := does_loop m m true s.1.length (by omega) hm' 2000000 0 s.1 rfl (by omega) (by omega)
    simp only [hl, copy_eq m hm', rnew_eq, hr, load_eq, rload_eq, hs1, hs2, same_eq r.1 r.1 (by omega), same_eq s.1 s.1 (by omega), Option.bind_some, Bool.not_true, cond_false, decide_false, decide_true, cond_true, beq_self_eq_true]
    simpa using hlp

theorem MemBack (x : List Int × Int × Int × Int) (_ : InRT [⟨false, .sl .int⟩, ⟨false, .int⟩, ⟨false, .int⟩, ⟨false, .int⟩] x) : tendrillaw02_MemBack x = some true := by
  obtain ⟨m, i, v, j⟩ := x
  unfold tendrillaw02_MemBack
  simp only [live_eq, Option.bind_some]
  by_cases hl : (1000 : Int) < m.length
  · simp [hl]
  · have hm' : m.length ≤ 1000000 := by omega
    simp only [hl, store_eq m i v hm', load_eq, Option.bind_some, Bool.not_true, cond_false, decide_false]
    by_cases hi : 0 ≤ i ∧ i < m.length
    · obtain ⟨q, rfl⟩ := Int.eq_ofNat_of_zero_le hi.1
      have hq : q < m.length := by omega
      by_cases hj : 0 ≤ j ∧ j < m.length
      · obtain ⟨p, rfl⟩ := Int.eq_ofNat_of_zero_le hj.1
        have hp : p < m.length := by omega
        by_cases e : p = q
        · subst e; simp [hq, hi, List.getD_eq_getElem?_getD]
        · have e' : ¬ q = p := fun h => e h.symm
          have e2 : ¬ ((p : Int) = (q : Int)) := by omega
          simp [hq, hp, hi, hj, e, e', e2, List.getD_eq_getElem?_getD, List.getElem?_set]
      · have e2 : ¬ (j = (q : Int)) := by rintro rfl; exact hj hi
        simp [hq, hi, hj, e2, List.getD_eq_getElem?_getD]
    · simp [hi]

theorem MemOnce (x : List Int × Int × Int × Int) (_ : InRT [⟨false, .sl .int⟩, ⟨false, .int⟩, ⟨false, .int⟩, ⟨false, .int⟩] x) : tendrillaw02_MemOnce x = some true := by
  obtain ⟨m, i, a, b⟩ := x
  unfold tendrillaw02_MemOnce
  simp only [live_eq, Option.bind_some]
  by_cases hl : (1000 : Int) < m.length
  · simp [hl]
  · have hm' : m.length ≤ 1000000 := by omega
    simp only [hl, load_eq, Option.bind_some, Bool.not_true, cond_false, decide_false]
    by_cases hi : 0 ≤ i ∧ i < m.length
    · obtain ⟨q, rfl⟩ := Int.eq_ofNat_of_zero_le hi.1
      have hq : q < m.length := by omega
      have hs : (m.set q a).length ≤ 1000000 := by simpa using hm'
      simp only [hi, and_self, if_true, cas_eq m _ _ a hm', bne_self_eq_false, cond_false, Option.bind_some, Int.toNat_natCast]
      rw [cas_eq _ _ _ b hs]
      by_cases e : a = m.getD q 0
      · have e0 : m[q]?.getD 0 = a := by rw [e, List.getD_eq_getElem?_getD]
        simp [hq, hi, e, e0, List.getD_eq_getElem?_getD]
      · have e0 : ¬ a = m[q]?.getD 0 := by rw [← List.getD_eq_getElem?_getD]; exact e
        have e1 : ¬ a = m[q] := by intro h; apply e; rw [h]; simp [hq]
        simp [hq, hi, e, e0, e1, eqc, List.getD_eq_getElem?_getD]
    · simp [hi]

theorem MemSame (x : List Int × Int × Int × Int) (_ : InRT [⟨false, .sl .int⟩, ⟨false, .int⟩, ⟨false, .int⟩, ⟨false, .int⟩] x) : tendrillaw02_MemSame x = some true := by
  obtain ⟨m, i, a, b⟩ := x
  unfold tendrillaw02_MemSame
  simp only [live_eq, Option.bind_some]
  by_cases hl : (1000 : Int) < m.length
  · simp [hl]
  · have hm' : m.length ≤ 1000000 := by omega
    simp only [hl, load_eq, cas_eq m i a b hm', store_eq m i b hm', Option.bind_some, Bool.not_true, cond_false, decide_false]
    by_cases hi : 0 ≤ i ∧ i < m.length
    · by_cases e : m.getD i.toNat 0 = a
      · have hs : (m.set i.toNat b).length ≤ 1000000 := by simpa using hm'
        simp only [hi, e, and_self, if_true, same_eq _ _ hs]
        simp
      · simp only [hi, e, and_self, if_true, if_false, same_eq _ _ hm', eqc]
        have e1 : ¬ m[i.toNat]?.getD 0 = a := by rw [← List.getD_eq_getElem?_getD]; exact e
        simp [eqc, e1]
    · simp [hi]

theorem MemNew (x : Int × Int) (_ : InRT [⟨false, .int⟩, ⟨false, .int⟩] x) : tendrillaw02_MemNew x = some true := by
  obtain ⟨n, i⟩ := x
  unfold tendrillaw02_MemNew
  simp only [live_eq, new_eq, Option.bind_some, Bool.not_true, cond_false]
  by_cases hn : 0 ≤ n ∧ n ≤ 4096
  · obtain ⟨q, rfl⟩ := Int.eq_ofNat_of_zero_le hn.1
    simp only [hn, and_self, if_true, load_eq, Option.bind_some]
    by_cases h0 : 0 ≤ i
    · obtain ⟨p, rfl⟩ := Int.eq_ofNat_of_zero_le h0
      by_cases h1 : p < q
      · simp [h1, List.getD_eq_getElem?_getD]
      · simp [h1]
    · simp [h0]
  · by_cases h0 : n < 0
    · simp [hn, h0]
    · have h1 : 4096 < n := by omega
      simp [hn, h0, h1]
end Go.Proofs.Ytfnkomlakgiicac.Pure
