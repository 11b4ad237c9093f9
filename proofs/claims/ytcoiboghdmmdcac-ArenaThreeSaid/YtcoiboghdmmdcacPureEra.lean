/- Eras: checked, made, pinned, unpinned, turned, as era and the reference do it; no condition. -/
import Derived.Test.YtcoiboghdmmdcacPureSame
set_option linter.unusedVariables false
set_option linter.unusedSimpArgs false
namespace Go.Proofs.Ytcoiboghdmmdcac.Pure
open Go Go.RowKit Go.Proofs.YtcoiboghdmmdcacFn Go.Proofs.YtcoiboghdmmdcacPx

abbrev Era := Int × List Int
abbrev pinOk (now n : Int) : Prop := n = -1 ∨ (0 ≤ n ∧ n ≤ now ∧ now - 1 ≤ n)
def okE (e : Era) : Prop := 0 ≤ e.1 ∧ e.1 ≤ 1152921504606846976 ∧ 1 ≤ e.2.length ∧ e.2.length ≤ 64 ∧ ∀ n ∈ e.2, pinOk e.1 n
instance (e : Era) : Decidable (okE e) := by unfold okE; infer_instance
def chkE (e : Era) : Int := if okE e then 0 else 1
theorem chkE_pos {e : Era} (h : okE e) : chkE e = 0 := if_pos h
theorem chkE_neg {e : Era} (h : ¬ okE e) : chkE e = 1 := if_neg h

theorem check1_eq (n now : Int) (l : List Int) (h0 : 0 ≤ now) (h1 : now ≤ 1152921504606846976) : era_Check_1 (n, now, l) = some (decide (¬ pinOk now n)) := by
  unfold era_Check_1
  simp only [nec, dec, w64 (show -9223372036854775808 ≤ now - 1 by omega) (by omega)]
  by_cases h : n = -1
  · rw [if_pos h]; simp [h]
  · rw [if_neg h]
    by_cases a : n < 0
    · rw [if_pos a]; congr 1; simp; omega
    · rw [if_neg a]
      by_cases b : now < n
      · rw [if_pos b]; congr 1; simp; omega
      · rw [if_neg b]; congr 1; rw [decide_eq_decide]; omega

theorem turn1_eq (n now : Int) (l : List Int) : era_Turn_1 (n, now, l) = some (decide (n ≠ -1 ∧ n ≠ now)) := by
  unfold era_Turn_1
  simp only [nec]
  by_cases h : n = -1
  · simp [h]
  · by_cases a : n = now <;> simp [h, a, ne_dec]

theorem idx1_loop (l : List Int) (now : Int) (pins : List Int) (h0 : 0 ≤ now) (h1 : now ≤ 1152921504606846976) (hn : l.length ≤ 1000000) : ∀ (k i : Nat), i ≤ l.length → l.length < k + i → ∃ r, slices_IndexFunc_era_Check_1_L6 k l (now, pins) l.length i = some r ∧ decide (0 ≤ r) = decide (∃ m ∈ l.drop i, ¬ pinOk now m)
  | 0, i, hi, hk => by omega
  | k + 1, i, hi, hk => by
    rw [slices_IndexFunc_era_Check_1_L6]
    by_cases hlt : i < l.length
    · have e0 := drop_cons l i 0 (by omega)
      obtain ⟨r, hr, hd⟩ := idx1_loop l now pins h0 h1 hn k (i + 1) (by omega) (by omega)
      simp only [show (i : Int) < (l.length : Int) by omega, show (0 : Int) ≤ (i : Int) by omega, decide_true, cond_true, Int.toNat_natCast, wi (show i ≤ 1000000 by omega), check1_eq _ now pins h0 h1, Option.bind_some, dec, e0]
      by_cases hp : pinOk now (l.getD i 0)
      · rw [if_neg (fun h => h hp)]
        refine ⟨r, hr, ?_⟩
        rw [hd, decide_eq_decide]
        simp only [List.mem_cons, exists_eq_or_imp, hp, not_true, false_or]
      · rw [if_pos hp]
        refine ⟨_, rfl, ?_⟩
        rw [decide_eq_decide]
        simp only [List.mem_cons, exists_eq_or_imp, hp, not_false_iff, true_or, iff_true]
        omega
    · have : i = l.length := by omega
      subst this
      simp only [Int.lt_irrefl, decide_false, cond_false]
      refine ⟨_, rfl, ?_⟩
      rw [List.drop_of_length_le (by omega)]
      simp

theorem idx2_loop (l : List Int) (now : Int) (pins : List Int) (hn : l.length ≤ 1000000) : ∀ (k i : Nat), i ≤ l.length → l.length < k + i → ∃ r, slices_IndexFunc_era_Turn_1_L6 k l (now, pins) l.length i = some r ∧ decide (0 ≤ r) = decide (∃ m ∈ l.drop i, m ≠ -1 ∧ m ≠ now)
  | 0, i, hi, hk => by omega
  | k + 1, i, hi, hk => by
    rw [slices_IndexFunc_era_Turn_1_L6]
    by_cases hlt : i < l.length
    · have e0 := drop_cons l i 0 (by omega)
      obtain ⟨r, hr, hd⟩ := idx2_loop l now pins hn k (i + 1) (by omega) (by omega)
      simp only [show (i : Int) < (l.length : Int) by omega, show (0 : Int) ≤ (i : Int) by omega, decide_true, cond_true, Int.toNat_natCast, wi (show i ≤ 1000000 by omega), turn1_eq, Option.bind_some, dec, e0]
      by_cases hp : l.getD i 0 ≠ -1 ∧ l.getD i 0 ≠ now
      · rw [if_pos hp]
        refine ⟨_, rfl, ?_⟩
        rw [decide_eq_decide]
        constructor
        · intro _; exact ⟨_, List.mem_cons_self, hp⟩
        · intro _; omega
      · rw [if_neg hp]
        refine ⟨r, hr, ?_⟩
        rw [hd, decide_eq_decide]
        constructor
        · rintro ⟨m, h1, h2⟩; exact ⟨m, List.mem_cons_of_mem _ h1, h2⟩
        · rintro ⟨m, h1, h2⟩
          rcases List.mem_cons.1 h1 with rfl | h1
          · exact absurd h2 hp
          · exact ⟨m, h1, h2⟩
    · have : i = l.length := by omega
      subst this
      simp only [Int.lt_irrefl, decide_false, cond_false]
      refine ⟨_, rfl, ?_⟩
      rw [List.drop_of_length_le (by omega)]
      simp

theorem con1_eq (l : List Int) (now : Int) (pins : List Int) (h0 : 0 ≤ now) (h1 : now ≤ 1152921504606846976) (hn : l.length ≤ 1000000) : slices_ContainsFunc_era_Check_1 (l, now, pins) = some (decide (∃ m ∈ l, ¬ pinOk now m)) := by
  obtain ⟨r, hr, hd⟩ := idx1_loop l now pins h0 h1 hn 2000000 0 (by omega) (by omega)
  have e : slices_IndexFunc_era_Check_1 (l, now, pins) = some r := hr
  unfold slices_ContainsFunc_era_Check_1
  simp only [e, Option.bind_some, hd, List.drop_zero]
theorem con2_eq (l : List Int) (now : Int) (pins : List Int) (hn : l.length ≤ 1000000) : slices_ContainsFunc_era_Turn_1 (l, now, pins) = some (decide (∃ m ∈ l, m ≠ -1 ∧ m ≠ now)) := by
  obtain ⟨r, hr, hd⟩ := idx2_loop l now pins hn 2000000 0 (by omega) (by omega)
  have e : slices_IndexFunc_era_Turn_1 (l, now, pins) = some r := hr
  unfold slices_ContainsFunc_era_Turn_1
  simp only [e, Option.bind_some, hd, List.drop_zero]

theorem pche_eq (e : Era) : era_Check e = some (chkE e) := by
  obtain ⟨now, pins⟩ := e
  unfold era_Check
  simp only [dec]
  by_cases a : now < 0
  · rw [if_pos a, chkE_neg (fun h => absurd h.1 (by simp only; omega))]
  rw [if_neg a]
  by_cases b : 1152921504606846976 < now
  · rw [if_pos b, chkE_neg (fun h => absurd h.2.1 (by simp only; omega))]
  rw [if_neg b]
  by_cases c : (pins.length : Int) < 1
  · rw [if_pos c, chkE_neg (fun h => absurd h.2.2.1 (by simp only; omega))]
  rw [if_neg c]
  by_cases d : (64 : Int) < (pins.length : Int)
  · rw [if_pos d, chkE_neg (fun h => absurd h.2.2.2.1 (by simp only; omega))]
  rw [if_neg d, con1_eq pins now pins (by omega) (by omega) (by omega)]
  simp only [Option.bind_some, dec]
  by_cases f : ∃ m ∈ pins, ¬ pinOk now m
  · rw [if_pos f, chkE_neg]
    rintro ⟨_, _, _, _, h⟩
    obtain ⟨m, h1, h2⟩ := f
    exact h2 (h m h1)
  · rw [if_neg f, chkE_pos]
    refine ⟨by simp only; omega, by simp only; omega, by simp only; omega, by simp only; omega, fun n hn => ?_⟩
    by_cases g : pinOk now n
    · exact g
    · exact absurd ⟨n, hn, g⟩ f

/-! ### What they do -/
def noE : Era := (0, [])
def newE (n : Int) : Era × Int := if 1 ≤ n ∧ n ≤ 64 then ((0, List.replicate n.toNat (-1)), 0) else (noE, 1)
def pinV (e : Era) (t : Int) : Era × Int := if okE e ∧ 0 ≤ t ∧ t < (e.2.length : Int) ∧ e.2.getD t.toNat 0 = -1 then ((e.1, e.2.set t.toNat e.1), 0) else (noE, 1)
def unpinV (e : Era) (t : Int) : Era × Int := if okE e ∧ 0 ≤ t ∧ t < (e.2.length : Int) then (if e.2.getD t.toNat 0 = -1 then (noE, 2) else ((e.1, e.2.set t.toNat (-1)), 0)) else (noE, 1)
def turnV (e : Era) : Era × Bool := if okE e then (if e.1 = 1152921504606846976 ∨ ∃ m ∈ e.2, m ≠ -1 ∧ m ≠ e.1 then (e, false) else ((e.1 + 1, e.2), true)) else (noE, false)
def safeV (e : Era) : Int := if okE e then e.1 - 2 else -1

theorem repeat_all : ∀ n : Fin 65, 1 ≤ n.val → slices_Repeat ([(-1 : Int)], (n.val : Int)) = some (List.replicate n.val (-1)) := by decide +kernel
theorem pnewE_eq (n : Int) : era_New n = some (newE n) := by
  unfold era_New newE
  simp only [dec]
  by_cases a : n < 1
  · rw [if_pos a, if_neg (by omega)]; rfl
  rw [if_neg a]
  by_cases b : 64 < n
  · rw [if_pos b, if_neg (by omega)]; rfl
  rw [if_neg b, if_pos (by omega)]
  have h := repeat_all ⟨n.toNat, by omega⟩ (by simp only; omega)
  simp only [show ((n.toNat : Nat) : Int) = n by omega] at h
  rw [h]
  rfl
theorem psafe_eq (e : Era) : era_Safe e = some (safeV e) := by
  unfold era_Safe
  simp only [pche_eq, Option.bind_some, nec]
  by_cases h : okE e
  · rw [show ((e.1, e.2) : Era) = e from rfl, chkE_pos h, if_pos rfl, safeV, if_pos h, w64 (by have := h.1; omega) (by have := h.2.1; omega)]
  · rw [show ((e.1, e.2) : Era) = e from rfl, chkE_neg h, if_neg (by decide), safeV, if_neg h]
theorem pturn_eq (e : Era) : era_Turn e = some (turnV e) := by
  obtain ⟨now, pins⟩ := e
  unfold era_Turn
  simp only [pche_eq, Option.bind_some, nec, eqc, dec]
  by_cases h : okE (now, pins)
  · rw [chkE_pos h, if_pos rfl]
    have hl : pins.length ≤ 64 := h.2.2.2.1
    rw [clone_eq pins (by omega)]
    simp only [Option.bind_some]
    unfold turnV
    simp only [if_pos h]
    by_cases a : now = 1152921504606846976
    · rw [if_pos a, if_pos (Or.inl a)]
    · rw [if_neg a, con2_eq pins now pins (by omega)]
      simp only [Option.bind_some, dec, a, false_or]
      have h0 : 0 ≤ now := h.1
      have h1 : now ≤ 1152921504606846976 := h.2.1
      rw [w64 (by omega) (by omega)]
      by_cases b : ∃ m ∈ pins, m ≠ -1 ∧ m ≠ now
      · rw [if_pos b, if_pos b]
      · rw [if_neg b, if_neg b]
  · rw [chkE_neg h, if_neg (by decide), turnV, if_neg h]; rfl

/-! ### Eras stay eras -/
theorem okE_new {n : Int} (h : 1 ≤ n ∧ n ≤ 64) : okE (newE n).1 := by
  unfold newE; rw [if_pos h]
  refine ⟨by simp, by simp, by simp; omega, by simp; omega, fun m hm => ?_⟩
  exact Or.inl (List.mem_replicate.1 hm).2
theorem mem_set' {l : List Int} {i : Nat} {v m : Int} (h : m ∈ l.set i v) : m ∈ l ∨ m = v := List.mem_or_eq_of_mem_set h
theorem okE_set {e : Era} {t : Nat} {v : Int} (h : okE e) (hv : pinOk e.1 v) : okE (e.1, e.2.set t v) := by
  obtain ⟨h1, h2, h3, h4, h5⟩ := h
  refine ⟨h1, h2, by simpa using h3, by simpa using h4, fun m hm => ?_⟩
  rcases mem_set' hm with hm | rfl
  · exact h5 m hm
  · exact hv
theorem okE_turn {e : Era} (h : okE e) : okE (turnV e).1 := by
  unfold turnV; rw [if_pos h]
  by_cases a : e.1 = 1152921504606846976 ∨ ∃ m ∈ e.2, m ≠ -1 ∧ m ≠ e.1
  · rw [if_pos a]; exact h
  · rw [if_neg a]
    obtain ⟨h1, h2, h3, h4, h5⟩ := h
    refine ⟨by simp only; omega, by simp only; omega, h3, h4, fun m hm => ?_⟩
    by_cases b : m = -1
    · exact Or.inl b
    · have : m = e.1 := Classical.byContradiction fun c => a (Or.inr ⟨m, hm, b, c⟩)
      exact Or.inr (by simp only; omega)
end Go.Proofs.Ytcoiboghdmmdcac.Pure
