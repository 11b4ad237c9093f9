/- Eras: what is made; the one stuck; whoever goes; apart; safe; no condition. -/
import Derived.Test.YtcoiboghdmmdcacPureEraDoes
set_option linter.unusedVariables false
set_option linter.unusedSimpArgs false
namespace Go.Proofs.Ytcoiboghdmmdcac.Pure
open Go Go.RowKit Go.Proofs.YtcoiboghdmmdcacFn Go.Proofs.YtcoiboghdmmdcacPx

theorem w01 : wrap64 (0 + 1) = 1 := by rw [w64 (by decide) (by decide)]; rfl
theorem w12 : wrap64 (1 + 1) = 2 := by rw [w64 (by decide) (by decide)]; rfl
theorem w23 : wrap64 (2 + 1) = 3 := by rw [w64 (by decide) (by decide)]; rfl
theorem etaE (q : Era) : ((q.1, q.2) : Era) = q := rfl

theorem newE_len (n : Int) : (newE n).1.2.length ≤ 1000 := by
  unfold newE
  split
  · simp; omega
  · simp [noE]

/-! ### EraStuck -/
theorem turn_free {e : Era} (h : okE e) (h2 : e.1 ≠ 1152921504606846976) (ha : ∀ m ∈ e.2, m = -1 ∨ m = e.1) : turnV e = ((e.1 + 1, e.2), true) := by
  unfold turnV
  rw [if_pos h, if_neg]
  rintro (g | ⟨m, h1, h2, h3⟩)
  · exact h2 g
  · rcases ha m h1 with h | h
    · exact h2 h
    · exact h3 h
theorem turn_stuck {e : Era} (h : okE e) {m : Int} (h1 : m ∈ e.2) (h2 : m ≠ -1) (h3 : m ≠ e.1) : turnV e = (e, false) := by
  unfold turnV
  rw [if_pos h, if_pos (Or.inr ⟨m, h1, h2, h3⟩)]

/-! ### EraGoes -/
theorem rep_succ (i : Nat) : List.replicate i (-1 : Int) ++ [-1] = List.replicate (i + 1) (-1) := by rw [List.replicate_succ']
theorem okE_rep (n : Nat) (h1 : 1 ≤ n) (h2 : n ≤ 64) (now : Int) (h3 : 0 ≤ now) (h4 : now ≤ 1152921504606846976) : okE (now, List.replicate n (-1)) :=
  ⟨h3, h4, by simpa using h1, by simpa using h2, fun m hm => Or.inl (List.mem_replicate.1 hm).2⟩

/-! ### EraApart -/
theorem set_apart (l : List Int) (t v : Int) (h0 : 0 ≤ t) (h1 : t < (l.length : Int)) (hv : v ≠ l.getD t.toNat 0) (i : Nat) (hi : i < l.length) : ((l.set t.toNat v).getD i 0 ≠ l.getD i 0 ↔ (i : Int) = t) := by
  rw [getD_set l t.toNat i v 0 (by omega)]
  by_cases e : t.toNat = i
  · subst e; rw [if_pos rfl]; exact ⟨fun _ => by omega, fun _ => hv⟩
  · rw [if_neg e]; exact ⟨fun h => absurd rfl h, fun h => by omega⟩

/-! ### EraSafe -/
theorem turn_cases (e : Era) (h : okE e) : turnV e = (e, false) ∨ turnV e = ((e.1 + 1, e.2), true) := by
  unfold turnV
  rw [if_pos h]
  split
  · exact Or.inl rfl
  · exact Or.inr rfl
end Go.Proofs.Ytcoiboghdmmdcac.Pure
