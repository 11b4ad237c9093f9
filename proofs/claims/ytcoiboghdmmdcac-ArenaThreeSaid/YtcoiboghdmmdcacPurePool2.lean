/- Pools: taken from, retired, reclaimed, counted, made, as pool and the reference do it; no condition. -/
import Derived.Test.YtcoiboghdmmdcacPurePool
set_option linter.unusedVariables false
set_option linter.unusedSimpArgs false
namespace Go.Proofs.Ytcoiboghdmmdcac.Pure
open Go Go.RowKit Go.Proofs.YtcoiboghdmmdcacFn Go.Proofs.YtcoiboghdmmdcacPx

def small (p : Pool) : Prop := p.1.length ≤ 1000 ∧ p.2.1.length ≤ 1000 ∧ p.2.2.1.length ≤ 1000 ∧ p.2.2.2.length ≤ 1000

theorem okP.lens {p : Pool} (h : okP p) : (1 ≤ p.1.length ∧ p.1.length ≤ 64) ∧ p.2.1.length = p.1.length ∧ p.2.2.1.length = p.1.length := ⟨h.1, h.2.1.1, h.2.1.2⟩
theorem okP.slot {p : Pool} (h : okP p) {t : Nat} (ht : t < p.1.length) : slotOk (p.1.getD t 0) (p.2.1.getD t 0) (p.2.2.1.getD t 0) := h.2.2.1 t (by omega) ht
theorem okP.inF {p : Pool} (h : okP p) : inAll p.2.2.2 p.1.length := h.2.2.2.1
theorem okP.cnt {p : Pool} (h : okP p) : freeOk p.2.1 p.2.2.2 p.1.length := h.2.2.2.2
/-- There are no more free slots than slots. -/
theorem okP.few {p : Pool} (h : okP p) : p.2.2.2.length ≤ 64 := by
  have h1 := (countP_all p.2.2.2 p.1.length).2 h.inF
  have key : ∀ i : Nat, i ≤ p.1.length → p.2.2.2.countP (fun f => decide (0 ≤ f ∧ f < (i : Int))) ≤ i := by
    intro i
    induction i with
    | zero => intro _; rw [countP_zero]; exact Nat.le_refl _
    | succ i ih =>
      intro hi
      rw [countP_succ]
      have := ih (by omega)
      have h2 := h.cnt i (by omega)
      rw [h2]
      split <;> omega
  have := key p.1.length (Nat.le_refl _)
  have := h.1
  omega
theorem okP.small {p : Pool} (h : okP p) : small p := by
  have h1 := h.lens
  have h2 := h.few
  exact ⟨by omega, by omega, by omega, by omega⟩
theorem small_noP : small noP := ⟨by decide, by decide, by decide, by decide⟩

theorem own_eq (p : Pool) (h : small p) : pool_own p = some p := by
  obtain ⟨G, S, W, F⟩ := p
  obtain ⟨h1, h2, h3, h4⟩ := h
  simp only at h1 h2 h3 h4
  unfold pool_own
  simp only [clone_eq G (by omega), clone_eq S (by omega), clone_eq W (by omega), clone_eq F (by omega), Option.bind_some]
theorem few_eq (p : Pool) : tendrilref05_Few p = some (decide (p.1.length ≤ 200 ∧ p.2.1.length ≤ 200 ∧ p.2.2.1.length ≤ 200 ∧ p.2.2.2.length ≤ 200)) := by
  unfold tendrilref05_Few
  simp only [dec]
  have c : ∀ n : Nat, ((n : Int) ≤ 200) ↔ n ≤ 200 := fun n => by omega
  simp only [c]
  by_cases e1 : p.1.length ≤ 200 <;> by_cases e2 : p.2.1.length ≤ 200 <;> by_cases e3 : p.2.2.1.length ≤ 200 <;> simp [e1, e2, e3]

/-! ### Take -/
open Classical in
noncomputable def takeV (p : Pool) : Pool × Int × Int := if okP p then (match p.2.2.2 with
  | [] => (noP, 0, 3)
  | f :: F => ((p.1, p.2.1.set f.toNat 1, p.2.2.1, F), 1 + 1024 * p.1.getD f.toNat 0 + f, 0)) else (noP, 0, 1)

theorem take_no {p : Pool} (h : ¬ okP p) : takeV p = (noP, 0, 1) := if_neg h
theorem take_full {G S W : List Int} (h : okP (G, S, W, [])) : takeV (G, S, W, []) = (noP, 0, 3) := if_pos h
theorem take_one {G S W F : List Int} {f : Int} (h : okP (G, S, W, f :: F)) : takeV (G, S, W, f :: F) = ((G, S.set f.toNat 1, W, F), 1 + 1024 * G.getD f.toNat 0 + f, 0) := if_pos h

theorem ptake_eq (p : Pool) (hF : p.2.2.2.length ≤ 1000) : pool_Take p = some (takeV p) := by
  have hc := pcheck_eq p hF
  obtain ⟨G, S, W, F⟩ := p
  unfold pool_Take
  simp only at hc ⊢
  rw [hc]
  simp only [Option.bind_some, nec, eqc, dec]
  by_cases h : okP (G, S, W, F)
  · rw [chk_pos h, if_pos rfl]
    have hl := h.lens
    simp only at hl
    cases F with
    | nil => rw [take_full h]; rfl
    | cons f F =>
      have hf := h.inF f (by simp)
      simp only at hf
      have hs := h.slot (t := f.toNat) (by simp only; omega)
      simp only at hs
      rw [own_eq _ h.small, if_neg (by simp; omega)]
      have e1 : List.getD (f :: F) (Int.toNat 0) 0 = f := rfl
      simp only [Option.bind_some, e1, hl.2.1, hl.2.2, pack_eq]
      rw [if_pos (by simp only [List.length_cons]; omega), if_pos (by simp only [List.length_cons]; omega), if_pos hf.1, if_pos hf.2, if_pos hf.1, if_pos hf.2, take_one h]
      have e2 : packV f (G.getD f.toNat 0) = (1 + 1024 * G.getD f.toNat 0 + f, 0) := by
        unfold packV; rw [if_pos ⟨by omega, by omega, hs.1, by have := hs.2.1; omega⟩]
      rw [e2]
      have e3 : List.drop (Int.toNat 1) (List.take (f :: F).length (f :: F)) = F := by rw [List.take_length]; rfl
      rw [e3]
  · rw [chk_neg h, if_neg (by decide), take_no h]

/-! ### Retire -/
/-- That this reference may be retired. -/
def holdsR (p : Pool) (u : Int × Int × Int) : Prop := p.2.1.getD u.1.toNat 0 = 1 ∧ p.1.getD u.1.toNat 0 = u.2.1
instance (p : Pool) (u : Int × Int × Int) : Decidable (holdsR p u) := by unfold holdsR; infer_instance
open Classical in
noncomputable def retireV (p : Pool) (r w : Int) : Pool × Int :=
  if okP p ∧ (unpackV r).2.2 = 0 ∧ (unpackV r).1 < p.1.length then
    (if holdsR p (unpackV r) then ((p.1, p.2.1.set (unpackV r).1.toNat 2, p.2.2.1.set (unpackV r).1.toNat w, p.2.2.2), 0) else (noP, 2))
  else (noP, 1)

theorem pretire_eq (p : Pool) (r w : Int) (hF : p.2.2.2.length ≤ 1000) (hb : -9223372036854775808 ≤ r ∧ r ≤ 9223372036854775807) : pool_Retire (p, r, w) = some (retireV p r w) := by
  have hc := pcheck_eq p hF
  obtain ⟨G, S, W, F⟩ := p
  unfold pool_Retire retireV
  simp only at hc ⊢
  rw [hc, unpack_eq r hb]
  simp only [Option.bind_some, nec, eqc, dec]
  by_cases h : okP (G, S, W, F)
  · rw [chk_pos h, if_pos rfl]
    have hl := h.lens
    simp only at hl
    by_cases h1 : (unpackV r).2.2 = 0
    · rw [if_pos h1]
      have hu := unpack_some (r := r) (s := (unpackV r).1) (g := (unpackV r).2.1) (Prod.ext rfl (Prod.ext rfl h1))
      by_cases h2 : (G.length : Int) ≤ (unpackV r).1
      · rw [if_pos h2, if_neg (fun q => by have := q.2.2; omega)]
      rw [if_neg h2, if_pos (⟨h, h1, by omega⟩ : okP (G, S, W, F) ∧ _ ∧ _), own_eq _ h.small]
      simp only [Option.bind_some, hl.2.1, hl.2.2]
      rw [if_pos hu.2.1, if_pos (show (unpackV r).1 < (G.length : Int) by omega)]
      by_cases h3 : S.getD (unpackV r).1.toNat 0 = 1
      · rw [if_pos h3, if_pos hu.2.1, if_pos (show (unpackV r).1 < (G.length : Int) by omega)]
        by_cases h4 : G.getD (unpackV r).1.toNat 0 = (unpackV r).2.1
        · rw [if_pos h4, if_pos (show (unpackV r).1 < (G.length : Int) by omega), if_pos hu.2.1, if_pos hu.2.1, if_pos (show (unpackV r).1 < (G.length : Int) by omega), if_pos (show holdsR (G, S, W, F) (unpackV r) from ⟨h3, h4⟩)]
        · rw [if_neg h4, if_neg (show ¬ holdsR (G, S, W, F) (unpackV r) from fun q => h4 q.2)]
      · rw [if_neg h3, if_neg (show ¬ holdsR (G, S, W, F) (unpackV r) from fun q => h3 q.1)]
    · rw [if_neg h1, if_neg (fun q => h1 q.2.1)]
  · rw [chk_neg h, if_neg (by decide), if_neg (fun q => h q.1)]

/-! ### Reclaim -/
def recCond (u : Int) (i : Nat) (p : Pool) : Prop := p.2.1.getD i 0 = 2 ∧ p.2.2.1.getD i 0 ≤ u ∧ p.1.getD i 0 ≠ 1099511627775
instance (u : Int) (i : Nat) (p : Pool) : Decidable (recCond u i p) := by unfold recCond; infer_instance
def recStep (u : Int) (i : Nat) (p : Pool) : Pool :=
  if recCond u i p then (p.1.set i (p.1.getD i 0 + 1), p.2.1.set i 0, p.2.2.1.set i 0, p.2.2.2 ++ [(i : Int)]) else p
def recFrom (u : Int) : Nat → Nat → Pool → Pool
  | 0, _, p => p
  | d + 1, i, p => recFrom u d (i + 1) (recStep u i p)
open Classical in
noncomputable def reclaimV (p : Pool) (u : Int) : Pool × Int := if okP p then (recFrom u p.1.length 0 p, ((recFrom u p.1.length 0 p).2.2.2.length : Int) - p.2.2.2.length) else (noP, 0)

theorem recStep_len (u : Int) (i : Nat) (p : Pool) : (recStep u i p).1.length = p.1.length ∧ (recStep u i p).2.1.length = p.2.1.length ∧ (recStep u i p).2.2.1.length = p.2.2.1.length ∧ (recStep u i p).2.2.2.length ≤ p.2.2.2.length + 1 ∧ p.2.2.2.length ≤ (recStep u i p).2.2.2.length := by
  unfold recStep
  split
  · simp
  · simp
theorem recStep_getD (u : Int) (i t : Nat) (p : Pool) (h : i ≠ t) : (recStep u i p).1.getD t 0 = p.1.getD t 0 ∧ (recStep u i p).2.1.getD t 0 = p.2.1.getD t 0 ∧ (recStep u i p).2.2.1.getD t 0 = p.2.2.1.getD t 0 := by
  unfold recStep
  split
  · simp only [List.getD_eq_getElem?_getD, List.getElem?_set, h, if_false, and_self]
  · exact ⟨rfl, rfl, rfl⟩

theorem rec_loop (u : Int) (n was : Nat) (hn : n ≤ 64) (hwas : was ≤ 1000) : ∀ (d k i : Nat) (p : Pool), i + d = n → d < k → p.1.length = n → p.2.1.length = n → p.2.2.1.length = n → p.2.2.2.length ≤ 1000 + i →
    (∀ t, i ≤ t → t < n → 0 ≤ p.1.getD t 0 ∧ p.1.getD t 0 ≤ 1099511627775) →
    pool_Reclaim_L14 k u was n i p.2.1 p.1 p.2.2.1 p.2.2.2 = some (recFrom u d i p, wrap64 (((recFrom u d i p).2.2.2.length : Int) - was))
  | 0, k, i, p, hd, hk, h0, h1, h2, hF, hg => by
    obtain ⟨k, rfl⟩ : ∃ q, k = q + 1 := ⟨k - 1, by omega⟩
    have : i = n := by omega
    subst this
    rw [pool_Reclaim_L14]
    simp only [Int.lt_irrefl, decide_false, cond_false]
    rfl
  | d + 1, k, i, p, hd, hk, h0, h1, h2, hF, hg => by
    obtain ⟨k, rfl⟩ : ∃ q, k = q + 1 := ⟨k - 1, by omega⟩
    obtain ⟨l1, l2, l3, l4, l5⟩ := recStep_len u i p
    have ih := rec_loop u n was hn hwas d k (i + 1) (recStep u i p) (by omega) (by omega) (by omega) (by omega) (by omega) (by omega) (fun t h3 h4 => by
      rw [(recStep_getD u i t p (by omega)).1]; exact hg t (by omega) h4)
    have hgi := hg i (Nat.le_refl _) (by omega)
    obtain ⟨G, S, W, F⟩ := p
    simp only at h0 h1 h2 hF hgi
    rw [pool_Reclaim_L14]
    show _ = some (recFrom u d (i + 1) (recStep u i (G, S, W, F)), wrap64 (((recFrom u d (i + 1) (recStep u i (G, S, W, F))).2.2.2.length : Int) - was))
    simp only [show (i : Int) < (n : Int) by omega, show (0 : Int) ≤ (i : Int) by omega, h0, h1, h2, decide_true, cond_true, Int.toNat_natCast, wi (show i ≤ 1000000 by omega), dec, nec, eqc]
    by_cases hc : recCond u i (G, S, W, F)
    · have hc' := hc
      unfold recCond at hc'
      simp only at hc'
      have e : recStep u i (G, S, W, F) = (G.set i (G.getD i 0 + 1), S.set i 0, W.set i 0, F ++ [(i : Int)]) := if_pos hc
      rw [if_pos hc'.1, if_pos hc'.2.1, if_neg hc'.2.2, if_pos (by simp; omega), w64 (by omega) (by omega)]
      rw [e] at ih ⊢
      exact ih
    · have e : recStep u i (G, S, W, F) = (G, S, W, F) := if_neg hc
      rw [e] at ih ⊢
      unfold recCond at hc
      simp only at hc
      by_cases a1 : S.getD i 0 = 2
      · rw [if_pos a1]
        by_cases a2 : W.getD i 0 ≤ u
        · rw [if_pos a2]
          by_cases a3 : G.getD i 0 = 1099511627775
          · rw [if_pos a3]; exact ih
          · exact absurd ⟨a1, a2, a3⟩ hc
        · rw [if_neg a2]; exact ih
      · rw [if_neg a1]; exact ih

theorem recFrom_len (u : Int) : ∀ (d i : Nat) (p : Pool), (recFrom u d i p).1.length = p.1.length ∧ (recFrom u d i p).2.1.length = p.2.1.length ∧ (recFrom u d i p).2.2.1.length = p.2.2.1.length ∧ (recFrom u d i p).2.2.2.length ≤ p.2.2.2.length + d ∧ p.2.2.2.length ≤ (recFrom u d i p).2.2.2.length
  | 0, _, _ => ⟨rfl, rfl, rfl, Nat.le_refl _, Nat.le_refl _⟩
  | d + 1, i, p => by
    obtain ⟨a1, a2, a3, a4, a5⟩ := recFrom_len u d (i + 1) (recStep u i p)
    obtain ⟨b1, b2, b3, b4, b5⟩ := recStep_len u i p
    exact ⟨a1.trans b1, a2.trans b2, a3.trans b3, by show (recFrom u d (i + 1) (recStep u i p)).2.2.2.length ≤ _; omega, by show _ ≤ (recFrom u d (i + 1) (recStep u i p)).2.2.2.length; omega⟩

theorem preclaim_eq (p : Pool) (u : Int) (hF : p.2.2.2.length ≤ 1000) : pool_Reclaim (p, u) = some (reclaimV p u) := by
  have hc := pcheck_eq p hF
  unfold pool_Reclaim pool_Reclaim_K reclaimV
  simp only [show ((p.1, p.2.1, p.2.2.1, p.2.2.2) : Pool) = p from rfl, hc, Option.bind_some, nec]
  by_cases h : okP p
  · rw [chk_pos h, if_pos rfl, own_eq p h.small, if_pos h]
    have hl := h.lens
    simp only [Option.bind_some]
    rw [show (p.2.1.length : Int) = (p.1.length : Int) by rw [hl.2.1]]
    have := rec_loop u p.1.length p.2.2.2.length hl.1.2 hF p.1.length 2000000 0 p (by omega) (by omega) rfl hl.2.1 hl.2.2 (by omega) (fun t _ h4 => by have := h.slot h4; exact ⟨this.1, this.2.1⟩)
    refine this.trans ?_
    obtain ⟨a1, a2, a3, a4, a5⟩ := recFrom_len u p.1.length 0 p
    rw [w64 (by omega) (by omega)]
  · rw [chk_neg h, if_neg (by decide), if_neg h]
end Go.Proofs.Ytcoiboghdmmdcac.Pure
