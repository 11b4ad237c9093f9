/- What is shared, as arena and the reference treat it: checked, compared, taken from, retired, told; no condition. -/
import Derived.Test.YtcoiboghdmmdcacPurePool3
import Derived.Test.YtcoiboghdmmdcacPureEraLaws
import Derived.Test.YtcoiboghdmmdcacPurePlaceT
set_option linter.unusedVariables false
set_option linter.unusedSimpArgs false
namespace Go.Proofs.Ytcoiboghdmmdcac.Pure
open Go Go.RowKit Go.Proofs.YtcoiboghdmmdcacFn Go.Proofs.YtcoiboghdmmdcacPx

theorem u1 : wrap64 (1 - 1) = 0 := by rw [w64 (by decide) (by decide)]; rfl
theorem u2 : wrap64 (2 - 1) = 1 := by rw [w64 (by decide) (by decide)]; rfl
theorem u3 : wrap64 (3 - 1) = 2 := by rw [w64 (by decide) (by decide)]; rfl
theorem ct {p : Prop} [Decidable p] (h : p) {α : Type} (x y : α) : (bif decide p then x else y) = x := by simp [h]
theorem cf {p : Prop} [Decidable p] (h : ¬ p) {α : Type} (x y : α) : (bif decide p then x else y) = y := by simp [h]

abbrev Sh := List Int × List Int × (Pool × Pool × Pool) × Era
def noS : Sh := ([], [], (noP, noP, noP), noE)
theorem etaS (s : Sh) : ((s.1, s.2.1, ((s.2.2.1.1.1, s.2.2.1.1.2.1, s.2.2.1.1.2.2.1, s.2.2.1.1.2.2.2), (s.2.2.1.2.1.1, s.2.2.1.2.1.2.1, s.2.2.1.2.1.2.2.1, s.2.2.1.2.1.2.2.2), s.2.2.1.2.2.1, s.2.2.1.2.2.2.1, s.2.2.1.2.2.2.2.1, s.2.2.1.2.2.2.2.2), s.2.2.2.1, s.2.2.2.2) : Sh) = s := rfl
theorem etaP (p : Pool) : ((p.1, p.2.1, p.2.2.1, p.2.2.2) : Pool) = p := rfl
theorem etaEr (e : Era) : ((e.1, e.2) : Era) = e := rfl

/-- Small enough to be gone through. -/
def fewS (s : Sh) : Prop := (small s.2.2.1.1 ∧ small s.2.2.1.2.1 ∧ small s.2.2.1.2.2) ∧ s.2.2.2.2.length ≤ 1000 ∧ s.1.length ≤ 5000 ∧ s.2.1.length ≤ 1000
def okA (s : Sh) : Prop := okP s.2.2.1.1 ∧ okP s.2.2.1.2.1 ∧ okP s.2.2.1.2.2 ∧ okE s.2.2.2
theorem chkE_chk (e : Era) : chkE e = chk (okE e) := by
  by_cases h : okE e
  · rw [chkE_pos h, chk_pos h]
  · rw [chkE_neg h, chk_neg h]

/-! ### Checked -/
theorem pchkA_loop (k : Nat) (a b c : Pool) (e : Era) (p13 p14 p15 p16 p17 p18 p19 p20 p21 p22 p23 p24 p25 p26 : List Int) (ha : a.2.2.2.length ≤ 1000) (hb : b.2.2.2.length ≤ 1000) (hc : c.2.2.2.length ≤ 1000) :
    arena_Check_L6 (k + 4) a.1 a.2.1 a.2.2.1 a.2.2.2 b.1 b.2.1 b.2.2.1 b.2.2.2 c.1 c.2.1 c.2.2.1 c.2.2.2 0 p13 p14 p15 p16 p17 p18 p19 p20 p21 p22 p23 p24 p25 p26 e.1 e.2 = some (chk (okP a ∧ okP b ∧ okP c ∧ okE e)) := by
  rw [arena_Check_L6, ct (by decide), cf (by decide), cf (by decide), ct (by rfl), etaP, pcheck_eq a ha]
  simp only [Option.bind_some, nec]
  by_cases h1 : okP a
  · rw [chk_pos h1, if_pos rfl, w01, arena_Check_L6, ct (by decide), cf (by decide), ct (by rfl), etaP, pcheck_eq b hb]
    simp only [Option.bind_some, nec]
    by_cases h2 : okP b
    · rw [chk_pos h2, if_pos rfl, w12, arena_Check_L6, ct (by decide), ct (by rfl), etaP, pcheck_eq c hc]
      simp only [Option.bind_some, nec]
      by_cases h3 : okP c
      · rw [chk_pos h3, if_pos rfl, w23, arena_Check_L6, cf (by decide), etaEr, pche_eq, chkE_chk]
        simp only [Option.bind_some, h1, h2, h3, true_and]
      · rw [chk_neg h3, if_neg (by decide), chk_neg (fun h => h3 h.2.2.1)]
    · rw [chk_neg h2, if_neg (by decide), chk_neg (fun h => h2 h.2.1)]
  · rw [chk_neg h1, if_neg (by decide), chk_neg (fun h => h1 h.1)]
theorem pcheckA_eq (s : Sh) (h : fewS s) : arena_Check s = some (chk (okA s)) := pchkA_loop 1999996 s.2.2.1.1 s.2.2.1.2.1 s.2.2.1.2.2 s.2.2.2 _ _ _ _ _ _ _ _ _ _ _ _ _ _ h.1.1.2.2.2 h.1.2.1.2.2.2 h.1.2.2.2.2.2

/-! ### Few, and the same -/
def fewQ (p : Pool) : Prop := p.1.length ≤ 200 ∧ p.2.1.length ≤ 200 ∧ p.2.2.1.length ≤ 200 ∧ p.2.2.2.length ≤ 200
instance (p : Pool) : Decidable (fewQ p) := by unfold fewQ; infer_instance
theorem few_eqQ (p : Pool) : tendrilref05_Few p = some (decide (fewQ p)) := few_eq p
theorem few_loop (k : Nat) (a b c : Pool) (m l : List Int) (e : Era) (p15 p16 p17 p18 p19 p20 p21 p22 p23 p24 p25 p26 : List Int) :
    tendrilref07_Few_L6 (k + 4) a.1 a.2.1 a.2.2.1 a.2.2.2 b.1 b.2.1 b.2.2.1 b.2.2.2 c.1 c.2.1 c.2.2.1 c.2.2.2 0 m l p15 p16 p17 p18 p19 p20 p21 p22 p23 p24 p25 p26 e.1 e.2 = some (decide (fewQ a ∧ fewQ b ∧ fewQ c ∧ e.2.length ≤ 200 ∧ m.length ≤ 2000 ∧ l.length ≤ 200)) := by
  rw [tendrilref07_Few_L6, ct (by decide), cf (by decide), cf (by decide), ct (by rfl), etaP, few_eqQ]
  simp only [Option.bind_some]
  by_cases h1 : fewQ a
  · simp only [h1, decide_true, Bool.not_true, cond_false, true_and]
    rw [w01, tendrilref07_Few_L6, ct (by decide), cf (by decide), ct (by rfl), etaP, few_eqQ]
    simp only [Option.bind_some]
    by_cases h2 : fewQ b
    · simp only [h2, decide_true, Bool.not_true, cond_false, true_and]
      rw [w12, tendrilref07_Few_L6, ct (by decide), ct (by rfl), etaP, few_eqQ]
      simp only [Option.bind_some]
      by_cases h3 : fewQ c
      · simp only [h3, decide_true, Bool.not_true, cond_false, true_and]
        rw [w23, tendrilref07_Few_L6, cf (by decide)]
        have i1 : ((e.2.length : Int) ≤ 200) ↔ e.2.length ≤ 200 := by omega
        have i2 : ((m.length : Int) ≤ 2000) ↔ m.length ≤ 2000 := by omega
        have i3 : ((l.length : Int) ≤ 200) ↔ l.length ≤ 200 := by omega
        simp only [dec, i1, i2, i3]
        by_cases a1 : e.2.length ≤ 200 <;> by_cases a2 : m.length ≤ 2000 <;> simp [a1, a2]
      · simp [h3]
    · simp [h2]
  · simp [h1]
def fewB (s : Sh) : Prop := fewQ s.2.2.1.1 ∧ fewQ s.2.2.1.2.1 ∧ fewQ s.2.2.1.2.2 ∧ s.2.2.2.2.length ≤ 200 ∧ s.1.length ≤ 2000 ∧ s.2.1.length ≤ 200
instance (s : Sh) : Decidable (fewB s) := by unfold fewB; infer_instance
theorem fewA_eq (s : Sh) : tendrilref07_Few s = some (decide (fewB s)) := by
  have h := few_loop 1999996 s.2.2.1.1 s.2.2.1.2.1 s.2.2.1.2.2 s.1 s.2.1 s.2.2.2 s.2.2.1.1.1 s.2.2.1.1.2.1 s.2.2.1.1.2.2.1 s.2.2.1.1.2.2.2 s.2.2.1.2.1.1 s.2.2.1.2.1.2.1 s.2.2.1.2.1.2.2.1 s.2.2.1.2.1.2.2.2 s.2.2.1.2.2.1 s.2.2.1.2.2.2.1 s.2.2.1.2.2.2.2.1 s.2.2.1.2.2.2.2.2
  rw [show (1999996 + 4 : Nat) = 2000000 from rfl] at h
  unfold tendrilref07_Few tendrilref07_Few_K
  rw [h, show decide (fewB s) = decide (fewQ s.2.2.1.1 ∧ fewQ s.2.2.1.2.1 ∧ fewQ s.2.2.1.2.2 ∧ s.2.2.2.2.length ≤ 200 ∧ s.1.length ≤ 2000 ∧ s.2.1.length ≤ 200) from decide_eq_decide.2 Iff.rfl]
theorem fewQ.small {p : Pool} (h : fewQ p) : small p := by
  obtain ⟨h1, h2, h3, h4⟩ := h
  exact ⟨by omega, by omega, by omega, by omega⟩
theorem fewB.fewS {s : Sh} (h : fewB s) : fewS s := by
  obtain ⟨h1, h2, h3, h4, h5, h6⟩ := h
  exact ⟨⟨h1.small, h2.small, h3.small⟩, by omega, by omega, by omega⟩

theorem and3_eq (p q r : Prop) [Decidable p] [Decidable q] [Decidable r] : ((some (decide p)).bind fun x => bif x then (some (decide q)).bind fun y => bif y then (some (decide r)).bind fun z => some z else some false else some false) = some (decide (p ∧ q ∧ r)) := by
  by_cases a : p <;> by_cases b : q <;> simp [a, b]
/-! ### Taken, and retired -/
abbrev kindOk (w : Int) : Prop := 1 ≤ w ∧ w ≤ 3
open Classical in
theorem may_eq (s : Sh) (w : Int) (h : fewS s) : arena_may (s, w) = some (decide (kindOk w ∧ okA s)) := by
  unfold arena_may
  simp only [dec, etaS, pcheckA_eq s h, Option.bind_some]
  by_cases a : 1 ≤ w
  · rw [if_pos a]
    by_cases b : w ≤ 3
    · rw [if_pos b]
      by_cases c : okA s
      · rw [chk_pos c, decide_eq_true (show kindOk w ∧ okA s from ⟨⟨a, b⟩, c⟩)]; rfl
      · rw [chk_neg c, decide_eq_false (fun h : kindOk w ∧ okA s => c h.2)]; rfl
    · rw [if_neg b, decide_eq_false (fun h : kindOk w ∧ okA s => b h.1.2)]
  · rw [if_neg a, decide_eq_false (fun h : kindOk w ∧ okA s => a h.1.1)]
open Classical in
theorem may_yes {s : Sh} {w : Int} (h : fewS s) (g : kindOk w ∧ okA s) : arena_may (s, w) = some true := by
  exact (may_eq s w h).trans (congrArg some (decide_eq_true g))
open Classical in
theorem may_no {s : Sh} {w : Int} (h : fewS s) (g : ¬ (kindOk w ∧ okA s)) : arena_may (s, w) = some false := by
  exact (may_eq s w h).trans (congrArg some (decide_eq_false g))
def pl (s : Sh) (w : Int) : Pool := if w = 1 then s.2.2.1.1 else if w = 2 then s.2.2.1.2.1 else s.2.2.1.2.2
def setpl (s : Sh) (w : Int) (p : Pool) : Sh := (s.1, s.2.1, (if w = 1 then (p, s.2.2.1.2.1, s.2.2.1.2.2) else if w = 2 then (s.2.2.1.1, p, s.2.2.1.2.2) else (s.2.2.1.1, s.2.2.1.2.1, p)), s.2.2.2)
open Classical in
noncomputable def takeA (s : Sh) (w : Int) : Sh × Int × Int := if kindOk w ∧ okA s then (if (takeV (pl s w)).2.2 = 0 then (setpl s w (takeV (pl s w)).1, (takeV (pl s w)).2.1, 0) else (noS, 0, (takeV (pl s w)).2.2)) else (noS, 0, 1)
open Classical in
noncomputable def retA (s : Sh) (w r : Int) : Sh × Int := if kindOk w ∧ okA s then (if (retireV (pl s w) r s.2.2.2.1).2 = 0 then (setpl s w (retireV (pl s w) r s.2.2.2.1).1, 0) else (noS, (retireV (pl s w) r s.2.2.2.1).2)) else (noS, 1)
theorem three {w : Int} (h : kindOk w) : w = 1 ∨ w = 2 ∨ w = 3 := by omega

theorem ptakeA_eq (s : Sh) (w : Int) (h : fewS s) : arena_Take (s, w) = some (takeA s w) := by
  unfold arena_Take
  simp only [etaS, may_eq s w h, Option.bind_some]
  by_cases g : kindOk w ∧ okA s
  · simp only [g, and_self, decide_true, Bool.not_true, cond_false, takeA, if_true, etaP]
    rcases three g.1 with rfl | rfl | rfl
    · simp only [u1]
      rw [cf (by decide), cf (by decide), ct (by rfl), ptake_eq _ h.1.1.2.2.2]
      simp only [Option.bind_some, nec, show pl s 1 = s.2.2.1.1 from rfl]
      by_cases e : (takeV s.2.2.1.1).2.2 = 0
      · rw [if_pos e, if_pos e, cf (by decide), cf (by decide), ct (by rfl)]; rfl
      · rw [if_neg e, if_neg e]; rfl
    · simp only [u2]
      rw [cf (by decide), ct (by rfl), ptake_eq _ h.1.2.1.2.2.2]
      simp only [Option.bind_some, nec, show pl s 2 = s.2.2.1.2.1 from rfl]
      by_cases e : (takeV s.2.2.1.2.1).2.2 = 0
      · rw [if_pos e, if_pos e, cf (by decide), ct (by rfl)]; rfl
      · rw [if_neg e, if_neg e]; rfl
    · simp only [u3]
      rw [ct (by rfl), ptake_eq _ h.1.2.2.2.2.2]
      simp only [Option.bind_some, nec, show pl s 3 = s.2.2.1.2.2 from rfl]
      by_cases e : (takeV s.2.2.1.2.2).2.2 = 0
      · rw [if_pos e, if_pos e, ct (by rfl)]; rfl
      · rw [if_neg e, if_neg e]; rfl
  · simp only [g, decide_false, Bool.not_false, cond_true, takeA, if_false]; rfl

theorem pretA_eq (s : Sh) (w r : Int) (h : fewS s) (hr : -9223372036854775808 ≤ r ∧ r ≤ 9223372036854775807) : arena_Retire (s, w, r) = some (retA s w r) := by
  unfold arena_Retire
  simp only [etaS, may_eq s w h, Option.bind_some]
  by_cases g : kindOk w ∧ okA s
  · simp only [g, and_self, decide_true, Bool.not_true, cond_false, retA, if_true, etaP]
    rcases three g.1 with rfl | rfl | rfl
    · simp only [u1]
      rw [cf (by decide), cf (by decide), ct (by rfl), pretire_eq _ _ _ h.1.1.2.2.2 hr]
      simp only [Option.bind_some, nec, show pl s 1 = s.2.2.1.1 from rfl]
      by_cases e : (retireV s.2.2.1.1 r s.2.2.2.1).2 = 0
      · rw [if_pos e, if_pos e, cf (by decide), cf (by decide), ct (by rfl)]; rfl
      · rw [if_neg e, if_neg e]; rfl
    · simp only [u2]
      rw [cf (by decide), ct (by rfl), pretire_eq _ _ _ h.1.2.1.2.2.2 hr]
      simp only [Option.bind_some, nec, show pl s 2 = s.2.2.1.2.1 from rfl]
      by_cases e : (retireV s.2.2.1.2.1 r s.2.2.2.1).2 = 0
      · rw [if_pos e, if_pos e, cf (by decide), ct (by rfl)]; rfl
      · rw [if_neg e, if_neg e]; rfl
    · simp only [u3]
      rw [ct (by rfl), pretire_eq _ _ _ h.1.2.2.2.2.2 hr]
      simp only [Option.bind_some, nec, show pl s 3 = s.2.2.1.2.2 from rfl]
      by_cases e : (retireV s.2.2.1.2.2 r s.2.2.2.1).2 = 0
      · rw [if_pos e, if_pos e, ct (by rfl)]; rfl
      · rw [if_neg e, if_neg e]; rfl
  · simp only [g, decide_false, Bool.not_false, cond_true, retA, if_false]; rfl
end Go.Proofs.Ytcoiboghdmmdcac.Pure
