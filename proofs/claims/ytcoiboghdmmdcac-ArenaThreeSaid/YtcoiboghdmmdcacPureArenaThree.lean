/- With nobody pinned three turns leave nothing retired; no condition. -/
import Derived.Test.YtcoiboghdmmdcacPureArenaLaws
set_option linter.unusedVariables false
set_option linter.unusedSimpArgs false
namespace Go.Proofs.Ytcoiboghdmmdcac.Pure
open Go Go.RowKit Go.Proofs.YtcoiboghdmmdcacFn Go.Proofs.YtcoiboghdmmdcacPx

def goodP (now : Int) (p : Pool) (i : Nat) : Prop := ∀ t, i ≤ t → t < p.1.length → 0 ≤ p.2.2.1.getD t 0 ∧ p.2.2.1.getD t 0 ≤ now ∧ p.1.getD t 0 ≠ 1099511627775

/-! ### What three reclaimings leave -/
theorem three_S {p : Pool} (h : okP p) {now : Int} (g : goodP now p 0) {q1 q2 q3 : Pool}
    (e1 : q1 = recFrom (now - 1) p.1.length 0 p) (e2 : q2 = recFrom now q1.1.length 0 q1) (e3 : q3 = recFrom (now + 1) q2.1.length 0 q2) :
    okP q3 ∧ q3.1.length = p.1.length ∧ q3.2.1.length = p.1.length ∧ ∀ t, t < p.1.length → q3.2.1.getD t 0 = if p.2.1.getD t 0 = 2 then 0 else p.2.1.getD t 0 := by
  have l0 := h.lens
  have k1 : okP q1 := by rw [e1]; exact okP_reclaim _ h
  have n1 : q1.1.length = p.1.length := by rw [e1]; exact (recFrom_len _ _ _ _).1
  have k2 : okP q2 := by rw [e2]; exact okP_reclaim _ k1
  have n2 : q2.1.length = p.1.length := by rw [e2, (recFrom_len _ _ _ _).1, n1]
  have k3 : okP q3 := by rw [e3]; exact okP_reclaim _ k2
  have n3 : q3.1.length = p.1.length := by rw [e3, (recFrom_len _ _ _ _).1, n2]
  have l1 := k1.lens
  have l2 := k2.lens
  have l3 := k3.lens
  refine ⟨k3, n3, by omega, fun t ht => ?_⟩
  obtain ⟨a1, b1⟩ := recFrom_in (now - 1) p.1.length 0 t p (by omega) (by omega) ht l0.2.1 l0.2.2
  obtain ⟨a2, b2⟩ := recFrom_in now q1.1.length 0 t q1 (by omega) (by omega) (by omega) l1.2.1 l1.2.2
  obtain ⟨a3, b3⟩ := recFrom_in (now + 1) q2.1.length 0 t q2 (by omega) (by omega) (by omega) l2.2.1 l2.2.2
  rw [← e1] at a1 b1
  rw [← e2] at a2 b2
  rw [← e3] at a3 b3
  obtain ⟨w0, w1, w2⟩ := g t (by omega) ht
  have done : ∀ {q q' : Pool} {u : Int}, (recCond u t q → q'.1.getD t 0 = q.1.getD t 0 + 1 ∧ q'.2.1.getD t 0 = 0 ∧ q'.2.2.1.getD t 0 = 0) → (¬ recCond u t q → q'.1.getD t 0 = q.1.getD t 0 ∧ q'.2.1.getD t 0 = q.2.1.getD t 0 ∧ q'.2.2.1.getD t 0 = q.2.2.1.getD t 0) → q.2.1.getD t 0 ≠ 2 → q'.2.1.getD t 0 = q.2.1.getD t 0 := fun _ b hq => (b (fun z => hq z.1)).2.1
  by_cases s2 : p.2.1.getD t 0 = 2
  · rw [if_pos s2]
    by_cases c1 : recCond (now - 1) t p
    · have z1 := (a1 c1).2.1
      have z2 := done a2 b2 (by omega)
      have z3 := done a3 b3 (by omega)
      omega
    · obtain ⟨x1, x2, x3⟩ := b1 c1
      have c2 : recCond now t q1 := ⟨by omega, by omega, by omega⟩
      have z2 := (a2 c2).2.1
      have z3 := done a3 b3 (by omega)
      omega
  · rw [if_neg s2]
    have z1 := done a1 b1 s2
    have z2 := done a2 b2 (by omega)
    have z3 := done a3 b3 (by omega)
    omega

theorem count_map (S T : List Int) (hl : T.length = S.length) (h : ∀ t, t < S.length → T.getD t 0 = if S.getD t 0 = 2 then 0 else S.getD t 0) : T.count 1 = S.count 1 ∧ T.count 2 = 0 := by
  have e : T = S.map (fun v => if v = 2 then 0 else v) := by
    apply ext_getD 0 (by simp [hl])
    intro i hi
    rw [h i (by omega), getD_get (S.map (fun v => if v = 2 then 0 else v)) i 0 (by rw [List.length_map]; omega), List.getElem_map, ← getD_get S i 0 (by omega)]
  subst e
  constructor
  · rw [List.count_eq_countP, List.count_eq_countP, List.countP_map]
    apply List.countP_congr
    intro v _
    show (((if v = 2 then (0 : Int) else v) == 1) = true) ↔ ((v == 1) = true)
    by_cases z : v = 2
    · subst z; decide
    · rw [if_neg z]
  · rw [List.count_eq_zero]
    intro hm
    obtain ⟨v, _, hv⟩ := List.mem_map.1 hm
    by_cases z : v = 2
    · rw [if_pos z] at hv; omega
    · rw [if_neg z] at hv; exact z hv

theorem three_count {p : Pool} (h : okP p) {now : Int} (g : goodP now p 0) {q1 q2 q3 : Pool}
    (e1 : q1 = recFrom (now - 1) p.1.length 0 p) (e2 : q2 = recFrom now q1.1.length 0 q1) (e3 : q3 = recFrom (now + 1) q2.1.length 0 q2) :
    small q3 ∧ (countV q3).2.1 = 0 ∧ (countV q3).1 = (countV p).1 ∧ (countV q3).1 + (countV q3).2.2 = (p.1.length : Int) ∧ p.1.length ≤ 64 := by
  obtain ⟨k3, n3, m3, hs⟩ := three_S h g e1 e2 e3
  have l0 := h.lens
  obtain ⟨c1, c2⟩ := count_map p.2.1 q3.2.1 (by omega) (fun t ht => hs t (by omega))
  have hc := (okP_counts k3).1
  unfold countV
  rw [if_pos k3, if_pos h]
  simp only
  exact ⟨k3.small, by omega, by omega, by omega, l0.1.2⟩

/-! ### The walk over what was retired -/
theorem three22_0 (s X : Sh) (hl : s.2.2.1.1.2.2.1.length = s.2.2.1.1.1.length) (hs : s.2.2.1.1.1.length ≤ 1000) : ∀ (d k i : Nat), i + d = s.2.2.1.1.1.length → tendrillaw07_ArenaThree_L22 (k + d + 1) s.2.2.1.1.1 s.2.2.1.1.2.1 s.2.2.1.1.2.2.1 s.2.2.1.1.2.2.2 s.2.2.1.2.1.1 s.2.2.1.2.1.2.1 s.2.2.1.2.1.2.2.1 s.2.2.1.2.1.2.2.2 s.2.2.1.2.2.1 s.2.2.1.2.2.2.1 s.2.2.1.2.2.2.2.1 s.2.2.1.2.2.2.2.2 (0 : Nat) s.2.2.1.1.2.2.1 s.2.2.1.1.2.2.1.length i X.1 X.2.1 X.2.2.1.1.1 X.2.2.1.1.2.1 X.2.2.1.1.2.2.1 X.2.2.1.1.2.2.2 X.2.2.1.2.1.1 X.2.2.1.2.1.2.1 X.2.2.1.2.1.2.2.1 X.2.2.1.2.1.2.2.2 X.2.2.1.2.2.1 X.2.2.1.2.2.2.1 X.2.2.1.2.2.2.2.1 X.2.2.1.2.2.2.2.2 X.2.2.2.1 X.2.2.2.2 s.2.2.1.1.1 s.2.2.1.1.2.1 s.2.2.1.1.2.2.1 s.2.2.1.1.2.2.2 = some true ∨ (tendrillaw07_ArenaThree_L22 (k + d + 1) s.2.2.1.1.1 s.2.2.1.1.2.1 s.2.2.1.1.2.2.1 s.2.2.1.1.2.2.2 s.2.2.1.2.1.1 s.2.2.1.2.1.2.1 s.2.2.1.2.1.2.2.1 s.2.2.1.2.1.2.2.2 s.2.2.1.2.2.1 s.2.2.1.2.2.2.1 s.2.2.1.2.2.2.2.1 s.2.2.1.2.2.2.2.2 (0 : Nat) s.2.2.1.1.2.2.1 s.2.2.1.1.2.2.1.length i X.1 X.2.1 X.2.2.1.1.1 X.2.2.1.1.2.1 X.2.2.1.1.2.2.1 X.2.2.1.1.2.2.2 X.2.2.1.2.1.1 X.2.2.1.2.1.2.1 X.2.2.1.2.1.2.2.1 X.2.2.1.2.1.2.2.2 X.2.2.1.2.2.1 X.2.2.1.2.2.2.1 X.2.2.1.2.2.2.2.1 X.2.2.1.2.2.2.2.2 X.2.2.2.1 X.2.2.2.2 s.2.2.1.1.1 s.2.2.1.1.2.1 s.2.2.1.1.2.2.1 s.2.2.1.1.2.2.2 = tendrillaw07_ArenaThree_L16 k s.2.2.1.1.1 s.2.2.1.1.2.1 s.2.2.1.1.2.2.1 s.2.2.1.1.2.2.2 s.2.2.1.2.1.1 s.2.2.1.2.1.2.1 s.2.2.1.2.1.2.2.1 s.2.2.1.2.1.2.2.2 s.2.2.1.2.2.1 s.2.2.1.2.2.2.1 s.2.2.1.2.2.2.2.1 s.2.2.1.2.2.2.2.2 (1 : Nat) X.1 X.2.1 X.2.2.1.1.1 X.2.2.1.1.2.1 X.2.2.1.1.2.2.1 X.2.2.1.1.2.2.2 X.2.2.1.2.1.1 X.2.2.1.2.1.2.1 X.2.2.1.2.1.2.2.1 X.2.2.1.2.1.2.2.2 X.2.2.1.2.2.1 X.2.2.1.2.2.2.1 X.2.2.1.2.2.2.2.1 X.2.2.1.2.2.2.2.2 X.2.2.2.1 X.2.2.2.2 ∧ goodP X.2.2.2.1 s.2.2.1.1 i)
  | 0, k, i, hi => by
    right
    refine ⟨?_, fun t h1 h2 => by omega⟩
    rw [tendrillaw07_ArenaThree_L22, cf (by omega), wi (by omega)]
  | d + 1, k, i, hi => by
    rw [show k + (d + 1) + 1 = (k + d + 1) + 1 by omega, tendrillaw07_ArenaThree_L22, ct (by omega), ct (by omega), ct (by omega), Int.toNat_natCast]
    by_cases a : X.2.2.2.1 < s.2.2.1.1.2.2.1.getD i 0
    · left; rw [ct a]
    · rw [cf a]
      by_cases b : s.2.2.1.1.2.2.1.getD i 0 < 0
      · left; rw [ct b]
      · rw [cf b, ct (by omega), ct (by omega), eqc]
        by_cases c : s.2.2.1.1.1.getD i 0 = 1099511627775
        · left; rw [if_pos c]
        · rw [if_neg c, wi (by omega)]
          rcases three22_0 s X hl hs d k (i + 1) (by omega) with e | ⟨e, g⟩
          · exact Or.inl e
          · refine Or.inr ⟨e, fun t h1 h2 => ?_⟩
            by_cases z : t = i
            · subst z; exact ⟨by omega, by omega, c⟩
            · exact g t (by omega) h2

theorem three22_1 (s X : Sh) (hl : s.2.2.1.2.1.2.2.1.length = s.2.2.1.2.1.1.length) (hs : s.2.2.1.2.1.1.length ≤ 1000) : ∀ (d k i : Nat), i + d = s.2.2.1.2.1.1.length → tendrillaw07_ArenaThree_L22 (k + d + 1) s.2.2.1.1.1 s.2.2.1.1.2.1 s.2.2.1.1.2.2.1 s.2.2.1.1.2.2.2 s.2.2.1.2.1.1 s.2.2.1.2.1.2.1 s.2.2.1.2.1.2.2.1 s.2.2.1.2.1.2.2.2 s.2.2.1.2.2.1 s.2.2.1.2.2.2.1 s.2.2.1.2.2.2.2.1 s.2.2.1.2.2.2.2.2 (1 : Nat) s.2.2.1.2.1.2.2.1 s.2.2.1.2.1.2.2.1.length i X.1 X.2.1 X.2.2.1.1.1 X.2.2.1.1.2.1 X.2.2.1.1.2.2.1 X.2.2.1.1.2.2.2 X.2.2.1.2.1.1 X.2.2.1.2.1.2.1 X.2.2.1.2.1.2.2.1 X.2.2.1.2.1.2.2.2 X.2.2.1.2.2.1 X.2.2.1.2.2.2.1 X.2.2.1.2.2.2.2.1 X.2.2.1.2.2.2.2.2 X.2.2.2.1 X.2.2.2.2 s.2.2.1.2.1.1 s.2.2.1.2.1.2.1 s.2.2.1.2.1.2.2.1 s.2.2.1.2.1.2.2.2 = some true ∨ (tendrillaw07_ArenaThree_L22 (k + d + 1) s.2.2.1.1.1 s.2.2.1.1.2.1 s.2.2.1.1.2.2.1 s.2.2.1.1.2.2.2 s.2.2.1.2.1.1 s.2.2.1.2.1.2.1 s.2.2.1.2.1.2.2.1 s.2.2.1.2.1.2.2.2 s.2.2.1.2.2.1 s.2.2.1.2.2.2.1 s.2.2.1.2.2.2.2.1 s.2.2.1.2.2.2.2.2 (1 : Nat) s.2.2.1.2.1.2.2.1 s.2.2.1.2.1.2.2.1.length i X.1 X.2.1 X.2.2.1.1.1 X.2.2.1.1.2.1 X.2.2.1.1.2.2.1 X.2.2.1.1.2.2.2 X.2.2.1.2.1.1 X.2.2.1.2.1.2.1 X.2.2.1.2.1.2.2.1 X.2.2.1.2.1.2.2.2 X.2.2.1.2.2.1 X.2.2.1.2.2.2.1 X.2.2.1.2.2.2.2.1 X.2.2.1.2.2.2.2.2 X.2.2.2.1 X.2.2.2.2 s.2.2.1.2.1.1 s.2.2.1.2.1.2.1 s.2.2.1.2.1.2.2.1 s.2.2.1.2.1.2.2.2 = tendrillaw07_ArenaThree_L16 k s.2.2.1.1.1 s.2.2.1.1.2.1 s.2.2.1.1.2.2.1 s.2.2.1.1.2.2.2 s.2.2.1.2.1.1 s.2.2.1.2.1.2.1 s.2.2.1.2.1.2.2.1 s.2.2.1.2.1.2.2.2 s.2.2.1.2.2.1 s.2.2.1.2.2.2.1 s.2.2.1.2.2.2.2.1 s.2.2.1.2.2.2.2.2 (2 : Nat) X.1 X.2.1 X.2.2.1.1.1 X.2.2.1.1.2.1 X.2.2.1.1.2.2.1 X.2.2.1.1.2.2.2 X.2.2.1.2.1.1 X.2.2.1.2.1.2.1 X.2.2.1.2.1.2.2.1 X.2.2.1.2.1.2.2.2 X.2.2.1.2.2.1 X.2.2.1.2.2.2.1 X.2.2.1.2.2.2.2.1 X.2.2.1.2.2.2.2.2 X.2.2.2.1 X.2.2.2.2 ∧ goodP X.2.2.2.1 s.2.2.1.2.1 i)
  | 0, k, i, hi => by
    right
    refine ⟨?_, fun t h1 h2 => by omega⟩
    rw [tendrillaw07_ArenaThree_L22, cf (by omega), wi (by omega)]
  | d + 1, k, i, hi => by
    rw [show k + (d + 1) + 1 = (k + d + 1) + 1 by omega, tendrillaw07_ArenaThree_L22, ct (by omega), ct (by omega), ct (by omega), Int.toNat_natCast]
    by_cases a : X.2.2.2.1 < s.2.2.1.2.1.2.2.1.getD i 0
    · left; rw [ct a]
    · rw [cf a]
      by_cases b : s.2.2.1.2.1.2.2.1.getD i 0 < 0
      · left; rw [ct b]
      · rw [cf b, ct (by omega), ct (by omega), eqc]
        by_cases c : s.2.2.1.2.1.1.getD i 0 = 1099511627775
        · left; rw [if_pos c]
        · rw [if_neg c, wi (by omega)]
          rcases three22_1 s X hl hs d k (i + 1) (by omega) with e | ⟨e, g⟩
          · exact Or.inl e
          · refine Or.inr ⟨e, fun t h1 h2 => ?_⟩
            by_cases z : t = i
            · subst z; exact ⟨by omega, by omega, c⟩
            · exact g t (by omega) h2

theorem three22_2 (s X : Sh) (hl : s.2.2.1.2.2.2.2.1.length = s.2.2.1.2.2.1.length) (hs : s.2.2.1.2.2.1.length ≤ 1000) : ∀ (d k i : Nat), i + d = s.2.2.1.2.2.1.length → tendrillaw07_ArenaThree_L22 (k + d + 1) s.2.2.1.1.1 s.2.2.1.1.2.1 s.2.2.1.1.2.2.1 s.2.2.1.1.2.2.2 s.2.2.1.2.1.1 s.2.2.1.2.1.2.1 s.2.2.1.2.1.2.2.1 s.2.2.1.2.1.2.2.2 s.2.2.1.2.2.1 s.2.2.1.2.2.2.1 s.2.2.1.2.2.2.2.1 s.2.2.1.2.2.2.2.2 (2 : Nat) s.2.2.1.2.2.2.2.1 s.2.2.1.2.2.2.2.1.length i X.1 X.2.1 X.2.2.1.1.1 X.2.2.1.1.2.1 X.2.2.1.1.2.2.1 X.2.2.1.1.2.2.2 X.2.2.1.2.1.1 X.2.2.1.2.1.2.1 X.2.2.1.2.1.2.2.1 X.2.2.1.2.1.2.2.2 X.2.2.1.2.2.1 X.2.2.1.2.2.2.1 X.2.2.1.2.2.2.2.1 X.2.2.1.2.2.2.2.2 X.2.2.2.1 X.2.2.2.2 s.2.2.1.2.2.1 s.2.2.1.2.2.2.1 s.2.2.1.2.2.2.2.1 s.2.2.1.2.2.2.2.2 = some true ∨ (tendrillaw07_ArenaThree_L22 (k + d + 1) s.2.2.1.1.1 s.2.2.1.1.2.1 s.2.2.1.1.2.2.1 s.2.2.1.1.2.2.2 s.2.2.1.2.1.1 s.2.2.1.2.1.2.1 s.2.2.1.2.1.2.2.1 s.2.2.1.2.1.2.2.2 s.2.2.1.2.2.1 s.2.2.1.2.2.2.1 s.2.2.1.2.2.2.2.1 s.2.2.1.2.2.2.2.2 (2 : Nat) s.2.2.1.2.2.2.2.1 s.2.2.1.2.2.2.2.1.length i X.1 X.2.1 X.2.2.1.1.1 X.2.2.1.1.2.1 X.2.2.1.1.2.2.1 X.2.2.1.1.2.2.2 X.2.2.1.2.1.1 X.2.2.1.2.1.2.1 X.2.2.1.2.1.2.2.1 X.2.2.1.2.1.2.2.2 X.2.2.1.2.2.1 X.2.2.1.2.2.2.1 X.2.2.1.2.2.2.2.1 X.2.2.1.2.2.2.2.2 X.2.2.2.1 X.2.2.2.2 s.2.2.1.2.2.1 s.2.2.1.2.2.2.1 s.2.2.1.2.2.2.2.1 s.2.2.1.2.2.2.2.2 = tendrillaw07_ArenaThree_L16 k s.2.2.1.1.1 s.2.2.1.1.2.1 s.2.2.1.1.2.2.1 s.2.2.1.1.2.2.2 s.2.2.1.2.1.1 s.2.2.1.2.1.2.1 s.2.2.1.2.1.2.2.1 s.2.2.1.2.1.2.2.2 s.2.2.1.2.2.1 s.2.2.1.2.2.2.1 s.2.2.1.2.2.2.2.1 s.2.2.1.2.2.2.2.2 (3 : Nat) X.1 X.2.1 X.2.2.1.1.1 X.2.2.1.1.2.1 X.2.2.1.1.2.2.1 X.2.2.1.1.2.2.2 X.2.2.1.2.1.1 X.2.2.1.2.1.2.1 X.2.2.1.2.1.2.2.1 X.2.2.1.2.1.2.2.2 X.2.2.1.2.2.1 X.2.2.1.2.2.2.1 X.2.2.1.2.2.2.2.1 X.2.2.1.2.2.2.2.2 X.2.2.2.1 X.2.2.2.2 ∧ goodP X.2.2.2.1 s.2.2.1.2.2 i)
  | 0, k, i, hi => by
    right
    refine ⟨?_, fun t h1 h2 => by omega⟩
    rw [tendrillaw07_ArenaThree_L22, cf (by omega), wi (by omega)]
  | d + 1, k, i, hi => by
    rw [show k + (d + 1) + 1 = (k + d + 1) + 1 by omega, tendrillaw07_ArenaThree_L22, ct (by omega), ct (by omega), ct (by omega), Int.toNat_natCast]
    by_cases a : X.2.2.2.1 < s.2.2.1.2.2.2.2.1.getD i 0
    · left; rw [ct a]
    · rw [cf a]
      by_cases b : s.2.2.1.2.2.2.2.1.getD i 0 < 0
      · left; rw [ct b]
      · rw [cf b, ct (by omega), ct (by omega), eqc]
        by_cases c : s.2.2.1.2.2.1.getD i 0 = 1099511627775
        · left; rw [if_pos c]
        · rw [if_neg c, wi (by omega)]
          rcases three22_2 s X hl hs d k (i + 1) (by omega) with e | ⟨e, g⟩
          · exact Or.inl e
          · refine Or.inr ⟨e, fun t h1 h2 => ?_⟩
            by_cases z : t = i
            · subst z; exact ⟨by omega, by omega, c⟩
            · exact g t (by omega) h2


theorem three16 (s X : Sh) (hs : okA s) (k : Nat) (hk : 300 ≤ k) : tendrillaw07_ArenaThree_L16 k s.2.2.1.1.1 s.2.2.1.1.2.1 s.2.2.1.1.2.2.1 s.2.2.1.1.2.2.2 s.2.2.1.2.1.1 s.2.2.1.2.1.2.1 s.2.2.1.2.1.2.2.1 s.2.2.1.2.1.2.2.2 s.2.2.1.2.2.1 s.2.2.1.2.2.2.1 s.2.2.1.2.2.2.2.1 s.2.2.1.2.2.2.2.2 0 X.1 X.2.1 X.2.2.1.1.1 X.2.2.1.1.2.1 X.2.2.1.1.2.2.1 X.2.2.1.1.2.2.2 X.2.2.1.2.1.1 X.2.2.1.2.1.2.1 X.2.2.1.2.1.2.2.1 X.2.2.1.2.1.2.2.2 X.2.2.1.2.2.1 X.2.2.1.2.2.2.1 X.2.2.1.2.2.2.2.1 X.2.2.1.2.2.2.2.2 X.2.2.2.1 X.2.2.2.2 = some true ∨ ∃ k', 1 ≤ k' ∧ k ≤ k' + 300 ∧ tendrillaw07_ArenaThree_L16 k s.2.2.1.1.1 s.2.2.1.1.2.1 s.2.2.1.1.2.2.1 s.2.2.1.1.2.2.2 s.2.2.1.2.1.1 s.2.2.1.2.1.2.1 s.2.2.1.2.1.2.2.1 s.2.2.1.2.1.2.2.2 s.2.2.1.2.2.1 s.2.2.1.2.2.2.1 s.2.2.1.2.2.2.2.1 s.2.2.1.2.2.2.2.2 0 X.1 X.2.1 X.2.2.1.1.1 X.2.2.1.1.2.1 X.2.2.1.1.2.2.1 X.2.2.1.1.2.2.2 X.2.2.1.2.1.1 X.2.2.1.2.1.2.1 X.2.2.1.2.1.2.2.1 X.2.2.1.2.1.2.2.2 X.2.2.1.2.2.1 X.2.2.1.2.2.2.1 X.2.2.1.2.2.2.2.1 X.2.2.1.2.2.2.2.2 X.2.2.2.1 X.2.2.2.2 = tendrillaw07_ArenaThree_L38 k' 0 X.1 X.2.1 X.2.2.1.1.1 X.2.2.1.1.2.1 X.2.2.1.1.2.2.1 X.2.2.1.1.2.2.2 X.2.2.1.2.1.1 X.2.2.1.2.1.2.1 X.2.2.1.2.1.2.2.1 X.2.2.1.2.1.2.2.2 X.2.2.1.2.2.1 X.2.2.1.2.2.2.1 X.2.2.1.2.2.2.2.1 X.2.2.1.2.2.2.2.2 X.2.2.2.1 X.2.2.2.2 X.1 X.2.1 X.2.2.1.1.1 X.2.2.1.1.2.1 X.2.2.1.1.2.2.1 X.2.2.1.1.2.2.2 X.2.2.1.2.1.1 X.2.2.1.2.1.2.1 X.2.2.1.2.1.2.2.1 X.2.2.1.2.1.2.2.2 X.2.2.1.2.2.1 X.2.2.1.2.2.2.1 X.2.2.1.2.2.2.2.1 X.2.2.1.2.2.2.2.2 X.2.2.2.1 X.2.2.2.2 ∧ goodP X.2.2.2.1 s.2.2.1.1 0 ∧ goodP X.2.2.2.1 s.2.2.1.2.1 0 ∧ goodP X.2.2.2.1 s.2.2.1.2.2 0 := by
  have la := hs.1.lens
  have lb := hs.2.1.lens
  have lc := hs.2.2.1.lens
  obtain ⟨k0, rfl⟩ : ∃ k0, k = ((k0 + 2 + s.2.2.1.2.2.1.length + 1) + 1 + s.2.2.1.2.1.1.length + 1) + 1 + s.2.2.1.1.1.length + 1 + 1 := ⟨k - (s.2.2.1.2.2.1.length + s.2.2.1.2.1.1.length + s.2.2.1.1.1.length + 8), by omega⟩
  rw [tendrillaw07_ArenaThree_L16, ct (by decide), cf (by decide), cf (by decide), ct (by rfl)]
  rcases three22_0 s X la.2.2 (by omega) s.2.2.1.1.1.length (((k0 + 2 + s.2.2.1.2.2.1.length + 1) + 1 + s.2.2.1.2.1.1.length + 1) + 1) 0 (by omega) with e | ⟨e, g0⟩
  · left; exact e
  rw [show ((0 : Nat) : Int) = 0 from rfl] at e
  rw [e, show ((0 + 1 : Nat) : Int) = 1 from rfl]
  rw [tendrillaw07_ArenaThree_L16, ct (by decide), cf (by decide), ct (by rfl)]
  rcases three22_1 s X lb.2.2 (by omega) s.2.2.1.2.1.1.length ((k0 + 2 + s.2.2.1.2.2.1.length + 1) + 1) 0 (by omega) with e | ⟨e, g1⟩
  · left; exact e
  rw [show ((0 : Nat) : Int) = 0 from rfl, show ((1 : Nat) : Int) = 1 from rfl] at e
  rw [e, show ((1 + 1 : Nat) : Int) = 2 from rfl]
  rw [tendrillaw07_ArenaThree_L16, ct (by decide), ct (by rfl)]
  rcases three22_2 s X lc.2.2 (by omega) s.2.2.1.2.2.1.length (k0 + 2) 0 (by omega) with e | ⟨e, g2⟩
  · left; exact e
  rw [show ((0 : Nat) : Int) = 0 from rfl, show ((2 : Nat) : Int) = 2 from rfl] at e
  rw [e, show ((2 + 1 : Nat) : Int) = 3 from rfl]
  rw [tendrillaw07_ArenaThree_L16, cf (by decide)]
  exact Or.inr ⟨k0 + 1, by omega, by omega, rfl, g0, g1, g2⟩

/-! ### Three turns -/
theorem turn_one {s : Sh} (h : okA s) (hp : s.2.2.2.2 = [-1]) (h2 : s.2.2.2.1 < 1152921504606846976) : turnA s = ((s.1, s.2.1, (recFrom (s.2.2.2.1 - 1) s.2.2.1.1.1.length 0 s.2.2.1.1, recFrom (s.2.2.2.1 - 1) s.2.2.1.2.1.1.length 0 s.2.2.1.2.1, recFrom (s.2.2.2.1 - 1) s.2.2.1.2.2.1.length 0 s.2.2.1.2.2), s.2.2.2.1 + 1, [-1]), true) := by
  have ht : turnV s.2.2.2 = ((s.2.2.2.1 + 1, [-1]), true) := by
    have := turn_free h.2.2.2 (by omega) (fun m hm => Or.inl (by rw [hp] at hm; simpa using hm))
    rw [this, hp]
  have ho : okE (s.2.2.2.1 + 1, [-1]) := by
    have := okE_turn h.2.2.2
    rw [ht] at this; exact this
  have hv : safeV (s.2.2.2.1 + 1, [-1]) = s.2.2.2.1 - 1 := by unfold safeV; rw [if_pos ho]; simp only; omega
  have r : ∀ p : Pool, okP p → (reclaimV p (s.2.2.2.1 - 1)).1 = recFrom (s.2.2.2.1 - 1) p.1.length 0 p := fun p hp => by rw [reclaim_some _ hp]
  unfold turnA
  rw [if_pos h, ht]
  simp only [if_true, hv, r _ h.1, r _ h.2.1, r _ h.2.2.1]
theorem turn_okA {s : Sh} (h : okA s) : okA (turnA s).1 := by
  unfold turnA
  rw [if_pos h]
  have he := okE_turn h.2.2.2
  have r : ∀ (u : Int) (p : Pool), okP p → okP (reclaimV p u).1 := fun u p hp => by rw [reclaim_some _ hp]; exact okP_reclaim u hp
  split
  · exact ⟨r _ _ h.1, r _ _ h.2.1, r _ _ h.2.2.1, he⟩
  · exact ⟨h.1, h.2.1, h.2.2.1, he⟩

theorem three38 (s : Sh) (hs : fewS s) (h : okA s) (hp : s.2.2.2.2 = [-1]) (h2 : s.2.2.2.1 ≤ 576460752303423488) (k : Nat) : ∃ X : Sh, tendrillaw07_ArenaThree_L38 (k + 4) 0 s.1 s.2.1 s.2.2.1.1.1 s.2.2.1.1.2.1 s.2.2.1.1.2.2.1 s.2.2.1.1.2.2.2 s.2.2.1.2.1.1 s.2.2.1.2.1.2.1 s.2.2.1.2.1.2.2.1 s.2.2.1.2.1.2.2.2 s.2.2.1.2.2.1 s.2.2.1.2.2.2.1 s.2.2.1.2.2.2.2.1 s.2.2.1.2.2.2.2.2 s.2.2.2.1 s.2.2.2.2 s.1 s.2.1 s.2.2.1.1.1 s.2.2.1.1.2.1 s.2.2.1.1.2.2.1 s.2.2.1.1.2.2.2 s.2.2.1.2.1.1 s.2.2.1.2.1.2.1 s.2.2.1.2.1.2.2.1 s.2.2.1.2.1.2.2.2 s.2.2.1.2.2.1 s.2.2.1.2.2.2.1 s.2.2.1.2.2.2.2.1 s.2.2.1.2.2.2.2.2 s.2.2.2.1 s.2.2.2.2 = tendrillaw07_ArenaThree_L52 k X.2.2.1.1.1 X.2.2.1.1.2.1 X.2.2.1.1.2.2.1 X.2.2.1.1.2.2.2 X.2.2.1.2.1.1 X.2.2.1.2.1.2.1 X.2.2.1.2.1.2.2.1 X.2.2.1.2.1.2.2.2 X.2.2.1.2.2.1 X.2.2.1.2.2.2.1 X.2.2.1.2.2.2.2.1 X.2.2.1.2.2.2.2.2 0 s.1 s.2.1 s.2.2.1.1.1 s.2.2.1.1.2.1 s.2.2.1.1.2.2.1 s.2.2.1.1.2.2.2 s.2.2.1.2.1.1 s.2.2.1.2.1.2.1 s.2.2.1.2.1.2.2.1 s.2.2.1.2.1.2.2.2 s.2.2.1.2.2.1 s.2.2.1.2.2.2.1 s.2.2.1.2.2.2.2.1 s.2.2.1.2.2.2.2.2 s.2.2.2.1 s.2.2.2.2 ∧
    (∃ q1 q2, q1 = recFrom (s.2.2.2.1 - 1) s.2.2.1.1.1.length 0 s.2.2.1.1 ∧ q2 = recFrom s.2.2.2.1 q1.1.length 0 q1 ∧ X.2.2.1.1 = recFrom (s.2.2.2.1 + 1) q2.1.length 0 q2) ∧
    (∃ q1 q2, q1 = recFrom (s.2.2.2.1 - 1) s.2.2.1.2.1.1.length 0 s.2.2.1.2.1 ∧ q2 = recFrom s.2.2.2.1 q1.1.length 0 q1 ∧ X.2.2.1.2.1 = recFrom (s.2.2.2.1 + 1) q2.1.length 0 q2) ∧
    (∃ q1 q2, q1 = recFrom (s.2.2.2.1 - 1) s.2.2.1.2.2.1.length 0 s.2.2.1.2.2 ∧ q2 = recFrom s.2.2.2.1 q1.1.length 0 q1 ∧ X.2.2.1.2.2 = recFrom (s.2.2.2.1 + 1) q2.1.length 0 q2) := by
  have f1 := few_turnA hs
  have o1 := turn_okA h
  have t1 := turn_one h hp (by omega)
  have f2 := few_turnA f1
  have o2 := turn_okA o1
  have t2 := turn_one o1 (by rw [t1]) (by rw [t1]; simp only; omega)
  have t3 := turn_one o2 (by rw [t2]) (by rw [t2, t1]; simp only; omega)
  refine ⟨(turnA (turnA (turnA s).1).1).1, ?_, ?_, ?_, ?_⟩
  · rw [tendrillaw07_ArenaThree_L38, ct (by decide), etaS, pturnA_eq s hs, Option.bind_some, show (turnA s).2 = true by rw [t1], Bool.not_true, cond_false, w01]
    rw [tendrillaw07_ArenaThree_L38, ct (by decide), etaS, pturnA_eq _ f1, Option.bind_some, show (turnA (turnA s).1).2 = true by rw [t2], Bool.not_true, cond_false, w12]
    rw [tendrillaw07_ArenaThree_L38, ct (by decide), etaS, pturnA_eq _ f2, Option.bind_some, show (turnA (turnA (turnA s).1).1).2 = true by rw [t3], Bool.not_true, cond_false, w23]
    rw [tendrillaw07_ArenaThree_L38, cf (by decide)]
  all_goals
    rw [t3, t2, t1]
    simp only
    rw [show s.2.2.2.1 + 1 - 1 = s.2.2.2.1 by omega, show s.2.2.2.1 + 1 + 1 - 1 = s.2.2.2.1 + 1 by omega]
    exact ⟨_, _, rfl, rfl, rfl⟩

theorem three52 (s X : Sh) (hs : fewS s) (k : Nat)
    (ha : small X.2.2.1.1 ∧ (countV X.2.2.1.1).2.1 = 0 ∧ (countV X.2.2.1.1).1 = (countV s.2.2.1.1).1 ∧ (countV X.2.2.1.1).1 + (countV X.2.2.1.1).2.2 = (s.2.2.1.1.1.length : Int) ∧ s.2.2.1.1.1.length ≤ 64)
    (hb : small X.2.2.1.2.1 ∧ (countV X.2.2.1.2.1).2.1 = 0 ∧ (countV X.2.2.1.2.1).1 = (countV s.2.2.1.2.1).1 ∧ (countV X.2.2.1.2.1).1 + (countV X.2.2.1.2.1).2.2 = (s.2.2.1.2.1.1.length : Int) ∧ s.2.2.1.2.1.1.length ≤ 64)
    (hc : small X.2.2.1.2.2 ∧ (countV X.2.2.1.2.2).2.1 = 0 ∧ (countV X.2.2.1.2.2).1 = (countV s.2.2.1.2.2).1 ∧ (countV X.2.2.1.2.2).1 + (countV X.2.2.1.2.2).2.2 = (s.2.2.1.2.2.1.length : Int) ∧ s.2.2.1.2.2.1.length ≤ 64) :
    tendrillaw07_ArenaThree_L52 (k + 4) X.2.2.1.1.1 X.2.2.1.1.2.1 X.2.2.1.1.2.2.1 X.2.2.1.1.2.2.2 X.2.2.1.2.1.1 X.2.2.1.2.1.2.1 X.2.2.1.2.1.2.2.1 X.2.2.1.2.1.2.2.2 X.2.2.1.2.2.1 X.2.2.1.2.2.2.1 X.2.2.1.2.2.2.2.1 X.2.2.1.2.2.2.2.2 0 s.1 s.2.1 s.2.2.1.1.1 s.2.2.1.1.2.1 s.2.2.1.1.2.2.1 s.2.2.1.1.2.2.2 s.2.2.1.2.1.1 s.2.2.1.2.1.2.1 s.2.2.1.2.1.2.2.1 s.2.2.1.2.1.2.2.2 s.2.2.1.2.2.1 s.2.2.1.2.2.2.1 s.2.2.1.2.2.2.2.1 s.2.2.1.2.2.2.2.2 s.2.2.2.1 s.2.2.2.2 = some true := by
  obtain ⟨a0, a1, a2, a3, a4⟩ := ha
  obtain ⟨b0, b1, b2, b3, b4⟩ := hb
  obtain ⟨c0, c1, c2, c3, c4⟩ := hc
  rw [tendrillaw07_ArenaThree_L52, ct (by decide), cf (by decide), cf (by decide), ct (by rfl), etaP, pcount_eq _ a0.2.2.2, Option.bind_some, cf (by decide), cf (by decide), ct (by rfl), etaP, pcount_eq _ hs.1.1.2.2.2, Option.bind_some, nec, if_pos a1, nec, if_pos a2, cf (by decide), cf (by decide), ct (by rfl), a3, w64 (by omega) (by omega), nec, if_pos rfl, w01]
  rw [tendrillaw07_ArenaThree_L52, ct (by decide), cf (by decide), ct (by rfl), etaP, pcount_eq _ b0.2.2.2, Option.bind_some, cf (by decide), ct (by rfl), etaP, pcount_eq _ hs.1.2.1.2.2.2, Option.bind_some, nec, if_pos b1, nec, if_pos b2, cf (by decide), ct (by rfl), b3, w64 (by omega) (by omega), nec, if_pos rfl, w12]
  rw [tendrillaw07_ArenaThree_L52, ct (by decide), ct (by rfl), etaP, pcount_eq _ c0.2.2.2, Option.bind_some, ct (by rfl), etaP, pcount_eq _ hs.1.2.2.2.2.2, Option.bind_some, nec, if_pos c1, nec, if_pos c2, ct (by rfl), c3, w64 (by omega) (by omega), nec, if_pos rfl, w23]
  rw [tendrillaw07_ArenaThree_L52, cf (by decide)]

theorem ArenaThree_K (K : Nat) (hK : 1000 ≤ K) (s : Sh) : tendrillaw07_ArenaThree_K K s = some true := by
  unfold tendrillaw07_ArenaThree_K
  simp only [live7_eq, Option.bind_some, Bool.not_true, cond_false, etaS, fewA_eq]
  by_cases hf : fewB s
  · have hs := hf.fewS
    simp only [hf, decide_true, Bool.not_true, cond_false, pcheckA_eq s hs, Option.bind_some, nec, dec]
    by_cases ho : okA s
    · rw [chk_pos ho, if_pos rfl]
      by_cases hn : 576460752303423488 < s.2.2.2.1
      · rw [if_pos hn]
      · rw [if_neg hn]
        obtain ⟨X, hX⟩ : ∃ X : Sh, X = (s.1, s.2.1, s.2.2.1, s.2.2.2.1, [-1]) := ⟨_, rfl⟩
        have hXf : fewS X := by rw [hX]; exact ⟨hs.1, by simp, hs.2.2⟩
        have hXo : okA X := by
          rw [hX]
          refine ⟨ho.1, ho.2.1, ho.2.2.1, ho.2.2.2.1, ho.2.2.2.2.1, by simp, by simp, fun m hm => Or.inl (by simpa using hm)⟩
        have hXp : X.2.2.2.2 = [-1] := by rw [hX]
        have hXn : X.2.2.2.1 = s.2.2.2.1 := by rw [hX]
        have x0 : X.2.2.1 = s.2.2.1 := by rw [hX]
        have main := three16 s X ho K (by omega)
        have eX : tendrillaw07_ArenaThree_L16 K s.2.2.1.1.1 s.2.2.1.1.2.1 s.2.2.1.1.2.2.1 s.2.2.1.1.2.2.2 s.2.2.1.2.1.1 s.2.2.1.2.1.2.1 s.2.2.1.2.1.2.2.1 s.2.2.1.2.1.2.2.2 s.2.2.1.2.2.1 s.2.2.1.2.2.2.1 s.2.2.1.2.2.2.2.1 s.2.2.1.2.2.2.2.2 0 X.1 X.2.1 X.2.2.1.1.1 X.2.2.1.1.2.1 X.2.2.1.1.2.2.1 X.2.2.1.1.2.2.2 X.2.2.1.2.1.1 X.2.2.1.2.1.2.1 X.2.2.1.2.1.2.2.1 X.2.2.1.2.1.2.2.2 X.2.2.1.2.2.1 X.2.2.1.2.2.2.1 X.2.2.1.2.2.2.2.1 X.2.2.1.2.2.2.2.2 X.2.2.2.1 X.2.2.2.2 = tendrillaw07_ArenaThree_L16 K s.2.2.1.1.1 s.2.2.1.1.2.1 s.2.2.1.1.2.2.1 s.2.2.1.1.2.2.2 s.2.2.1.2.1.1 s.2.2.1.2.1.2.1 s.2.2.1.2.1.2.2.1 s.2.2.1.2.1.2.2.2 s.2.2.1.2.2.1 s.2.2.1.2.2.2.1 s.2.2.1.2.2.2.2.1 s.2.2.1.2.2.2.2.2 0 s.1 s.2.1 s.2.2.1.1.1 s.2.2.1.1.2.1 s.2.2.1.1.2.2.1 s.2.2.1.1.2.2.2 s.2.2.1.2.1.1 s.2.2.1.2.1.2.1 s.2.2.1.2.1.2.2.1 s.2.2.1.2.1.2.2.2 s.2.2.1.2.2.1 s.2.2.1.2.2.2.1 s.2.2.1.2.2.2.2.1 s.2.2.1.2.2.2.2.2 s.2.2.2.1 [-1] := by rw [hX]
        rw [← eX]
        rcases main with e | ⟨k', h1, h2, e, g0, g1, g2⟩
        · exact e
        · rw [e]
          obtain ⟨k, rfl⟩ : ∃ k, k' = (k + 4) + 4 := ⟨k' - 8, by omega⟩
          obtain ⟨Y, e2, ⟨q1, q2, z1, z2, z3⟩, ⟨r1, r2, y1, y2, y3⟩, ⟨v1, v2, u1_, u2_, u3_⟩⟩ := three38 X hXf hXo hXp (by omega) (k + 4)
          rw [e2]
          rw [← x0] at g0 g1 g2
          exact three52 X Y hXf k (three_count hXo.1 g0 z1 z2 z3) (three_count hXo.2.1 g1 y1 y2 y3) (three_count hXo.2.2.1 g2 u1_ u2_ u3_)
    · rw [chk_neg ho, if_neg (by decide)]
  · simp only [hf, decide_false, Bool.not_false, cond_true]

theorem ArenaThree (x : Sh) (_ : InRT [⟨true, (.pair (.sl .int) (.pair (.sl .int) (.pair (.pair (.pair (.sl .int) (.pair (.sl .int) (.pair (.sl .int) (.sl .int)))) (.pair (.pair (.sl .int) (.pair (.sl .int) (.pair (.sl .int) (.sl .int)))) (.pair (.sl .int) (.pair (.sl .int) (.pair (.sl .int) (.sl .int)))))) (.pair .int (.sl .int)))))⟩] x) : tendrillaw07_ArenaThree x = some true := ArenaThree_K 2000000 (by decide) x
end Go.Proofs.Ytcoiboghdmmdcac.Pure
