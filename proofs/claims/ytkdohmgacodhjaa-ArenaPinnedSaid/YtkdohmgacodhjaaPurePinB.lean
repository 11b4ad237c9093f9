/- ArenaPinned at a number of threads that is known: the loops keep what 'Inv' says; no condition. -/
import Derived.Test.YtkdohmgacodhjaaPureAll
import Derived.Test.YtkdohmgacodhjaaApD
set_option linter.unusedVariables false
set_option linter.unusedSimpArgs false
namespace Go.Proofs.Ytkdohmgacodhjaa.Pure
open Go Go.RowKit Go.Proofs.YtkdohmgacodhjaaFn Go.Proofs.YtkdohmgacodhjaaPx

theorem no2 {x : Int × Int} {w slot : Int} (h : ¬ (x.1 = w ∧ x.2 = slot)) : (x.1 == w && (x.2 == slot && true)) = false := by
  rw [eq_dec, eq_dec, Bool.and_true]
  by_cases a : x.1 = w
  · simp only [a, decide_true, Bool.true_and, decide_eq_false_iff_not]
    exact fun b => h ⟨a, b⟩
  · simp only [a, decide_false, Bool.false_and]
theorem newA_no {c : Int × Int × Int × Int × Int} {n : Int} (h : (newA c n).2 ≠ 0) : newA c n = (noS, 1) := by
  unfold newA at h ⊢
  split
  · rename_i g; rw [if_pos g] at h; exact absurd rfl h
  · rfl

/-! ### 1 -/
theorem pin1_row0 (w ref slot : Int) (st : List Int) (n idx : Int) (X : Sh) (pin : List Bool) (live : Row) (s0 : Row) (hl : s0.length ≤ 1000) (hp : pin.length = 1) (hx : pin.getD 0 false = true → ∀ x ∈ s0, ¬ (x.1 = w ∧ x.2 = slot)) : ∀ (d m f : Nat), m + d = s0.length →
    tendrillaw07_ArenaPinned_1_L122 (f + d + 1) 1 w ref slot 0 st n idx (((1 : Nat) : Int)) 0 (s0.length : Int) (m : Int) X.1 X.2.1 X.2.2.1.1.1 X.2.2.1.1.2.1 X.2.2.1.1.2.2.1 X.2.2.1.1.2.2.2 X.2.2.1.2.1.1 X.2.2.1.2.1.2.1 X.2.2.1.2.1.2.2.1 X.2.2.1.2.1.2.2.2 X.2.2.1.2.2.1 X.2.2.1.2.2.2.1 X.2.2.1.2.2.2.2.1 X.2.2.1.2.2.2.2.2 X.2.2.2.1 X.2.2.2.2 pin live s0 = tendrillaw07_ArenaPinned_1_L116 f 1 w ref slot st n idx (((1 : Nat) : Int)) 1 X.1 X.2.1 X.2.2.1.1.1 X.2.2.1.1.2.1 X.2.2.1.1.2.2.1 X.2.2.1.1.2.2.2 X.2.2.1.2.1.1 X.2.2.1.2.1.2.1 X.2.2.1.2.1.2.2.1 X.2.2.1.2.1.2.2.2 X.2.2.1.2.2.1 X.2.2.1.2.2.2.1 X.2.2.1.2.2.2.2.1 X.2.2.1.2.2.2.2.2 X.2.2.2.1 X.2.2.2.2 pin live s0
  | 0, m, f, h => by
    rw [tendrillaw07_ArenaPinned_1_L122, cf (by omega), show wrap64 ((0 : Int) + 1) = 1 by rw [w64 (by decide) (by decide)]; rfl]
  | d + 1, m, f, h => by
    rw [show f + (d + 1) + 1 = (f + d + 1) + 1 by omega, tendrillaw07_ArenaPinned_1_L122, ct (by omega), ct (by omega), ct (by omega), ct (by decide), ct (by rw [hp]; decide), show Int.toNat (0 : Int) = 0 from rfl]
    have ih := pin1_row0 w ref slot st n idx X pin live s0 hl hp hx d (m + 1) f (by omega)
    by_cases hb : pin.getD 0 false = true
    · rw [hb, cond_true, Int.toNat_natCast]
      have hn := hx hb (s0.getD m (0, 0)) (by rw [getD_get s0 m _ (by omega)]; exact List.getElem_mem _)
      rw [no2 hn, cond_false, wi (by omega)]
      exact ih
    · rw [show pin.getD 0 false = false by simpa using hb, cond_false, wi (by omega)]
      exact ih
theorem pin1_take (w ref slot : Int) (st : List Int) (n idx : Int) (X : Sh) (pin : List Bool) (live : Row) (s0 : Row) (hp : pin.length = 1) (hL : live.length ≤ 1000) (l0 : s0.length ≤ 1000) (h0 : pin.getD 0 false = true → ∀ x ∈ s0, ¬ (x.1 = w ∧ x.2 = slot)) (K : Nat) (hK : (s0.length + 2) + 1 ≤ K) :
    ∃ f, f + (s0.length + 2) + 1 = K ∧ tendrillaw07_ArenaPinned_1_L116 K 1 w ref slot st n idx (((1 : Nat) : Int)) 0 X.1 X.2.1 X.2.2.1.1.1 X.2.2.1.1.2.1 X.2.2.1.1.2.2.1 X.2.2.1.1.2.2.2 X.2.2.1.2.1.1 X.2.2.1.2.1.2.1 X.2.2.1.2.1.2.2.1 X.2.2.1.2.1.2.2.2 X.2.2.1.2.2.1 X.2.2.1.2.2.2.1 X.2.2.1.2.2.2.2.1 X.2.2.1.2.2.2.2.2 X.2.2.2.1 X.2.2.2.2 pin live s0 = tendrillaw07_ArenaPinned_1_L26 f 1 st n (wrap64 (idx + 1)) X.1 X.2.1 X.2.2.1.1.1 X.2.2.1.1.2.1 X.2.2.1.1.2.2.1 X.2.2.1.1.2.2.2 X.2.2.1.2.1.1 X.2.2.1.2.1.2.1 X.2.2.1.2.1.2.2.1 X.2.2.1.2.1.2.2.2 X.2.2.1.2.2.1 X.2.2.1.2.2.2.1 X.2.2.1.2.2.2.2.1 X.2.2.1.2.2.2.2.2 X.2.2.2.1 X.2.2.2.2 pin (live ++ [(w, ref)]) s0 := by
  obtain ⟨f, rfl⟩ : ∃ f, K = (f + 1 + s0.length + 1) + 1 := ⟨K - ((s0.length + 2) + 1), by omega⟩
  refine ⟨f, by omega, ?_⟩
  rw [tendrillaw07_ArenaPinned_1_L116, ct (by decide), ct (by decide)]
  refine (pin1_row0 w ref slot st n idx X pin live s0 l0 hp h0 s0.length 0 _ (by omega)).trans ?_
  rw [tendrillaw07_ArenaPinned_1_L116, cf (by decide), ct (by simp only [List.length_cons, List.length_nil]; omega)]
theorem pin1_ret0 (w ref slot : Int) (st : List Int) (n idx : Int) (X : Sh) (pin : List Bool) (live : Row) (s0 : Row) (hp : pin.length = 1) (hl : s0.length ≤ 1000) (f : Nat) :
    tendrillaw07_ArenaPinned_1_L62 (f + 1) 1 slot st n idx (((1 : Nat) : Int)) 0 X.1 X.2.1 X.2.2.1.1.1 X.2.2.1.1.2.1 X.2.2.1.1.2.2.1 X.2.2.1.1.2.2.2 X.2.2.1.2.1.1 X.2.2.1.2.1.2.1 X.2.2.1.2.1.2.2.1 X.2.2.1.2.1.2.2.2 X.2.2.1.2.2.1 X.2.2.1.2.2.2.1 X.2.2.1.2.2.2.2.1 X.2.2.1.2.2.2.2.2 X.2.2.2.1 X.2.2.2.2 pin live w ref s0 = tendrillaw07_ArenaPinned_1_L62 f 1 slot st n idx (((1 : Nat) : Int)) 1 X.1 X.2.1 X.2.2.1.1.1 X.2.2.1.1.2.1 X.2.2.1.1.2.2.1 X.2.2.1.1.2.2.2 X.2.2.1.2.1.1 X.2.2.1.2.1.2.1 X.2.2.1.2.1.2.2.1 X.2.2.1.2.1.2.2.2 X.2.2.1.2.2.1 X.2.2.1.2.2.2.1 X.2.2.1.2.2.2.2.1 X.2.2.1.2.2.2.2.2 X.2.2.2.1 X.2.2.2.2 pin live w ref (if pin.getD 0 false = true then s0 ++ [(w, slot)] else s0) := by
  rw [tendrillaw07_ArenaPinned_1_L62, ct (by decide), ct (by decide), ct (by rw [hp]; decide), show Int.toNat (0 : Int) = 0 from rfl, show wrap64 ((0 : Int) + 1) = 1 by rw [w64 (by decide) (by decide)]; rfl]
  by_cases hb : pin.getD 0 false = true
  · rw [if_pos hb, hb, cond_true, ct (by decide), ct (by simp only [List.length_cons, List.length_nil]; omega), ct (by decide)]
  · rw [if_neg hb, show pin.getD 0 false = false by simpa using hb, cond_false]
theorem pin1_ret (w ref slot : Int) (st : List Int) (n idx : Int) (X : Sh) (pin : List Bool) (live : Row) (s0 : Row) (hp : pin.length = 1) (l0 : s0.length ≤ 1000) (f : Nat) :
    tendrillaw07_ArenaPinned_1_L62 (f + 2) 1 slot st n idx (((1 : Nat) : Int)) 0 X.1 X.2.1 X.2.2.1.1.1 X.2.2.1.1.2.1 X.2.2.1.1.2.2.1 X.2.2.1.1.2.2.2 X.2.2.1.2.1.1 X.2.2.1.2.1.2.1 X.2.2.1.2.1.2.2.1 X.2.2.1.2.1.2.2.2 X.2.2.1.2.2.1 X.2.2.1.2.2.2.1 X.2.2.1.2.2.2.2.1 X.2.2.1.2.2.2.2.2 X.2.2.2.1 X.2.2.2.2 pin live w ref s0 = tendrillaw07_ArenaPinned_1_L26 f 1 st n (wrap64 (idx + 1)) X.1 X.2.1 X.2.2.1.1.1 X.2.2.1.1.2.1 X.2.2.1.1.2.2.1 X.2.2.1.1.2.2.2 X.2.2.1.2.1.1 X.2.2.1.2.1.2.1 X.2.2.1.2.1.2.2.1 X.2.2.1.2.1.2.2.2 X.2.2.1.2.2.1 X.2.2.1.2.2.2.1 X.2.2.1.2.2.2.2.1 X.2.2.1.2.2.2.2.2 X.2.2.2.1 X.2.2.2.2 pin live (if pin.getD 0 false = true then s0 ++ [(w, slot)] else s0) := by
  refine (pin1_ret0 w ref slot st n idx X pin live s0 hp l0 (f + 1)).trans ?_
  rw [tendrillaw07_ArenaPinned_1_L62, cf (by decide)]
set_option maxHeartbeats 0 in
set_option maxRecDepth 10000 in
theorem pin1_steps (st : List Int) (hm : st.length ≤ 120) (hst : ∀ v ∈ st, v ≤ 9223372036854775807) : ∀ (d K i : Nat) (s : Sh) (pin : List Bool) (live : Row) (s0 : Row), i + d = st.length → d * 1000 + 1 ≤ K → Inv 1 i s pin live [s0] →
    tendrillaw07_ArenaPinned_1_L26 K 1 st st.length i s.1 s.2.1 s.2.2.1.1.1 s.2.2.1.1.2.1 s.2.2.1.1.2.2.1 s.2.2.1.1.2.2.2 s.2.2.1.2.1.1 s.2.2.1.2.1.2.1 s.2.2.1.2.1.2.2.1 s.2.2.1.2.1.2.2.2 s.2.2.1.2.2.1 s.2.2.1.2.2.2.1 s.2.2.1.2.2.2.2.1 s.2.2.1.2.2.2.2.2 s.2.2.2.1 s.2.2.2.2 pin live s0 = some true
  | 0, K, i, s, pin, live, s0, hd, hK, I => by
    obtain ⟨K, rfl⟩ : ∃ K', K = K' + 1 := ⟨K - 1, by omega⟩
    rw [tendrillaw07_ArenaPinned_1_L26, cf (by omega), etaS, pcheckA_eq s I.few, chk_pos I.ok]
    rfl
  | d + 1, K, i, s, pin, live, s0, hd, hK, I => by
    have ih := pin1_steps st hm hst d
    obtain ⟨K, rfl⟩ : ∃ K', K = K' + 1 := ⟨K - 1, by omega⟩
    have l0 : s0.length ≤ i := I.lr 0 (by omega)
    have hl := I.ll
    rw [tendrillaw07_ArenaPinned_1_L26, ct (by omega), ct (by omega), ct (by omega), Int.toNat_natCast]
    have hv := hst (st.getD i 0) (by rw [getD_get st i 0 (by omega)]; exact List.getElem_mem _)
    generalize st.getD i 0 = v at hv ⊢
    by_cases a : v < 0
    · rw [ct a]
    rw [cf a, cf (by decide)]
    have hA0 : 0 ≤ wrap64 (v.tdiv 6) := by rw [(tdm v 6 (by omega)).1, w64 (by omega) (by omega)]; omega
    have hA1 : wrap64 (v.tdiv 6) ≤ 9223372036854775807 := by rw [(tdm v 6 (by omega)).1, w64 (by omega) (by omega)]; omega
    generalize wrap64 (v.tdiv 6) = A at hA0 hA1 ⊢
    have w3 : wrap64 (A % 3 + 1) = A % 3 + 1 := w64 (by omega) (by omega)
    rw [show A.tmod 1 = A % 1 from (tdm A 1 hA0).2, show A.tmod 3 = A % 3 from (tdm A 3 hA0).2]
    have t0 : 0 ≤ A % 1 := by omega
    have t1 : A % 1 < 1 := by omega
    rw [eqc]
    by_cases c0 : v.tmod 6 = 0
    · rw [if_pos c0]
      clear w3
      generalize A % 1 = t at t0 t1 ⊢
      rw [etaS, ppinA_eq s t I.few, Option.bind_some, eqc]
      by_cases e : (pinA s t).2 = 0
      · rw [if_pos e, ct t0, ct (by rw [I.lb]; exact t1), wi (by omega)]
        rcases (show t = 0 by omega) with rfl
        · rw [ct (by decide)]
          exact ih K (i + 1) (pinA s 0).1 _ live [] (by omega) (by omega) ((inv_pin I e).more (by omega))
      · rw [if_neg e, wi (by omega)]
        exact ih K (i + 1) s pin live s0 (by omega) (by omega) (I.more (by omega))
    rw [if_neg c0, eqc]
    by_cases c1 : v.tmod 6 = 1
    · rw [if_pos c1]
      clear w3
      generalize A % 1 = t at t0 t1 ⊢
      rw [etaS, pendA_eq s t I.few, Option.bind_some, eqc]
      by_cases e : (endA s t).2 = 0
      · rw [if_pos e, ct t0, ct (by rw [I.lb]; exact t1), wi (by omega)]
        exact ih K (i + 1) (endA s t).1 _ live s0 (by omega) (by omega) ((inv_end I e).more (by omega))
      · rw [if_neg e, wi (by omega)]
        exact ih K (i + 1) s pin live s0 (by omega) (by omega) (I.more (by omega))
    rw [if_neg c1, eqc]
    by_cases c2 : v.tmod 6 = 2
    · rw [if_pos c2, etaS, pturnA_eq s I.few, Option.bind_some, wi (by omega)]
      exact ih K (i + 1) (turnA s).1 pin live s0 (by omega) (by omega) ((inv_turn I).more (by omega))
    rw [if_neg c2, eqc]
    by_cases c3 : v.tmod 6 = 3
    · rw [if_pos c3]
      rw [w3, etaS, ptakeA_eq s (A % 3 + 1) I.few, Option.bind_some, nec]
      by_cases e : (takeA s (A % 3 + 1)).2.2 = 0
      · rw [if_pos e]
        obtain ⟨hr, hu, J, hne⟩ := inv_take I e
        rw [unpack_eq _ hr, Option.bind_some, nec, if_pos hu]
        obtain ⟨f, hf, e2⟩ := pin1_take (A % 3 + 1) (takeA s (A % 3 + 1)).2.1 (unpackV (takeA s (A % 3 + 1)).2.1).1 st st.length i (takeA s (A % 3 + 1)).1 pin live s0 I.lb (by omega) (by omega) (hne 0 (by omega)) K (by omega)
        refine e2.trans ?_
        rw [wi (by omega)]
        exact ih f (i + 1) _ _ _ s0 (by omega) (by omega) J
      · rw [if_neg e, wi (by omega)]
        exact ih K (i + 1) s pin live s0 (by omega) (by omega) (I.more (by omega))

    rw [if_neg c3, eqc]
    by_cases c4 : v.tmod 6 = 4
    · rw [if_pos c4]
      rw [w3, etaS, ptakeA_eq s (A % 3 + 1) I.few, Option.bind_some, nec]
      by_cases e : (takeA s (A % 3 + 1)).2.2 = 0
      · rw [if_pos e]
        obtain ⟨hr, hu, J, hne⟩ := inv_take I e
        rw [unpack_eq _ hr, Option.bind_some, nec, if_pos hu]
        obtain ⟨f, hf, e2⟩ := pin1_take (A % 3 + 1) (takeA s (A % 3 + 1)).2.1 (unpackV (takeA s (A % 3 + 1)).2.1).1 st st.length i (takeA s (A % 3 + 1)).1 pin live s0 I.lb (by omega) (by omega) (hne 0 (by omega)) K (by omega)
        refine e2.trans ?_
        rw [wi (by omega)]
        exact ih f (i + 1) _ _ _ s0 (by omega) (by omega) J
      · rw [if_neg e, wi (by omega)]
        exact ih K (i + 1) s pin live s0 (by omega) (by omega) (I.more (by omega))

    rw [if_neg c4, eqc]
    by_cases z : (live.length : Int) = 0
    · rw [if_pos z, wi (by omega)]
      exact ih K (i + 1) s pin live s0 (by omega) (by omega) (I.more (by omega))
    rw [if_neg z, cf z]
    have b0 : 0 ≤ A.tmod (live.length : Int) := by rw [(tdm A live.length hA0).2]; exact Int.emod_nonneg _ z
    have b1 : A.tmod (live.length : Int) < (live.length : Int) := by rw [(tdm A live.length hA0).2]; exact Int.emod_lt_of_pos _ (by omega)
    generalize A.tmod (live.length : Int) = b at b0 b1 ⊢
    obtain ⟨b, rfl⟩ := Int.eq_ofNat_of_zero_le b0
    have hb : b < live.length := by omega
    rw [wi (by omega)]
    simp only [Int.toNat_natCast]
    rw [ct (by omega), ct (by omega), ct (by omega), ct (by omega), ct (by simp; omega), ct (by omega), ct (by omega), ct (by simp; omega)]
    obtain ⟨y, hy⟩ : ∃ y, live.getD b (0, 0) = y := ⟨_, rfl⟩
    rw [hy, List.drop_zero, List.take_length]
    obtain ⟨r1, r2, r3, J⟩ := inv_ret (seen' := [(if pin.getD 0 false = true then s0 ++ [(y.1, (unpackV y.2).1)] else s0)]) I hb hy rfl (fun j hj => by
      rcases (show j = 0 by omega) with rfl <;> rfl)
    rw [etaS, pretA_eq s y.1 y.2 I.few r1, Option.bind_some, unpack_eq _ r1, Option.bind_some, nec, if_pos r3, nec, if_pos r2]
    obtain ⟨f, rfl⟩ : ∃ f, K = f + 2 := ⟨K - 2, by omega⟩
    refine (pin1_ret y.1 y.2 (unpackV y.2).1 st st.length i (retA s y.1 y.2).1 pin (live.take b ++ live.drop (b + 1)) s0 I.lb (by omega) f).trans ?_
    rw [wi (by omega)]
    exact ih f (i + 1) _ _ _ _ (by omega) (by omega) J

theorem pin1 (K : Nat) (hK : 130000 ≤ K) (x : (Int × Int × Int × Int × Int) × List Int) (hx : ∀ v ∈ x.2, v ≤ 9223372036854775807) : tendrillaw07_ArenaPinned_1_K K x = some true := by
  obtain ⟨c, st⟩ := x
  unfold tendrillaw07_ArenaPinned_1_K
  rw [live7_eq, Option.bind_some, Bool.not_true, cond_false]
  by_cases h : (120 : Int) < (st.length : Int)
  · rw [ct h]
  rw [cf h, show ((c.1, c.2.1, c.2.2.1, c.2.2.2.1, c.2.2.2.2) : Int × Int × Int × Int × Int) = c from rfl, pnewA_eq, Option.bind_some, nec]
  by_cases e : (newA c 1).2 = 0
  · rw [if_pos e]
    exact pin1_steps st (by omega) hx st.length K 0 (newA c 1).1 _ [] [] (by omega) (by omega) (inv_new (n := 1) e)
  · rw [if_neg e, newA_no e]
    rfl

/-! ### 2 -/
theorem pin2_row0 (w ref slot : Int) (st : List Int) (n idx : Int) (X : Sh) (pin : List Bool) (live : Row) (s0 s1 : Row) (hl : s0.length ≤ 1000) (hp : pin.length = 2) (hx : pin.getD 0 false = true → ∀ x ∈ s0, ¬ (x.1 = w ∧ x.2 = slot)) : ∀ (d m f : Nat), m + d = s0.length →
    tendrillaw07_ArenaPinned_2_L122x1 (f + d + 1) 2 w ref slot 0 st n idx (((2 : Nat) : Int)) 0 (s0.length : Int) (m : Int) X.1 X.2.1 X.2.2.1.1.1 X.2.2.1.1.2.1 X.2.2.1.1.2.2.1 X.2.2.1.1.2.2.2 X.2.2.1.2.1.1 X.2.2.1.2.1.2.1 X.2.2.1.2.1.2.2.1 X.2.2.1.2.1.2.2.2 X.2.2.1.2.2.1 X.2.2.1.2.2.2.1 X.2.2.1.2.2.2.2.1 X.2.2.1.2.2.2.2.2 X.2.2.2.1 X.2.2.2.2 pin live s0 s1 = tendrillaw07_ArenaPinned_2_L116 f 2 w ref slot st n idx (((2 : Nat) : Int)) 1 X.1 X.2.1 X.2.2.1.1.1 X.2.2.1.1.2.1 X.2.2.1.1.2.2.1 X.2.2.1.1.2.2.2 X.2.2.1.2.1.1 X.2.2.1.2.1.2.1 X.2.2.1.2.1.2.2.1 X.2.2.1.2.1.2.2.2 X.2.2.1.2.2.1 X.2.2.1.2.2.2.1 X.2.2.1.2.2.2.2.1 X.2.2.1.2.2.2.2.2 X.2.2.2.1 X.2.2.2.2 pin live s0 s1
  | 0, m, f, h => by
    rw [tendrillaw07_ArenaPinned_2_L122x1, cf (by omega), show wrap64 ((0 : Int) + 1) = 1 by rw [w64 (by decide) (by decide)]; rfl]
  | d + 1, m, f, h => by
    rw [show f + (d + 1) + 1 = (f + d + 1) + 1 by omega, tendrillaw07_ArenaPinned_2_L122x1, ct (by omega), ct (by omega), ct (by omega), ct (by decide), ct (by rw [hp]; decide), show Int.toNat (0 : Int) = 0 from rfl]
    have ih := pin2_row0 w ref slot st n idx X pin live s0 s1 hl hp hx d (m + 1) f (by omega)
    by_cases hb : pin.getD 0 false = true
    · rw [hb, cond_true, Int.toNat_natCast]
      have hn := hx hb (s0.getD m (0, 0)) (by rw [getD_get s0 m _ (by omega)]; exact List.getElem_mem _)
      rw [no2 hn, cond_false, wi (by omega)]
      exact ih
    · rw [show pin.getD 0 false = false by simpa using hb, cond_false, wi (by omega)]
      exact ih
theorem pin2_row1 (w ref slot : Int) (st : List Int) (n idx : Int) (X : Sh) (pin : List Bool) (live : Row) (s0 s1 : Row) (hl : s1.length ≤ 1000) (hp : pin.length = 2) (hx : pin.getD 1 false = true → ∀ x ∈ s1, ¬ (x.1 = w ∧ x.2 = slot)) : ∀ (d m f : Nat), m + d = s1.length →
    tendrillaw07_ArenaPinned_2_L122 (f + d + 1) 2 w ref slot 1 st n idx (((2 : Nat) : Int)) 1 (s1.length : Int) (m : Int) X.1 X.2.1 X.2.2.1.1.1 X.2.2.1.1.2.1 X.2.2.1.1.2.2.1 X.2.2.1.1.2.2.2 X.2.2.1.2.1.1 X.2.2.1.2.1.2.1 X.2.2.1.2.1.2.2.1 X.2.2.1.2.1.2.2.2 X.2.2.1.2.2.1 X.2.2.1.2.2.2.1 X.2.2.1.2.2.2.2.1 X.2.2.1.2.2.2.2.2 X.2.2.2.1 X.2.2.2.2 pin live s1 s0 = tendrillaw07_ArenaPinned_2_L116 f 2 w ref slot st n idx (((2 : Nat) : Int)) 2 X.1 X.2.1 X.2.2.1.1.1 X.2.2.1.1.2.1 X.2.2.1.1.2.2.1 X.2.2.1.1.2.2.2 X.2.2.1.2.1.1 X.2.2.1.2.1.2.1 X.2.2.1.2.1.2.2.1 X.2.2.1.2.1.2.2.2 X.2.2.1.2.2.1 X.2.2.1.2.2.2.1 X.2.2.1.2.2.2.2.1 X.2.2.1.2.2.2.2.2 X.2.2.2.1 X.2.2.2.2 pin live s0 s1
  | 0, m, f, h => by
    rw [tendrillaw07_ArenaPinned_2_L122, cf (by omega), show wrap64 ((1 : Int) + 1) = 2 by rw [w64 (by decide) (by decide)]; rfl]
  | d + 1, m, f, h => by
    rw [show f + (d + 1) + 1 = (f + d + 1) + 1 by omega, tendrillaw07_ArenaPinned_2_L122, ct (by omega), ct (by omega), ct (by omega), ct (by decide), ct (by rw [hp]; decide), show Int.toNat (1 : Int) = 1 from rfl]
    have ih := pin2_row1 w ref slot st n idx X pin live s0 s1 hl hp hx d (m + 1) f (by omega)
    by_cases hb : pin.getD 1 false = true
    · rw [hb, cond_true, Int.toNat_natCast]
      have hn := hx hb (s1.getD m (0, 0)) (by rw [getD_get s1 m _ (by omega)]; exact List.getElem_mem _)
      rw [no2 hn, cond_false, wi (by omega)]
      exact ih
    · rw [show pin.getD 1 false = false by simpa using hb, cond_false, wi (by omega)]
      exact ih
theorem pin2_take (w ref slot : Int) (st : List Int) (n idx : Int) (X : Sh) (pin : List Bool) (live : Row) (s0 s1 : Row) (hp : pin.length = 2) (hL : live.length ≤ 1000) (l0 : s0.length ≤ 1000) (h0 : pin.getD 0 false = true → ∀ x ∈ s0, ¬ (x.1 = w ∧ x.2 = slot)) (l1 : s1.length ≤ 1000) (h1 : pin.getD 1 false = true → ∀ x ∈ s1, ¬ (x.1 = w ∧ x.2 = slot)) (K : Nat) (hK : (s0.length + 2) + (s1.length + 2) + 1 ≤ K) :
    ∃ f, f + (s0.length + 2) + (s1.length + 2) + 1 = K ∧ tendrillaw07_ArenaPinned_2_L116 K 2 w ref slot st n idx (((2 : Nat) : Int)) 0 X.1 X.2.1 X.2.2.1.1.1 X.2.2.1.1.2.1 X.2.2.1.1.2.2.1 X.2.2.1.1.2.2.2 X.2.2.1.2.1.1 X.2.2.1.2.1.2.1 X.2.2.1.2.1.2.2.1 X.2.2.1.2.1.2.2.2 X.2.2.1.2.2.1 X.2.2.1.2.2.2.1 X.2.2.1.2.2.2.2.1 X.2.2.1.2.2.2.2.2 X.2.2.2.1 X.2.2.2.2 pin live s0 s1 = tendrillaw07_ArenaPinned_2_L26 f 2 st n (wrap64 (idx + 1)) X.1 X.2.1 X.2.2.1.1.1 X.2.2.1.1.2.1 X.2.2.1.1.2.2.1 X.2.2.1.1.2.2.2 X.2.2.1.2.1.1 X.2.2.1.2.1.2.1 X.2.2.1.2.1.2.2.1 X.2.2.1.2.1.2.2.2 X.2.2.1.2.2.1 X.2.2.1.2.2.2.1 X.2.2.1.2.2.2.2.1 X.2.2.1.2.2.2.2.2 X.2.2.2.1 X.2.2.2.2 pin (live ++ [(w, ref)]) s0 s1 := by
  obtain ⟨f, rfl⟩ : ∃ f, K = ((f + 1 + s1.length + 1) + 1 + s0.length + 1) + 1 := ⟨K - ((s0.length + 2) + (s1.length + 2) + 1), by omega⟩
  refine ⟨f, by omega, ?_⟩
  rw [tendrillaw07_ArenaPinned_2_L116, ct (by decide), cf (by decide), ct (by decide)]
  refine (pin2_row0 w ref slot st n idx X pin live s0 s1 l0 hp h0 s0.length 0 _ (by omega)).trans ?_
  rw [tendrillaw07_ArenaPinned_2_L116, ct (by decide), ct (by decide)]
  refine (pin2_row1 w ref slot st n idx X pin live s0 s1 l1 hp h1 s1.length 0 _ (by omega)).trans ?_
  rw [tendrillaw07_ArenaPinned_2_L116, cf (by decide), ct (by simp only [List.length_cons, List.length_nil]; omega)]
theorem pin2_ret0 (w ref slot : Int) (st : List Int) (n idx : Int) (X : Sh) (pin : List Bool) (live : Row) (s0 s1 : Row) (hp : pin.length = 2) (hl : s0.length ≤ 1000) (f : Nat) :
    tendrillaw07_ArenaPinned_2_L62 (f + 1) 2 slot st n idx (((2 : Nat) : Int)) 0 X.1 X.2.1 X.2.2.1.1.1 X.2.2.1.1.2.1 X.2.2.1.1.2.2.1 X.2.2.1.1.2.2.2 X.2.2.1.2.1.1 X.2.2.1.2.1.2.1 X.2.2.1.2.1.2.2.1 X.2.2.1.2.1.2.2.2 X.2.2.1.2.2.1 X.2.2.1.2.2.2.1 X.2.2.1.2.2.2.2.1 X.2.2.1.2.2.2.2.2 X.2.2.2.1 X.2.2.2.2 pin live w ref s0 s1 = tendrillaw07_ArenaPinned_2_L62 f 2 slot st n idx (((2 : Nat) : Int)) 1 X.1 X.2.1 X.2.2.1.1.1 X.2.2.1.1.2.1 X.2.2.1.1.2.2.1 X.2.2.1.1.2.2.2 X.2.2.1.2.1.1 X.2.2.1.2.1.2.1 X.2.2.1.2.1.2.2.1 X.2.2.1.2.1.2.2.2 X.2.2.1.2.2.1 X.2.2.1.2.2.2.1 X.2.2.1.2.2.2.2.1 X.2.2.1.2.2.2.2.2 X.2.2.2.1 X.2.2.2.2 pin live w ref (if pin.getD 0 false = true then s0 ++ [(w, slot)] else s0) s1 := by
  rw [tendrillaw07_ArenaPinned_2_L62, ct (by decide), ct (by decide), ct (by rw [hp]; decide), show Int.toNat (0 : Int) = 0 from rfl, show wrap64 ((0 : Int) + 1) = 1 by rw [w64 (by decide) (by decide)]; rfl]
  by_cases hb : pin.getD 0 false = true
  · rw [if_pos hb, hb, cond_true, cf (by decide), ct (by decide), ct (by simp only [List.length_cons, List.length_nil]; omega), cf (by decide), ct (by decide)]
  · rw [if_neg hb, show pin.getD 0 false = false by simpa using hb, cond_false]
theorem pin2_ret1 (w ref slot : Int) (st : List Int) (n idx : Int) (X : Sh) (pin : List Bool) (live : Row) (s0 s1 : Row) (hp : pin.length = 2) (hl : s1.length ≤ 1000) (f : Nat) :
    tendrillaw07_ArenaPinned_2_L62 (f + 1) 2 slot st n idx (((2 : Nat) : Int)) 1 X.1 X.2.1 X.2.2.1.1.1 X.2.2.1.1.2.1 X.2.2.1.1.2.2.1 X.2.2.1.1.2.2.2 X.2.2.1.2.1.1 X.2.2.1.2.1.2.1 X.2.2.1.2.1.2.2.1 X.2.2.1.2.1.2.2.2 X.2.2.1.2.2.1 X.2.2.1.2.2.2.1 X.2.2.1.2.2.2.2.1 X.2.2.1.2.2.2.2.2 X.2.2.2.1 X.2.2.2.2 pin live w ref s0 s1 = tendrillaw07_ArenaPinned_2_L62 f 2 slot st n idx (((2 : Nat) : Int)) 2 X.1 X.2.1 X.2.2.1.1.1 X.2.2.1.1.2.1 X.2.2.1.1.2.2.1 X.2.2.1.1.2.2.2 X.2.2.1.2.1.1 X.2.2.1.2.1.2.1 X.2.2.1.2.1.2.2.1 X.2.2.1.2.1.2.2.2 X.2.2.1.2.2.1 X.2.2.1.2.2.2.1 X.2.2.1.2.2.2.2.1 X.2.2.1.2.2.2.2.2 X.2.2.2.1 X.2.2.2.2 pin live w ref s0 (if pin.getD 1 false = true then s1 ++ [(w, slot)] else s1) := by
  rw [tendrillaw07_ArenaPinned_2_L62, ct (by decide), ct (by decide), ct (by rw [hp]; decide), show Int.toNat (1 : Int) = 1 from rfl, show wrap64 ((1 : Int) + 1) = 2 by rw [w64 (by decide) (by decide)]; rfl]
  by_cases hb : pin.getD 1 false = true
  · rw [if_pos hb, hb, cond_true, ct (by decide), ct (by simp only [List.length_cons, List.length_nil]; omega), ct (by decide)]
  · rw [if_neg hb, show pin.getD 1 false = false by simpa using hb, cond_false]
theorem pin2_ret (w ref slot : Int) (st : List Int) (n idx : Int) (X : Sh) (pin : List Bool) (live : Row) (s0 s1 : Row) (hp : pin.length = 2) (l0 : s0.length ≤ 1000) (l1 : s1.length ≤ 1000) (f : Nat) :
    tendrillaw07_ArenaPinned_2_L62 (f + 3) 2 slot st n idx (((2 : Nat) : Int)) 0 X.1 X.2.1 X.2.2.1.1.1 X.2.2.1.1.2.1 X.2.2.1.1.2.2.1 X.2.2.1.1.2.2.2 X.2.2.1.2.1.1 X.2.2.1.2.1.2.1 X.2.2.1.2.1.2.2.1 X.2.2.1.2.1.2.2.2 X.2.2.1.2.2.1 X.2.2.1.2.2.2.1 X.2.2.1.2.2.2.2.1 X.2.2.1.2.2.2.2.2 X.2.2.2.1 X.2.2.2.2 pin live w ref s0 s1 = tendrillaw07_ArenaPinned_2_L26 f 2 st n (wrap64 (idx + 1)) X.1 X.2.1 X.2.2.1.1.1 X.2.2.1.1.2.1 X.2.2.1.1.2.2.1 X.2.2.1.1.2.2.2 X.2.2.1.2.1.1 X.2.2.1.2.1.2.1 X.2.2.1.2.1.2.2.1 X.2.2.1.2.1.2.2.2 X.2.2.1.2.2.1 X.2.2.1.2.2.2.1 X.2.2.1.2.2.2.2.1 X.2.2.1.2.2.2.2.2 X.2.2.2.1 X.2.2.2.2 pin live (if pin.getD 0 false = true then s0 ++ [(w, slot)] else s0) (if pin.getD 1 false = true then s1 ++ [(w, slot)] else s1) := by
  refine (pin2_ret0 w ref slot st n idx X pin live s0 s1 hp l0 (f + 2)).trans ?_
  refine (pin2_ret1 w ref slot st n idx X pin live (if pin.getD 0 false = true then s0 ++ [(w, slot)] else s0) s1 hp l1 (f + 1)).trans ?_
  rw [tendrillaw07_ArenaPinned_2_L62, cf (by decide)]
set_option maxHeartbeats 0 in
set_option maxRecDepth 10000 in
theorem pin2_steps (st : List Int) (hm : st.length ≤ 120) (hst : ∀ v ∈ st, v ≤ 9223372036854775807) : ∀ (d K i : Nat) (s : Sh) (pin : List Bool) (live : Row) (s0 s1 : Row), i + d = st.length → d * 1000 + 1 ≤ K → Inv 2 i s pin live [s0, s1] →
    tendrillaw07_ArenaPinned_2_L26 K 2 st st.length i s.1 s.2.1 s.2.2.1.1.1 s.2.2.1.1.2.1 s.2.2.1.1.2.2.1 s.2.2.1.1.2.2.2 s.2.2.1.2.1.1 s.2.2.1.2.1.2.1 s.2.2.1.2.1.2.2.1 s.2.2.1.2.1.2.2.2 s.2.2.1.2.2.1 s.2.2.1.2.2.2.1 s.2.2.1.2.2.2.2.1 s.2.2.1.2.2.2.2.2 s.2.2.2.1 s.2.2.2.2 pin live s0 s1 = some true
  | 0, K, i, s, pin, live, s0, s1, hd, hK, I => by
    obtain ⟨K, rfl⟩ : ∃ K', K = K' + 1 := ⟨K - 1, by omega⟩
    rw [tendrillaw07_ArenaPinned_2_L26, cf (by omega), etaS, pcheckA_eq s I.few, chk_pos I.ok]
    rfl
  | d + 1, K, i, s, pin, live, s0, s1, hd, hK, I => by
    have ih := pin2_steps st hm hst d
    obtain ⟨K, rfl⟩ : ∃ K', K = K' + 1 := ⟨K - 1, by omega⟩
    have l0 : s0.length ≤ i := I.lr 0 (by omega)
    have l1 : s1.length ≤ i := I.lr 1 (by omega)
    have hl := I.ll
    rw [tendrillaw07_ArenaPinned_2_L26, ct (by omega), ct (by omega), ct (by omega), Int.toNat_natCast]
    have hv := hst (st.getD i 0) (by rw [getD_get st i 0 (by omega)]; exact List.getElem_mem _)
    generalize st.getD i 0 = v at hv ⊢
    by_cases a : v < 0
    · rw [ct a]
    rw [cf a, cf (by decide)]
    have hA0 : 0 ≤ wrap64 (v.tdiv 6) := by rw [(tdm v 6 (by omega)).1, w64 (by omega) (by omega)]; omega
    have hA1 : wrap64 (v.tdiv 6) ≤ 9223372036854775807 := by rw [(tdm v 6 (by omega)).1, w64 (by omega) (by omega)]; omega
    generalize wrap64 (v.tdiv 6) = A at hA0 hA1 ⊢
    have w3 : wrap64 (A % 3 + 1) = A % 3 + 1 := w64 (by omega) (by omega)
    rw [show A.tmod 2 = A % 2 from (tdm A 2 hA0).2, show A.tmod 3 = A % 3 from (tdm A 3 hA0).2]
    have t0 : 0 ≤ A % 2 := by omega
    have t1 : A % 2 < 2 := by omega
    rw [eqc]
    by_cases c0 : v.tmod 6 = 0
    · rw [if_pos c0]
      clear w3
      generalize A % 2 = t at t0 t1 ⊢
      rw [etaS, ppinA_eq s t I.few, Option.bind_some, eqc]
      by_cases e : (pinA s t).2 = 0
      · rw [if_pos e, ct t0, ct (by rw [I.lb]; exact t1), wi (by omega)]
        rcases (show t = 0 ∨ t = 1 by omega) with rfl | rfl
        · rw [cf (by decide), ct (by decide)]
          exact ih K (i + 1) (pinA s 0).1 _ live [] s1 (by omega) (by omega) ((inv_pin I e).more (by omega))
        · rw [ct (by decide)]
          exact ih K (i + 1) (pinA s 1).1 _ live s0 [] (by omega) (by omega) ((inv_pin I e).more (by omega))
      · rw [if_neg e, wi (by omega)]
        exact ih K (i + 1) s pin live s0 s1 (by omega) (by omega) (I.more (by omega))
    rw [if_neg c0, eqc]
    by_cases c1 : v.tmod 6 = 1
    · rw [if_pos c1]
      clear w3
      generalize A % 2 = t at t0 t1 ⊢
      rw [etaS, pendA_eq s t I.few, Option.bind_some, eqc]
      by_cases e : (endA s t).2 = 0
      · rw [if_pos e, ct t0, ct (by rw [I.lb]; exact t1), wi (by omega)]
        exact ih K (i + 1) (endA s t).1 _ live s0 s1 (by omega) (by omega) ((inv_end I e).more (by omega))
      · rw [if_neg e, wi (by omega)]
        exact ih K (i + 1) s pin live s0 s1 (by omega) (by omega) (I.more (by omega))
    rw [if_neg c1, eqc]
    by_cases c2 : v.tmod 6 = 2
    · rw [if_pos c2, etaS, pturnA_eq s I.few, Option.bind_some, wi (by omega)]
      exact ih K (i + 1) (turnA s).1 pin live s0 s1 (by omega) (by omega) ((inv_turn I).more (by omega))
    rw [if_neg c2, eqc]
    by_cases c3 : v.tmod 6 = 3
    · rw [if_pos c3]
      rw [w3, etaS, ptakeA_eq s (A % 3 + 1) I.few, Option.bind_some, nec]
      by_cases e : (takeA s (A % 3 + 1)).2.2 = 0
      · rw [if_pos e]
        obtain ⟨hr, hu, J, hne⟩ := inv_take I e
        rw [unpack_eq _ hr, Option.bind_some, nec, if_pos hu]
        obtain ⟨f, hf, e2⟩ := pin2_take (A % 3 + 1) (takeA s (A % 3 + 1)).2.1 (unpackV (takeA s (A % 3 + 1)).2.1).1 st st.length i (takeA s (A % 3 + 1)).1 pin live s0 s1 I.lb (by omega) (by omega) (hne 0 (by omega)) (by omega) (hne 1 (by omega)) K (by omega)
        refine e2.trans ?_
        rw [wi (by omega)]
        exact ih f (i + 1) _ _ _ s0 s1 (by omega) (by omega) J
      · rw [if_neg e, wi (by omega)]
        exact ih K (i + 1) s pin live s0 s1 (by omega) (by omega) (I.more (by omega))

    rw [if_neg c3, eqc]
    by_cases c4 : v.tmod 6 = 4
    · rw [if_pos c4]
      rw [w3, etaS, ptakeA_eq s (A % 3 + 1) I.few, Option.bind_some, nec]
      by_cases e : (takeA s (A % 3 + 1)).2.2 = 0
      · rw [if_pos e]
        obtain ⟨hr, hu, J, hne⟩ := inv_take I e
        rw [unpack_eq _ hr, Option.bind_some, nec, if_pos hu]
        obtain ⟨f, hf, e2⟩ := pin2_take (A % 3 + 1) (takeA s (A % 3 + 1)).2.1 (unpackV (takeA s (A % 3 + 1)).2.1).1 st st.length i (takeA s (A % 3 + 1)).1 pin live s0 s1 I.lb (by omega) (by omega) (hne 0 (by omega)) (by omega) (hne 1 (by omega)) K (by omega)
        refine e2.trans ?_
        rw [wi (by omega)]
        exact ih f (i + 1) _ _ _ s0 s1 (by omega) (by omega) J
      · rw [if_neg e, wi (by omega)]
        exact ih K (i + 1) s pin live s0 s1 (by omega) (by omega) (I.more (by omega))

    rw [if_neg c4, eqc]
    by_cases z : (live.length : Int) = 0
    · rw [if_pos z, wi (by omega)]
      exact ih K (i + 1) s pin live s0 s1 (by omega) (by omega) (I.more (by omega))
    rw [if_neg z, cf z]
    have b0 : 0 ≤ A.tmod (live.length : Int) := by rw [(tdm A live.length hA0).2]; exact Int.emod_nonneg _ z
    have b1 : A.tmod (live.length : Int) < (live.length : Int) := by rw [(tdm A live.length hA0).2]; exact Int.emod_lt_of_pos _ (by omega)
    generalize A.tmod (live.length : Int) = b at b0 b1 ⊢
    obtain ⟨b, rfl⟩ := Int.eq_ofNat_of_zero_le b0
    have hb : b < live.length := by omega
    rw [wi (by omega)]
    simp only [Int.toNat_natCast]
    rw [ct (by omega), ct (by omega), ct (by omega), ct (by omega), ct (by simp; omega), ct (by omega), ct (by omega), ct (by simp; omega)]
    obtain ⟨y, hy⟩ : ∃ y, live.getD b (0, 0) = y := ⟨_, rfl⟩
    rw [hy, List.drop_zero, List.take_length]
    obtain ⟨r1, r2, r3, J⟩ := inv_ret (seen' := [(if pin.getD 0 false = true then s0 ++ [(y.1, (unpackV y.2).1)] else s0), (if pin.getD 1 false = true then s1 ++ [(y.1, (unpackV y.2).1)] else s1)]) I hb hy rfl (fun j hj => by
      rcases (show j = 0 ∨ j = 1 by omega) with rfl | rfl <;> rfl)
    rw [etaS, pretA_eq s y.1 y.2 I.few r1, Option.bind_some, unpack_eq _ r1, Option.bind_some, nec, if_pos r3, nec, if_pos r2]
    obtain ⟨f, rfl⟩ : ∃ f, K = f + 3 := ⟨K - 3, by omega⟩
    refine (pin2_ret y.1 y.2 (unpackV y.2).1 st st.length i (retA s y.1 y.2).1 pin (live.take b ++ live.drop (b + 1)) s0 s1 I.lb (by omega) (by omega) f).trans ?_
    rw [wi (by omega)]
    exact ih f (i + 1) _ _ _ _ _ (by omega) (by omega) J

theorem pin2 (K : Nat) (hK : 130000 ≤ K) (x : (Int × Int × Int × Int × Int) × List Int) (hx : ∀ v ∈ x.2, v ≤ 9223372036854775807) : tendrillaw07_ArenaPinned_2_K K x = some true := by
  obtain ⟨c, st⟩ := x
  unfold tendrillaw07_ArenaPinned_2_K
  rw [live7_eq, Option.bind_some, Bool.not_true, cond_false]
  by_cases h : (120 : Int) < (st.length : Int)
  · rw [ct h]
  rw [cf h, show ((c.1, c.2.1, c.2.2.1, c.2.2.2.1, c.2.2.2.2) : Int × Int × Int × Int × Int) = c from rfl, pnewA_eq, Option.bind_some, nec]
  by_cases e : (newA c 2).2 = 0
  · rw [if_pos e]
    exact pin2_steps st (by omega) hx st.length K 0 (newA c 2).1 _ [] [] [] (by omega) (by omega) (inv_new (n := 2) e)
  · rw [if_neg e, newA_no e]
    rfl

/-! ### 3 -/
theorem pin3_row0 (w ref slot : Int) (st : List Int) (n idx : Int) (X : Sh) (pin : List Bool) (live : Row) (s0 s1 s2 : Row) (hl : s0.length ≤ 1000) (hp : pin.length = 3) (hx : pin.getD 0 false = true → ∀ x ∈ s0, ¬ (x.1 = w ∧ x.2 = slot)) : ∀ (d m f : Nat), m + d = s0.length →
    tendrillaw07_ArenaPinned_3_L122x2 (f + d + 1) 3 w ref slot 0 st n idx (((3 : Nat) : Int)) 0 (s0.length : Int) (m : Int) X.1 X.2.1 X.2.2.1.1.1 X.2.2.1.1.2.1 X.2.2.1.1.2.2.1 X.2.2.1.1.2.2.2 X.2.2.1.2.1.1 X.2.2.1.2.1.2.1 X.2.2.1.2.1.2.2.1 X.2.2.1.2.1.2.2.2 X.2.2.1.2.2.1 X.2.2.1.2.2.2.1 X.2.2.1.2.2.2.2.1 X.2.2.1.2.2.2.2.2 X.2.2.2.1 X.2.2.2.2 pin live s0 s1 s2 = tendrillaw07_ArenaPinned_3_L116 f 3 w ref slot st n idx (((3 : Nat) : Int)) 1 X.1 X.2.1 X.2.2.1.1.1 X.2.2.1.1.2.1 X.2.2.1.1.2.2.1 X.2.2.1.1.2.2.2 X.2.2.1.2.1.1 X.2.2.1.2.1.2.1 X.2.2.1.2.1.2.2.1 X.2.2.1.2.1.2.2.2 X.2.2.1.2.2.1 X.2.2.1.2.2.2.1 X.2.2.1.2.2.2.2.1 X.2.2.1.2.2.2.2.2 X.2.2.2.1 X.2.2.2.2 pin live s0 s1 s2
  | 0, m, f, h => by
    rw [tendrillaw07_ArenaPinned_3_L122x2, cf (by omega), show wrap64 ((0 : Int) + 1) = 1 by rw [w64 (by decide) (by decide)]; rfl]
  | d + 1, m, f, h => by
    rw [show f + (d + 1) + 1 = (f + d + 1) + 1 by omega, tendrillaw07_ArenaPinned_3_L122x2, ct (by omega), ct (by omega), ct (by omega), ct (by decide), ct (by rw [hp]; decide), show Int.toNat (0 : Int) = 0 from rfl]
    have ih := pin3_row0 w ref slot st n idx X pin live s0 s1 s2 hl hp hx d (m + 1) f (by omega)
    by_cases hb : pin.getD 0 false = true
    · rw [hb, cond_true, Int.toNat_natCast]
      have hn := hx hb (s0.getD m (0, 0)) (by rw [getD_get s0 m _ (by omega)]; exact List.getElem_mem _)
      rw [no2 hn, cond_false, wi (by omega)]
      exact ih
    · rw [show pin.getD 0 false = false by simpa using hb, cond_false, wi (by omega)]
      exact ih
theorem pin3_row1 (w ref slot : Int) (st : List Int) (n idx : Int) (X : Sh) (pin : List Bool) (live : Row) (s0 s1 s2 : Row) (hl : s1.length ≤ 1000) (hp : pin.length = 3) (hx : pin.getD 1 false = true → ∀ x ∈ s1, ¬ (x.1 = w ∧ x.2 = slot)) : ∀ (d m f : Nat), m + d = s1.length →
    tendrillaw07_ArenaPinned_3_L122x1 (f + d + 1) 3 w ref slot 1 st n idx (((3 : Nat) : Int)) 1 (s1.length : Int) (m : Int) X.1 X.2.1 X.2.2.1.1.1 X.2.2.1.1.2.1 X.2.2.1.1.2.2.1 X.2.2.1.1.2.2.2 X.2.2.1.2.1.1 X.2.2.1.2.1.2.1 X.2.2.1.2.1.2.2.1 X.2.2.1.2.1.2.2.2 X.2.2.1.2.2.1 X.2.2.1.2.2.2.1 X.2.2.1.2.2.2.2.1 X.2.2.1.2.2.2.2.2 X.2.2.2.1 X.2.2.2.2 pin live s1 s0 s2 = tendrillaw07_ArenaPinned_3_L116 f 3 w ref slot st n idx (((3 : Nat) : Int)) 2 X.1 X.2.1 X.2.2.1.1.1 X.2.2.1.1.2.1 X.2.2.1.1.2.2.1 X.2.2.1.1.2.2.2 X.2.2.1.2.1.1 X.2.2.1.2.1.2.1 X.2.2.1.2.1.2.2.1 X.2.2.1.2.1.2.2.2 X.2.2.1.2.2.1 X.2.2.1.2.2.2.1 X.2.2.1.2.2.2.2.1 X.2.2.1.2.2.2.2.2 X.2.2.2.1 X.2.2.2.2 pin live s0 s1 s2
  | 0, m, f, h => by
    rw [tendrillaw07_ArenaPinned_3_L122x1, cf (by omega), show wrap64 ((1 : Int) + 1) = 2 by rw [w64 (by decide) (by decide)]; rfl]
  | d + 1, m, f, h => by
    rw [show f + (d + 1) + 1 = (f + d + 1) + 1 by omega, tendrillaw07_ArenaPinned_3_L122x1, ct (by omega), ct (by omega), ct (by omega), ct (by decide), ct (by rw [hp]; decide), show Int.toNat (1 : Int) = 1 from rfl]
    have ih := pin3_row1 w ref slot st n idx X pin live s0 s1 s2 hl hp hx d (m + 1) f (by omega)
    by_cases hb : pin.getD 1 false = true
    · rw [hb, cond_true, Int.toNat_natCast]
      have hn := hx hb (s1.getD m (0, 0)) (by rw [getD_get s1 m _ (by omega)]; exact List.getElem_mem _)
      rw [no2 hn, cond_false, wi (by omega)]
      exact ih
    · rw [show pin.getD 1 false = false by simpa using hb, cond_false, wi (by omega)]
      exact ih
theorem pin3_row2 (w ref slot : Int) (st : List Int) (n idx : Int) (X : Sh) (pin : List Bool) (live : Row) (s0 s1 s2 : Row) (hl : s2.length ≤ 1000) (hp : pin.length = 3) (hx : pin.getD 2 false = true → ∀ x ∈ s2, ¬ (x.1 = w ∧ x.2 = slot)) : ∀ (d m f : Nat), m + d = s2.length →
    tendrillaw07_ArenaPinned_3_L122 (f + d + 1) 3 w ref slot 2 st n idx (((3 : Nat) : Int)) 2 (s2.length : Int) (m : Int) X.1 X.2.1 X.2.2.1.1.1 X.2.2.1.1.2.1 X.2.2.1.1.2.2.1 X.2.2.1.1.2.2.2 X.2.2.1.2.1.1 X.2.2.1.2.1.2.1 X.2.2.1.2.1.2.2.1 X.2.2.1.2.1.2.2.2 X.2.2.1.2.2.1 X.2.2.1.2.2.2.1 X.2.2.1.2.2.2.2.1 X.2.2.1.2.2.2.2.2 X.2.2.2.1 X.2.2.2.2 pin live s2 s0 s1 = tendrillaw07_ArenaPinned_3_L116 f 3 w ref slot st n idx (((3 : Nat) : Int)) 3 X.1 X.2.1 X.2.2.1.1.1 X.2.2.1.1.2.1 X.2.2.1.1.2.2.1 X.2.2.1.1.2.2.2 X.2.2.1.2.1.1 X.2.2.1.2.1.2.1 X.2.2.1.2.1.2.2.1 X.2.2.1.2.1.2.2.2 X.2.2.1.2.2.1 X.2.2.1.2.2.2.1 X.2.2.1.2.2.2.2.1 X.2.2.1.2.2.2.2.2 X.2.2.2.1 X.2.2.2.2 pin live s0 s1 s2
  | 0, m, f, h => by
    rw [tendrillaw07_ArenaPinned_3_L122, cf (by omega), show wrap64 ((2 : Int) + 1) = 3 by rw [w64 (by decide) (by decide)]; rfl]
  | d + 1, m, f, h => by
    rw [show f + (d + 1) + 1 = (f + d + 1) + 1 by omega, tendrillaw07_ArenaPinned_3_L122, ct (by omega), ct (by omega), ct (by omega), ct (by decide), ct (by rw [hp]; decide), show Int.toNat (2 : Int) = 2 from rfl]
    have ih := pin3_row2 w ref slot st n idx X pin live s0 s1 s2 hl hp hx d (m + 1) f (by omega)
    by_cases hb : pin.getD 2 false = true
    · rw [hb, cond_true, Int.toNat_natCast]
      have hn := hx hb (s2.getD m (0, 0)) (by rw [getD_get s2 m _ (by omega)]; exact List.getElem_mem _)
      rw [no2 hn, cond_false, wi (by omega)]
      exact ih
    · rw [show pin.getD 2 false = false by simpa using hb, cond_false, wi (by omega)]
      exact ih
theorem pin3_take (w ref slot : Int) (st : List Int) (n idx : Int) (X : Sh) (pin : List Bool) (live : Row) (s0 s1 s2 : Row) (hp : pin.length = 3) (hL : live.length ≤ 1000) (l0 : s0.length ≤ 1000) (h0 : pin.getD 0 false = true → ∀ x ∈ s0, ¬ (x.1 = w ∧ x.2 = slot)) (l1 : s1.length ≤ 1000) (h1 : pin.getD 1 false = true → ∀ x ∈ s1, ¬ (x.1 = w ∧ x.2 = slot)) (l2 : s2.length ≤ 1000) (h2 : pin.getD 2 false = true → ∀ x ∈ s2, ¬ (x.1 = w ∧ x.2 = slot)) (K : Nat) (hK : (s0.length + 2) + (s1.length + 2) + (s2.length + 2) + 1 ≤ K) :
    ∃ f, f + (s0.length + 2) + (s1.length + 2) + (s2.length + 2) + 1 = K ∧ tendrillaw07_ArenaPinned_3_L116 K 3 w ref slot st n idx (((3 : Nat) : Int)) 0 X.1 X.2.1 X.2.2.1.1.1 X.2.2.1.1.2.1 X.2.2.1.1.2.2.1 X.2.2.1.1.2.2.2 X.2.2.1.2.1.1 X.2.2.1.2.1.2.1 X.2.2.1.2.1.2.2.1 X.2.2.1.2.1.2.2.2 X.2.2.1.2.2.1 X.2.2.1.2.2.2.1 X.2.2.1.2.2.2.2.1 X.2.2.1.2.2.2.2.2 X.2.2.2.1 X.2.2.2.2 pin live s0 s1 s2 = tendrillaw07_ArenaPinned_3_L26 f 3 st n (wrap64 (idx + 1)) X.1 X.2.1 X.2.2.1.1.1 X.2.2.1.1.2.1 X.2.2.1.1.2.2.1 X.2.2.1.1.2.2.2 X.2.2.1.2.1.1 X.2.2.1.2.1.2.1 X.2.2.1.2.1.2.2.1 X.2.2.1.2.1.2.2.2 X.2.2.1.2.2.1 X.2.2.1.2.2.2.1 X.2.2.1.2.2.2.2.1 X.2.2.1.2.2.2.2.2 X.2.2.2.1 X.2.2.2.2 pin (live ++ [(w, ref)]) s0 s1 s2 := by
  obtain ⟨f, rfl⟩ : ∃ f, K = (((f + 1 + s2.length + 1) + 1 + s1.length + 1) + 1 + s0.length + 1) + 1 := ⟨K - ((s0.length + 2) + (s1.length + 2) + (s2.length + 2) + 1), by omega⟩
  refine ⟨f, by omega, ?_⟩
  rw [tendrillaw07_ArenaPinned_3_L116, ct (by decide), cf (by decide), cf (by decide), ct (by decide)]
  refine (pin3_row0 w ref slot st n idx X pin live s0 s1 s2 l0 hp h0 s0.length 0 _ (by omega)).trans ?_
  rw [tendrillaw07_ArenaPinned_3_L116, ct (by decide), cf (by decide), ct (by decide)]
  refine (pin3_row1 w ref slot st n idx X pin live s0 s1 s2 l1 hp h1 s1.length 0 _ (by omega)).trans ?_
  rw [tendrillaw07_ArenaPinned_3_L116, ct (by decide), ct (by decide)]
  refine (pin3_row2 w ref slot st n idx X pin live s0 s1 s2 l2 hp h2 s2.length 0 _ (by omega)).trans ?_
  rw [tendrillaw07_ArenaPinned_3_L116, cf (by decide), ct (by simp only [List.length_cons, List.length_nil]; omega)]
theorem pin3_ret0 (w ref slot : Int) (st : List Int) (n idx : Int) (X : Sh) (pin : List Bool) (live : Row) (s0 s1 s2 : Row) (hp : pin.length = 3) (hl : s0.length ≤ 1000) (f : Nat) :
    tendrillaw07_ArenaPinned_3_L62 (f + 1) 3 slot st n idx (((3 : Nat) : Int)) 0 X.1 X.2.1 X.2.2.1.1.1 X.2.2.1.1.2.1 X.2.2.1.1.2.2.1 X.2.2.1.1.2.2.2 X.2.2.1.2.1.1 X.2.2.1.2.1.2.1 X.2.2.1.2.1.2.2.1 X.2.2.1.2.1.2.2.2 X.2.2.1.2.2.1 X.2.2.1.2.2.2.1 X.2.2.1.2.2.2.2.1 X.2.2.1.2.2.2.2.2 X.2.2.2.1 X.2.2.2.2 pin live w ref s0 s1 s2 = tendrillaw07_ArenaPinned_3_L62 f 3 slot st n idx (((3 : Nat) : Int)) 1 X.1 X.2.1 X.2.2.1.1.1 X.2.2.1.1.2.1 X.2.2.1.1.2.2.1 X.2.2.1.1.2.2.2 X.2.2.1.2.1.1 X.2.2.1.2.1.2.1 X.2.2.1.2.1.2.2.1 X.2.2.1.2.1.2.2.2 X.2.2.1.2.2.1 X.2.2.1.2.2.2.1 X.2.2.1.2.2.2.2.1 X.2.2.1.2.2.2.2.2 X.2.2.2.1 X.2.2.2.2 pin live w ref (if pin.getD 0 false = true then s0 ++ [(w, slot)] else s0) s1 s2 := by
  rw [tendrillaw07_ArenaPinned_3_L62, ct (by decide), ct (by decide), ct (by rw [hp]; decide), show Int.toNat (0 : Int) = 0 from rfl, show wrap64 ((0 : Int) + 1) = 1 by rw [w64 (by decide) (by decide)]; rfl]
  by_cases hb : pin.getD 0 false = true
  · rw [if_pos hb, hb, cond_true, cf (by decide), cf (by decide), ct (by decide), ct (by simp only [List.length_cons, List.length_nil]; omega), cf (by decide), cf (by decide), ct (by decide)]
  · rw [if_neg hb, show pin.getD 0 false = false by simpa using hb, cond_false]
theorem pin3_ret1 (w ref slot : Int) (st : List Int) (n idx : Int) (X : Sh) (pin : List Bool) (live : Row) (s0 s1 s2 : Row) (hp : pin.length = 3) (hl : s1.length ≤ 1000) (f : Nat) :
    tendrillaw07_ArenaPinned_3_L62 (f + 1) 3 slot st n idx (((3 : Nat) : Int)) 1 X.1 X.2.1 X.2.2.1.1.1 X.2.2.1.1.2.1 X.2.2.1.1.2.2.1 X.2.2.1.1.2.2.2 X.2.2.1.2.1.1 X.2.2.1.2.1.2.1 X.2.2.1.2.1.2.2.1 X.2.2.1.2.1.2.2.2 X.2.2.1.2.2.1 X.2.2.1.2.2.2.1 X.2.2.1.2.2.2.2.1 X.2.2.1.2.2.2.2.2 X.2.2.2.1 X.2.2.2.2 pin live w ref s0 s1 s2 = tendrillaw07_ArenaPinned_3_L62 f 3 slot st n idx (((3 : Nat) : Int)) 2 X.1 X.2.1 X.2.2.1.1.1 X.2.2.1.1.2.1 X.2.2.1.1.2.2.1 X.2.2.1.1.2.2.2 X.2.2.1.2.1.1 X.2.2.1.2.1.2.1 X.2.2.1.2.1.2.2.1 X.2.2.1.2.1.2.2.2 X.2.2.1.2.2.1 X.2.2.1.2.2.2.1 X.2.2.1.2.2.2.2.1 X.2.2.1.2.2.2.2.2 X.2.2.2.1 X.2.2.2.2 pin live w ref s0 (if pin.getD 1 false = true then s1 ++ [(w, slot)] else s1) s2 := by
  rw [tendrillaw07_ArenaPinned_3_L62, ct (by decide), ct (by decide), ct (by rw [hp]; decide), show Int.toNat (1 : Int) = 1 from rfl, show wrap64 ((1 : Int) + 1) = 2 by rw [w64 (by decide) (by decide)]; rfl]
  by_cases hb : pin.getD 1 false = true
  · rw [if_pos hb, hb, cond_true, cf (by decide), ct (by decide), ct (by simp only [List.length_cons, List.length_nil]; omega), cf (by decide), ct (by decide)]
  · rw [if_neg hb, show pin.getD 1 false = false by simpa using hb, cond_false]
theorem pin3_ret2 (w ref slot : Int) (st : List Int) (n idx : Int) (X : Sh) (pin : List Bool) (live : Row) (s0 s1 s2 : Row) (hp : pin.length = 3) (hl : s2.length ≤ 1000) (f : Nat) :
    tendrillaw07_ArenaPinned_3_L62 (f + 1) 3 slot st n idx (((3 : Nat) : Int)) 2 X.1 X.2.1 X.2.2.1.1.1 X.2.2.1.1.2.1 X.2.2.1.1.2.2.1 X.2.2.1.1.2.2.2 X.2.2.1.2.1.1 X.2.2.1.2.1.2.1 X.2.2.1.2.1.2.2.1 X.2.2.1.2.1.2.2.2 X.2.2.1.2.2.1 X.2.2.1.2.2.2.1 X.2.2.1.2.2.2.2.1 X.2.2.1.2.2.2.2.2 X.2.2.2.1 X.2.2.2.2 pin live w ref s0 s1 s2 = tendrillaw07_ArenaPinned_3_L62 f 3 slot st n idx (((3 : Nat) : Int)) 3 X.1 X.2.1 X.2.2.1.1.1 X.2.2.1.1.2.1 X.2.2.1.1.2.2.1 X.2.2.1.1.2.2.2 X.2.2.1.2.1.1 X.2.2.1.2.1.2.1 X.2.2.1.2.1.2.2.1 X.2.2.1.2.1.2.2.2 X.2.2.1.2.2.1 X.2.2.1.2.2.2.1 X.2.2.1.2.2.2.2.1 X.2.2.1.2.2.2.2.2 X.2.2.2.1 X.2.2.2.2 pin live w ref s0 s1 (if pin.getD 2 false = true then s2 ++ [(w, slot)] else s2) := by
  rw [tendrillaw07_ArenaPinned_3_L62, ct (by decide), ct (by decide), ct (by rw [hp]; decide), show Int.toNat (2 : Int) = 2 from rfl, show wrap64 ((2 : Int) + 1) = 3 by rw [w64 (by decide) (by decide)]; rfl]
  by_cases hb : pin.getD 2 false = true
  · rw [if_pos hb, hb, cond_true, ct (by decide), ct (by simp only [List.length_cons, List.length_nil]; omega), ct (by decide)]
  · rw [if_neg hb, show pin.getD 2 false = false by simpa using hb, cond_false]
theorem pin3_ret (w ref slot : Int) (st : List Int) (n idx : Int) (X : Sh) (pin : List Bool) (live : Row) (s0 s1 s2 : Row) (hp : pin.length = 3) (l0 : s0.length ≤ 1000) (l1 : s1.length ≤ 1000) (l2 : s2.length ≤ 1000) (f : Nat) :
    tendrillaw07_ArenaPinned_3_L62 (f + 4) 3 slot st n idx (((3 : Nat) : Int)) 0 X.1 X.2.1 X.2.2.1.1.1 X.2.2.1.1.2.1 X.2.2.1.1.2.2.1 X.2.2.1.1.2.2.2 X.2.2.1.2.1.1 X.2.2.1.2.1.2.1 X.2.2.1.2.1.2.2.1 X.2.2.1.2.1.2.2.2 X.2.2.1.2.2.1 X.2.2.1.2.2.2.1 X.2.2.1.2.2.2.2.1 X.2.2.1.2.2.2.2.2 X.2.2.2.1 X.2.2.2.2 pin live w ref s0 s1 s2 = tendrillaw07_ArenaPinned_3_L26 f 3 st n (wrap64 (idx + 1)) X.1 X.2.1 X.2.2.1.1.1 X.2.2.1.1.2.1 X.2.2.1.1.2.2.1 X.2.2.1.1.2.2.2 X.2.2.1.2.1.1 X.2.2.1.2.1.2.1 X.2.2.1.2.1.2.2.1 X.2.2.1.2.1.2.2.2 X.2.2.1.2.2.1 X.2.2.1.2.2.2.1 X.2.2.1.2.2.2.2.1 X.2.2.1.2.2.2.2.2 X.2.2.2.1 X.2.2.2.2 pin live (if pin.getD 0 false = true then s0 ++ [(w, slot)] else s0) (if pin.getD 1 false = true then s1 ++ [(w, slot)] else s1) (if pin.getD 2 false = true then s2 ++ [(w, slot)] else s2) := by
  refine (pin3_ret0 w ref slot st n idx X pin live s0 s1 s2 hp l0 (f + 3)).trans ?_
  refine (pin3_ret1 w ref slot st n idx X pin live (if pin.getD 0 false = true then s0 ++ [(w, slot)] else s0) s1 s2 hp l1 (f + 2)).trans ?_
  refine (pin3_ret2 w ref slot st n idx X pin live (if pin.getD 0 false = true then s0 ++ [(w, slot)] else s0) (if pin.getD 1 false = true then s1 ++ [(w, slot)] else s1) s2 hp l2 (f + 1)).trans ?_
  rw [tendrillaw07_ArenaPinned_3_L62, cf (by decide)]
set_option maxHeartbeats 0 in
set_option maxRecDepth 10000 in
theorem pin3_steps (st : List Int) (hm : st.length ≤ 120) (hst : ∀ v ∈ st, v ≤ 9223372036854775807) : ∀ (d K i : Nat) (s : Sh) (pin : List Bool) (live : Row) (s0 s1 s2 : Row), i + d = st.length → d * 1000 + 1 ≤ K → Inv 3 i s pin live [s0, s1, s2] →
    tendrillaw07_ArenaPinned_3_L26 K 3 st st.length i s.1 s.2.1 s.2.2.1.1.1 s.2.2.1.1.2.1 s.2.2.1.1.2.2.1 s.2.2.1.1.2.2.2 s.2.2.1.2.1.1 s.2.2.1.2.1.2.1 s.2.2.1.2.1.2.2.1 s.2.2.1.2.1.2.2.2 s.2.2.1.2.2.1 s.2.2.1.2.2.2.1 s.2.2.1.2.2.2.2.1 s.2.2.1.2.2.2.2.2 s.2.2.2.1 s.2.2.2.2 pin live s0 s1 s2 = some true
  | 0, K, i, s, pin, live, s0, s1, s2, hd, hK, I => by
    obtain ⟨K, rfl⟩ : ∃ K', K = K' + 1 := ⟨K - 1, by omega⟩
    rw [tendrillaw07_ArenaPinned_3_L26, cf (by omega), etaS, pcheckA_eq s I.few, chk_pos I.ok]
    rfl
  | d + 1, K, i, s, pin, live, s0, s1, s2, hd, hK, I => by
    have ih := pin3_steps st hm hst d
    obtain ⟨K, rfl⟩ : ∃ K', K = K' + 1 := ⟨K - 1, by omega⟩
    have l0 : s0.length ≤ i := I.lr 0 (by omega)
    have l1 : s1.length ≤ i := I.lr 1 (by omega)
    have l2 : s2.length ≤ i := I.lr 2 (by omega)
    have hl := I.ll
    rw [tendrillaw07_ArenaPinned_3_L26, ct (by omega), ct (by omega), ct (by omega), Int.toNat_natCast]
    have hv := hst (st.getD i 0) (by rw [getD_get st i 0 (by omega)]; exact List.getElem_mem _)
    generalize st.getD i 0 = v at hv ⊢
    by_cases a : v < 0
    · rw [ct a]
    rw [cf a, cf (by decide)]
    have hA0 : 0 ≤ wrap64 (v.tdiv 6) := by rw [(tdm v 6 (by omega)).1, w64 (by omega) (by omega)]; omega
    have hA1 : wrap64 (v.tdiv 6) ≤ 9223372036854775807 := by rw [(tdm v 6 (by omega)).1, w64 (by omega) (by omega)]; omega
    generalize wrap64 (v.tdiv 6) = A at hA0 hA1 ⊢
    have w3 : wrap64 (A % 3 + 1) = A % 3 + 1 := w64 (by omega) (by omega)
    rw [show A.tmod 3 = A % 3 from (tdm A 3 hA0).2]
    have t0 : 0 ≤ A % 3 := by omega
    have t1 : A % 3 < 3 := by omega
    rw [eqc]
    by_cases c0 : v.tmod 6 = 0
    · rw [if_pos c0]
      clear w3
      generalize A % 3 = t at t0 t1 ⊢
      rw [etaS, ppinA_eq s t I.few, Option.bind_some, eqc]
      by_cases e : (pinA s t).2 = 0
      · rw [if_pos e, ct t0, ct (by rw [I.lb]; exact t1), wi (by omega)]
        rcases (show t = 0 ∨ t = 1 ∨ t = 2 by omega) with rfl | rfl | rfl
        · rw [cf (by decide), cf (by decide), ct (by decide)]
          exact ih K (i + 1) (pinA s 0).1 _ live [] s1 s2 (by omega) (by omega) ((inv_pin I e).more (by omega))
        · rw [cf (by decide), ct (by decide)]
          exact ih K (i + 1) (pinA s 1).1 _ live s0 [] s2 (by omega) (by omega) ((inv_pin I e).more (by omega))
        · rw [ct (by decide)]
          exact ih K (i + 1) (pinA s 2).1 _ live s0 s1 [] (by omega) (by omega) ((inv_pin I e).more (by omega))
      · rw [if_neg e, wi (by omega)]
        exact ih K (i + 1) s pin live s0 s1 s2 (by omega) (by omega) (I.more (by omega))
    rw [if_neg c0, eqc]
    by_cases c1 : v.tmod 6 = 1
    · rw [if_pos c1]
      clear w3
      generalize A % 3 = t at t0 t1 ⊢
      rw [etaS, pendA_eq s t I.few, Option.bind_some, eqc]
      by_cases e : (endA s t).2 = 0
      · rw [if_pos e, ct t0, ct (by rw [I.lb]; exact t1), wi (by omega)]
        exact ih K (i + 1) (endA s t).1 _ live s0 s1 s2 (by omega) (by omega) ((inv_end I e).more (by omega))
      · rw [if_neg e, wi (by omega)]
        exact ih K (i + 1) s pin live s0 s1 s2 (by omega) (by omega) (I.more (by omega))
    rw [if_neg c1, eqc]
    by_cases c2 : v.tmod 6 = 2
    · rw [if_pos c2, etaS, pturnA_eq s I.few, Option.bind_some, wi (by omega)]
      exact ih K (i + 1) (turnA s).1 pin live s0 s1 s2 (by omega) (by omega) ((inv_turn I).more (by omega))
    rw [if_neg c2, eqc]
    by_cases c3 : v.tmod 6 = 3
    · rw [if_pos c3]
      rw [w3, etaS, ptakeA_eq s (A % 3 + 1) I.few, Option.bind_some, nec]
      by_cases e : (takeA s (A % 3 + 1)).2.2 = 0
      · rw [if_pos e]
        obtain ⟨hr, hu, J, hne⟩ := inv_take I e
        rw [unpack_eq _ hr, Option.bind_some, nec, if_pos hu]
        obtain ⟨f, hf, e2⟩ := pin3_take (A % 3 + 1) (takeA s (A % 3 + 1)).2.1 (unpackV (takeA s (A % 3 + 1)).2.1).1 st st.length i (takeA s (A % 3 + 1)).1 pin live s0 s1 s2 I.lb (by omega) (by omega) (hne 0 (by omega)) (by omega) (hne 1 (by omega)) (by omega) (hne 2 (by omega)) K (by omega)
        refine e2.trans ?_
        rw [wi (by omega)]
        exact ih f (i + 1) _ _ _ s0 s1 s2 (by omega) (by omega) J
      · rw [if_neg e, wi (by omega)]
        exact ih K (i + 1) s pin live s0 s1 s2 (by omega) (by omega) (I.more (by omega))

    rw [if_neg c3, eqc]
    by_cases c4 : v.tmod 6 = 4
    · rw [if_pos c4]
      rw [w3, etaS, ptakeA_eq s (A % 3 + 1) I.few, Option.bind_some, nec]
      by_cases e : (takeA s (A % 3 + 1)).2.2 = 0
      · rw [if_pos e]
        obtain ⟨hr, hu, J, hne⟩ := inv_take I e
        rw [unpack_eq _ hr, Option.bind_some, nec, if_pos hu]
        obtain ⟨f, hf, e2⟩ := pin3_take (A % 3 + 1) (takeA s (A % 3 + 1)).2.1 (unpackV (takeA s (A % 3 + 1)).2.1).1 st st.length i (takeA s (A % 3 + 1)).1 pin live s0 s1 s2 I.lb (by omega) (by omega) (hne 0 (by omega)) (by omega) (hne 1 (by omega)) (by omega) (hne 2 (by omega)) K (by omega)
        refine e2.trans ?_
        rw [wi (by omega)]
        exact ih f (i + 1) _ _ _ s0 s1 s2 (by omega) (by omega) J
      · rw [if_neg e, wi (by omega)]
        exact ih K (i + 1) s pin live s0 s1 s2 (by omega) (by omega) (I.more (by omega))

    rw [if_neg c4, eqc]
    by_cases z : (live.length : Int) = 0
    · rw [if_pos z, wi (by omega)]
      exact ih K (i + 1) s pin live s0 s1 s2 (by omega) (by omega) (I.more (by omega))
    rw [if_neg z, cf z]
    have b0 : 0 ≤ A.tmod (live.length : Int) := by rw [(tdm A live.length hA0).2]; exact Int.emod_nonneg _ z
    have b1 : A.tmod (live.length : Int) < (live.length : Int) := by rw [(tdm A live.length hA0).2]; exact Int.emod_lt_of_pos _ (by omega)
    generalize A.tmod (live.length : Int) = b at b0 b1 ⊢
    obtain ⟨b, rfl⟩ := Int.eq_ofNat_of_zero_le b0
    have hb : b < live.length := by omega
    rw [wi (by omega)]
    simp only [Int.toNat_natCast]
    rw [ct (by omega), ct (by omega), ct (by omega), ct (by omega), ct (by simp; omega), ct (by omega), ct (by omega), ct (by simp; omega)]
    obtain ⟨y, hy⟩ : ∃ y, live.getD b (0, 0) = y := ⟨_, rfl⟩
    rw [hy, List.drop_zero, List.take_length]
    obtain ⟨r1, r2, r3, J⟩ := inv_ret (seen' := [(if pin.getD 0 false = true then s0 ++ [(y.1, (unpackV y.2).1)] else s0), (if pin.getD 1 false = true then s1 ++ [(y.1, (unpackV y.2).1)] else s1), (if pin.getD 2 false = true then s2 ++ [(y.1, (unpackV y.2).1)] else s2)]) I hb hy rfl (fun j hj => by
      rcases (show j = 0 ∨ j = 1 ∨ j = 2 by omega) with rfl | rfl | rfl <;> rfl)
    rw [etaS, pretA_eq s y.1 y.2 I.few r1, Option.bind_some, unpack_eq _ r1, Option.bind_some, nec, if_pos r3, nec, if_pos r2]
    obtain ⟨f, rfl⟩ : ∃ f, K = f + 4 := ⟨K - 4, by omega⟩
    refine (pin3_ret y.1 y.2 (unpackV y.2).1 st st.length i (retA s y.1 y.2).1 pin (live.take b ++ live.drop (b + 1)) s0 s1 s2 I.lb (by omega) (by omega) (by omega) f).trans ?_
    rw [wi (by omega)]
    exact ih f (i + 1) _ _ _ _ _ _ (by omega) (by omega) J

theorem pin3 (K : Nat) (hK : 130000 ≤ K) (x : (Int × Int × Int × Int × Int) × List Int) (hx : ∀ v ∈ x.2, v ≤ 9223372036854775807) : tendrillaw07_ArenaPinned_3_K K x = some true := by
  obtain ⟨c, st⟩ := x
  unfold tendrillaw07_ArenaPinned_3_K
  rw [live7_eq, Option.bind_some, Bool.not_true, cond_false]
  by_cases h : (120 : Int) < (st.length : Int)
  · rw [ct h]
  rw [cf h, show ((c.1, c.2.1, c.2.2.1, c.2.2.2.1, c.2.2.2.2) : Int × Int × Int × Int × Int) = c from rfl, pnewA_eq, Option.bind_some, nec]
  by_cases e : (newA c 3).2 = 0
  · rw [if_pos e]
    exact pin3_steps st (by omega) hx st.length K 0 (newA c 3).1 _ [] [] [] [] (by omega) (by omega) (inv_new (n := 3) e)
  · rw [if_neg e, newA_no e]
    rfl

/-! ### 4 -/
theorem pin4_row0 (w ref slot : Int) (st : List Int) (n idx : Int) (X : Sh) (pin : List Bool) (live : Row) (s0 s1 s2 s3 : Row) (hl : s0.length ≤ 1000) (hp : pin.length = 4) (hx : pin.getD 0 false = true → ∀ x ∈ s0, ¬ (x.1 = w ∧ x.2 = slot)) : ∀ (d m f : Nat), m + d = s0.length →
    tendrillaw07_ArenaPinned_4_L122x3 (f + d + 1) 4 w ref slot 0 st n idx (((4 : Nat) : Int)) 0 (s0.length : Int) (m : Int) X.1 X.2.1 X.2.2.1.1.1 X.2.2.1.1.2.1 X.2.2.1.1.2.2.1 X.2.2.1.1.2.2.2 X.2.2.1.2.1.1 X.2.2.1.2.1.2.1 X.2.2.1.2.1.2.2.1 X.2.2.1.2.1.2.2.2 X.2.2.1.2.2.1 X.2.2.1.2.2.2.1 X.2.2.1.2.2.2.2.1 X.2.2.1.2.2.2.2.2 X.2.2.2.1 X.2.2.2.2 pin live s0 s1 s2 s3 = tendrillaw07_ArenaPinned_4_L116 f 4 w ref slot st n idx (((4 : Nat) : Int)) 1 X.1 X.2.1 X.2.2.1.1.1 X.2.2.1.1.2.1 X.2.2.1.1.2.2.1 X.2.2.1.1.2.2.2 X.2.2.1.2.1.1 X.2.2.1.2.1.2.1 X.2.2.1.2.1.2.2.1 X.2.2.1.2.1.2.2.2 X.2.2.1.2.2.1 X.2.2.1.2.2.2.1 X.2.2.1.2.2.2.2.1 X.2.2.1.2.2.2.2.2 X.2.2.2.1 X.2.2.2.2 pin live s0 s1 s2 s3
  | 0, m, f, h => by
    rw [tendrillaw07_ArenaPinned_4_L122x3, cf (by omega), show wrap64 ((0 : Int) + 1) = 1 by rw [w64 (by decide) (by decide)]; rfl]
  | d + 1, m, f, h => by
    rw [show f + (d + 1) + 1 = (f + d + 1) + 1 by omega, tendrillaw07_ArenaPinned_4_L122x3, ct (by omega), ct (by omega), ct (by omega), ct (by decide), ct (by rw [hp]; decide), show Int.toNat (0 : Int) = 0 from rfl]
    have ih := pin4_row0 w ref slot st n idx X pin live s0 s1 s2 s3 hl hp hx d (m + 1) f (by omega)
    by_cases hb : pin.getD 0 false = true
    · rw [hb, cond_true, Int.toNat_natCast]
      have hn := hx hb (s0.getD m (0, 0)) (by rw [getD_get s0 m _ (by omega)]; exact List.getElem_mem _)
      rw [no2 hn, cond_false, wi (by omega)]
      exact ih
    · rw [show pin.getD 0 false = false by simpa using hb, cond_false, wi (by omega)]
      exact ih
theorem pin4_row1 (w ref slot : Int) (st : List Int) (n idx : Int) (X : Sh) (pin : List Bool) (live : Row) (s0 s1 s2 s3 : Row) (hl : s1.length ≤ 1000) (hp : pin.length = 4) (hx : pin.getD 1 false = true → ∀ x ∈ s1, ¬ (x.1 = w ∧ x.2 = slot)) : ∀ (d m f : Nat), m + d = s1.length →
    tendrillaw07_ArenaPinned_4_L122x2 (f + d + 1) 4 w ref slot 1 st n idx (((4 : Nat) : Int)) 1 (s1.length : Int) (m : Int) X.1 X.2.1 X.2.2.1.1.1 X.2.2.1.1.2.1 X.2.2.1.1.2.2.1 X.2.2.1.1.2.2.2 X.2.2.1.2.1.1 X.2.2.1.2.1.2.1 X.2.2.1.2.1.2.2.1 X.2.2.1.2.1.2.2.2 X.2.2.1.2.2.1 X.2.2.1.2.2.2.1 X.2.2.1.2.2.2.2.1 X.2.2.1.2.2.2.2.2 X.2.2.2.1 X.2.2.2.2 pin live s1 s0 s2 s3 = tendrillaw07_ArenaPinned_4_L116 f 4 w ref slot st n idx (((4 : Nat) : Int)) 2 X.1 X.2.1 X.2.2.1.1.1 X.2.2.1.1.2.1 X.2.2.1.1.2.2.1 X.2.2.1.1.2.2.2 X.2.2.1.2.1.1 X.2.2.1.2.1.2.1 X.2.2.1.2.1.2.2.1 X.2.2.1.2.1.2.2.2 X.2.2.1.2.2.1 X.2.2.1.2.2.2.1 X.2.2.1.2.2.2.2.1 X.2.2.1.2.2.2.2.2 X.2.2.2.1 X.2.2.2.2 pin live s0 s1 s2 s3
  | 0, m, f, h => by
    rw [tendrillaw07_ArenaPinned_4_L122x2, cf (by omega), show wrap64 ((1 : Int) + 1) = 2 by rw [w64 (by decide) (by decide)]; rfl]
  | d + 1, m, f, h => by
    rw [show f + (d + 1) + 1 = (f + d + 1) + 1 by omega, tendrillaw07_ArenaPinned_4_L122x2, ct (by omega), ct (by omega), ct (by omega), ct (by decide), ct (by rw [hp]; decide), show Int.toNat (1 : Int) = 1 from rfl]
    have ih := pin4_row1 w ref slot st n idx X pin live s0 s1 s2 s3 hl hp hx d (m + 1) f (by omega)
    by_cases hb : pin.getD 1 false = true
    · rw [hb, cond_true, Int.toNat_natCast]
      have hn := hx hb (s1.getD m (0, 0)) (by rw [getD_get s1 m _ (by omega)]; exact List.getElem_mem _)
      rw [no2 hn, cond_false, wi (by omega)]
      exact ih
    · rw [show pin.getD 1 false = false by simpa using hb, cond_false, wi (by omega)]
      exact ih
theorem pin4_row2 (w ref slot : Int) (st : List Int) (n idx : Int) (X : Sh) (pin : List Bool) (live : Row) (s0 s1 s2 s3 : Row) (hl : s2.length ≤ 1000) (hp : pin.length = 4) (hx : pin.getD 2 false = true → ∀ x ∈ s2, ¬ (x.1 = w ∧ x.2 = slot)) : ∀ (d m f : Nat), m + d = s2.length →
    tendrillaw07_ArenaPinned_4_L122x1 (f + d + 1) 4 w ref slot 2 st n idx (((4 : Nat) : Int)) 2 (s2.length : Int) (m : Int) X.1 X.2.1 X.2.2.1.1.1 X.2.2.1.1.2.1 X.2.2.1.1.2.2.1 X.2.2.1.1.2.2.2 X.2.2.1.2.1.1 X.2.2.1.2.1.2.1 X.2.2.1.2.1.2.2.1 X.2.2.1.2.1.2.2.2 X.2.2.1.2.2.1 X.2.2.1.2.2.2.1 X.2.2.1.2.2.2.2.1 X.2.2.1.2.2.2.2.2 X.2.2.2.1 X.2.2.2.2 pin live s2 s0 s1 s3 = tendrillaw07_ArenaPinned_4_L116 f 4 w ref slot st n idx (((4 : Nat) : Int)) 3 X.1 X.2.1 X.2.2.1.1.1 X.2.2.1.1.2.1 X.2.2.1.1.2.2.1 X.2.2.1.1.2.2.2 X.2.2.1.2.1.1 X.2.2.1.2.1.2.1 X.2.2.1.2.1.2.2.1 X.2.2.1.2.1.2.2.2 X.2.2.1.2.2.1 X.2.2.1.2.2.2.1 X.2.2.1.2.2.2.2.1 X.2.2.1.2.2.2.2.2 X.2.2.2.1 X.2.2.2.2 pin live s0 s1 s2 s3
  | 0, m, f, h => by
    rw [tendrillaw07_ArenaPinned_4_L122x1, cf (by omega), show wrap64 ((2 : Int) + 1) = 3 by rw [w64 (by decide) (by decide)]; rfl]
  | d + 1, m, f, h => by
    rw [show f + (d + 1) + 1 = (f + d + 1) + 1 by omega, tendrillaw07_ArenaPinned_4_L122x1, ct (by omega), ct (by omega), ct (by omega), ct (by decide), ct (by rw [hp]; decide), show Int.toNat (2 : Int) = 2 from rfl]
    have ih := pin4_row2 w ref slot st n idx X pin live s0 s1 s2 s3 hl hp hx d (m + 1) f (by omega)
    by_cases hb : pin.getD 2 false = true
    · rw [hb, cond_true, Int.toNat_natCast]
      have hn := hx hb (s2.getD m (0, 0)) (by rw [getD_get s2 m _ (by omega)]; exact List.getElem_mem _)
      rw [no2 hn, cond_false, wi (by omega)]
      exact ih
    · rw [show pin.getD 2 false = false by simpa using hb, cond_false, wi (by omega)]
      exact ih
theorem pin4_row3 (w ref slot : Int) (st : List Int) (n idx : Int) (X : Sh) (pin : List Bool) (live : Row) (s0 s1 s2 s3 : Row) (hl : s3.length ≤ 1000) (hp : pin.length = 4) (hx : pin.getD 3 false = true → ∀ x ∈ s3, ¬ (x.1 = w ∧ x.2 = slot)) : ∀ (d m f : Nat), m + d = s3.length →
    tendrillaw07_ArenaPinned_4_L122 (f + d + 1) 4 w ref slot 3 st n idx (((4 : Nat) : Int)) 3 (s3.length : Int) (m : Int) X.1 X.2.1 X.2.2.1.1.1 X.2.2.1.1.2.1 X.2.2.1.1.2.2.1 X.2.2.1.1.2.2.2 X.2.2.1.2.1.1 X.2.2.1.2.1.2.1 X.2.2.1.2.1.2.2.1 X.2.2.1.2.1.2.2.2 X.2.2.1.2.2.1 X.2.2.1.2.2.2.1 X.2.2.1.2.2.2.2.1 X.2.2.1.2.2.2.2.2 X.2.2.2.1 X.2.2.2.2 pin live s3 s0 s1 s2 = tendrillaw07_ArenaPinned_4_L116 f 4 w ref slot st n idx (((4 : Nat) : Int)) 4 X.1 X.2.1 X.2.2.1.1.1 X.2.2.1.1.2.1 X.2.2.1.1.2.2.1 X.2.2.1.1.2.2.2 X.2.2.1.2.1.1 X.2.2.1.2.1.2.1 X.2.2.1.2.1.2.2.1 X.2.2.1.2.1.2.2.2 X.2.2.1.2.2.1 X.2.2.1.2.2.2.1 X.2.2.1.2.2.2.2.1 X.2.2.1.2.2.2.2.2 X.2.2.2.1 X.2.2.2.2 pin live s0 s1 s2 s3
  | 0, m, f, h => by
    rw [tendrillaw07_ArenaPinned_4_L122, cf (by omega), show wrap64 ((3 : Int) + 1) = 4 by rw [w64 (by decide) (by decide)]; rfl]
  | d + 1, m, f, h => by
    rw [show f + (d + 1) + 1 = (f + d + 1) + 1 by omega, tendrillaw07_ArenaPinned_4_L122, ct (by omega), ct (by omega), ct (by omega), ct (by decide), ct (by rw [hp]; decide), show Int.toNat (3 : Int) = 3 from rfl]
    have ih := pin4_row3 w ref slot st n idx X pin live s0 s1 s2 s3 hl hp hx d (m + 1) f (by omega)
    by_cases hb : pin.getD 3 false = true
    · rw [hb, cond_true, Int.toNat_natCast]
      have hn := hx hb (s3.getD m (0, 0)) (by rw [getD_get s3 m _ (by omega)]; exact List.getElem_mem _)
      rw [no2 hn, cond_false, wi (by omega)]
      exact ih
    · rw [show pin.getD 3 false = false by simpa using hb, cond_false, wi (by omega)]
      exact ih
theorem pin4_take (w ref slot : Int) (st : List Int) (n idx : Int) (X : Sh) (pin : List Bool) (live : Row) (s0 s1 s2 s3 : Row) (hp : pin.length = 4) (hL : live.length ≤ 1000) (l0 : s0.length ≤ 1000) (h0 : pin.getD 0 false = true → ∀ x ∈ s0, ¬ (x.1 = w ∧ x.2 = slot)) (l1 : s1.length ≤ 1000) (h1 : pin.getD 1 false = true → ∀ x ∈ s1, ¬ (x.1 = w ∧ x.2 = slot)) (l2 : s2.length ≤ 1000) (h2 : pin.getD 2 false = true → ∀ x ∈ s2, ¬ (x.1 = w ∧ x.2 = slot)) (l3 : s3.length ≤ 1000) (h3 : pin.getD 3 false = true → ∀ x ∈ s3, ¬ (x.1 = w ∧ x.2 = slot)) (K : Nat) (hK : (s0.length + 2) + (s1.length + 2) + (s2.length + 2) + (s3.length + 2) + 1 ≤ K) :
    ∃ f, f + (s0.length + 2) + (s1.length + 2) + (s2.length + 2) + (s3.length + 2) + 1 = K ∧ tendrillaw07_ArenaPinned_4_L116 K 4 w ref slot st n idx (((4 : Nat) : Int)) 0 X.1 X.2.1 X.2.2.1.1.1 X.2.2.1.1.2.1 X.2.2.1.1.2.2.1 X.2.2.1.1.2.2.2 X.2.2.1.2.1.1 X.2.2.1.2.1.2.1 X.2.2.1.2.1.2.2.1 X.2.2.1.2.1.2.2.2 X.2.2.1.2.2.1 X.2.2.1.2.2.2.1 X.2.2.1.2.2.2.2.1 X.2.2.1.2.2.2.2.2 X.2.2.2.1 X.2.2.2.2 pin live s0 s1 s2 s3 = tendrillaw07_ArenaPinned_4_L26 f 4 st n (wrap64 (idx + 1)) X.1 X.2.1 X.2.2.1.1.1 X.2.2.1.1.2.1 X.2.2.1.1.2.2.1 X.2.2.1.1.2.2.2 X.2.2.1.2.1.1 X.2.2.1.2.1.2.1 X.2.2.1.2.1.2.2.1 X.2.2.1.2.1.2.2.2 X.2.2.1.2.2.1 X.2.2.1.2.2.2.1 X.2.2.1.2.2.2.2.1 X.2.2.1.2.2.2.2.2 X.2.2.2.1 X.2.2.2.2 pin (live ++ [(w, ref)]) s0 s1 s2 s3 := by
  obtain ⟨f, rfl⟩ : ∃ f, K = ((((f + 1 + s3.length + 1) + 1 + s2.length + 1) + 1 + s1.length + 1) + 1 + s0.length + 1) + 1 := ⟨K - ((s0.length + 2) + (s1.length + 2) + (s2.length + 2) + (s3.length + 2) + 1), by omega⟩
  refine ⟨f, by omega, ?_⟩
  rw [tendrillaw07_ArenaPinned_4_L116, ct (by decide), cf (by decide), cf (by decide), cf (by decide), ct (by decide)]
  refine (pin4_row0 w ref slot st n idx X pin live s0 s1 s2 s3 l0 hp h0 s0.length 0 _ (by omega)).trans ?_
  rw [tendrillaw07_ArenaPinned_4_L116, ct (by decide), cf (by decide), cf (by decide), ct (by decide)]
  refine (pin4_row1 w ref slot st n idx X pin live s0 s1 s2 s3 l1 hp h1 s1.length 0 _ (by omega)).trans ?_
  rw [tendrillaw07_ArenaPinned_4_L116, ct (by decide), cf (by decide), ct (by decide)]
  refine (pin4_row2 w ref slot st n idx X pin live s0 s1 s2 s3 l2 hp h2 s2.length 0 _ (by omega)).trans ?_
  rw [tendrillaw07_ArenaPinned_4_L116, ct (by decide), ct (by decide)]
  refine (pin4_row3 w ref slot st n idx X pin live s0 s1 s2 s3 l3 hp h3 s3.length 0 _ (by omega)).trans ?_
  rw [tendrillaw07_ArenaPinned_4_L116, cf (by decide), ct (by simp only [List.length_cons, List.length_nil]; omega)]
theorem pin4_ret0 (w ref slot : Int) (st : List Int) (n idx : Int) (X : Sh) (pin : List Bool) (live : Row) (s0 s1 s2 s3 : Row) (hp : pin.length = 4) (hl : s0.length ≤ 1000) (f : Nat) :
    tendrillaw07_ArenaPinned_4_L62 (f + 1) 4 slot st n idx (((4 : Nat) : Int)) 0 X.1 X.2.1 X.2.2.1.1.1 X.2.2.1.1.2.1 X.2.2.1.1.2.2.1 X.2.2.1.1.2.2.2 X.2.2.1.2.1.1 X.2.2.1.2.1.2.1 X.2.2.1.2.1.2.2.1 X.2.2.1.2.1.2.2.2 X.2.2.1.2.2.1 X.2.2.1.2.2.2.1 X.2.2.1.2.2.2.2.1 X.2.2.1.2.2.2.2.2 X.2.2.2.1 X.2.2.2.2 pin live w ref s0 s1 s2 s3 = tendrillaw07_ArenaPinned_4_L62 f 4 slot st n idx (((4 : Nat) : Int)) 1 X.1 X.2.1 X.2.2.1.1.1 X.2.2.1.1.2.1 X.2.2.1.1.2.2.1 X.2.2.1.1.2.2.2 X.2.2.1.2.1.1 X.2.2.1.2.1.2.1 X.2.2.1.2.1.2.2.1 X.2.2.1.2.1.2.2.2 X.2.2.1.2.2.1 X.2.2.1.2.2.2.1 X.2.2.1.2.2.2.2.1 X.2.2.1.2.2.2.2.2 X.2.2.2.1 X.2.2.2.2 pin live w ref (if pin.getD 0 false = true then s0 ++ [(w, slot)] else s0) s1 s2 s3 := by
  rw [tendrillaw07_ArenaPinned_4_L62, ct (by decide), ct (by decide), ct (by rw [hp]; decide), show Int.toNat (0 : Int) = 0 from rfl, show wrap64 ((0 : Int) + 1) = 1 by rw [w64 (by decide) (by decide)]; rfl]
  by_cases hb : pin.getD 0 false = true
  · rw [if_pos hb, hb, cond_true, cf (by decide), cf (by decide), cf (by decide), ct (by decide), ct (by simp only [List.length_cons, List.length_nil]; omega), cf (by decide), cf (by decide), cf (by decide), ct (by decide)]
  · rw [if_neg hb, show pin.getD 0 false = false by simpa using hb, cond_false]
theorem pin4_ret1 (w ref slot : Int) (st : List Int) (n idx : Int) (X : Sh) (pin : List Bool) (live : Row) (s0 s1 s2 s3 : Row) (hp : pin.length = 4) (hl : s1.length ≤ 1000) (f : Nat) :
    tendrillaw07_ArenaPinned_4_L62 (f + 1) 4 slot st n idx (((4 : Nat) : Int)) 1 X.1 X.2.1 X.2.2.1.1.1 X.2.2.1.1.2.1 X.2.2.1.1.2.2.1 X.2.2.1.1.2.2.2 X.2.2.1.2.1.1 X.2.2.1.2.1.2.1 X.2.2.1.2.1.2.2.1 X.2.2.1.2.1.2.2.2 X.2.2.1.2.2.1 X.2.2.1.2.2.2.1 X.2.2.1.2.2.2.2.1 X.2.2.1.2.2.2.2.2 X.2.2.2.1 X.2.2.2.2 pin live w ref s0 s1 s2 s3 = tendrillaw07_ArenaPinned_4_L62 f 4 slot st n idx (((4 : Nat) : Int)) 2 X.1 X.2.1 X.2.2.1.1.1 X.2.2.1.1.2.1 X.2.2.1.1.2.2.1 X.2.2.1.1.2.2.2 X.2.2.1.2.1.1 X.2.2.1.2.1.2.1 X.2.2.1.2.1.2.2.1 X.2.2.1.2.1.2.2.2 X.2.2.1.2.2.1 X.2.2.1.2.2.2.1 X.2.2.1.2.2.2.2.1 X.2.2.1.2.2.2.2.2 X.2.2.2.1 X.2.2.2.2 pin live w ref s0 (if pin.getD 1 false = true then s1 ++ [(w, slot)] else s1) s2 s3 := by
  rw [tendrillaw07_ArenaPinned_4_L62, ct (by decide), ct (by decide), ct (by rw [hp]; decide), show Int.toNat (1 : Int) = 1 from rfl, show wrap64 ((1 : Int) + 1) = 2 by rw [w64 (by decide) (by decide)]; rfl]
  by_cases hb : pin.getD 1 false = true
  · rw [if_pos hb, hb, cond_true, cf (by decide), cf (by decide), ct (by decide), ct (by simp only [List.length_cons, List.length_nil]; omega), cf (by decide), cf (by decide), ct (by decide)]
  · rw [if_neg hb, show pin.getD 1 false = false by simpa using hb, cond_false]
theorem pin4_ret2 (w ref slot : Int) (st : List Int) (n idx : Int) (X : Sh) (pin : List Bool) (live : Row) (s0 s1 s2 s3 : Row) (hp : pin.length = 4) (hl : s2.length ≤ 1000) (f : Nat) :
    tendrillaw07_ArenaPinned_4_L62 (f + 1) 4 slot st n idx (((4 : Nat) : Int)) 2 X.1 X.2.1 X.2.2.1.1.1 X.2.2.1.1.2.1 X.2.2.1.1.2.2.1 X.2.2.1.1.2.2.2 X.2.2.1.2.1.1 X.2.2.1.2.1.2.1 X.2.2.1.2.1.2.2.1 X.2.2.1.2.1.2.2.2 X.2.2.1.2.2.1 X.2.2.1.2.2.2.1 X.2.2.1.2.2.2.2.1 X.2.2.1.2.2.2.2.2 X.2.2.2.1 X.2.2.2.2 pin live w ref s0 s1 s2 s3 = tendrillaw07_ArenaPinned_4_L62 f 4 slot st n idx (((4 : Nat) : Int)) 3 X.1 X.2.1 X.2.2.1.1.1 X.2.2.1.1.2.1 X.2.2.1.1.2.2.1 X.2.2.1.1.2.2.2 X.2.2.1.2.1.1 X.2.2.1.2.1.2.1 X.2.2.1.2.1.2.2.1 X.2.2.1.2.1.2.2.2 X.2.2.1.2.2.1 X.2.2.1.2.2.2.1 X.2.2.1.2.2.2.2.1 X.2.2.1.2.2.2.2.2 X.2.2.2.1 X.2.2.2.2 pin live w ref s0 s1 (if pin.getD 2 false = true then s2 ++ [(w, slot)] else s2) s3 := by
  rw [tendrillaw07_ArenaPinned_4_L62, ct (by decide), ct (by decide), ct (by rw [hp]; decide), show Int.toNat (2 : Int) = 2 from rfl, show wrap64 ((2 : Int) + 1) = 3 by rw [w64 (by decide) (by decide)]; rfl]
  by_cases hb : pin.getD 2 false = true
  · rw [if_pos hb, hb, cond_true, cf (by decide), ct (by decide), ct (by simp only [List.length_cons, List.length_nil]; omega), cf (by decide), ct (by decide)]
  · rw [if_neg hb, show pin.getD 2 false = false by simpa using hb, cond_false]
theorem pin4_ret3 (w ref slot : Int) (st : List Int) (n idx : Int) (X : Sh) (pin : List Bool) (live : Row) (s0 s1 s2 s3 : Row) (hp : pin.length = 4) (hl : s3.length ≤ 1000) (f : Nat) :
    tendrillaw07_ArenaPinned_4_L62 (f + 1) 4 slot st n idx (((4 : Nat) : Int)) 3 X.1 X.2.1 X.2.2.1.1.1 X.2.2.1.1.2.1 X.2.2.1.1.2.2.1 X.2.2.1.1.2.2.2 X.2.2.1.2.1.1 X.2.2.1.2.1.2.1 X.2.2.1.2.1.2.2.1 X.2.2.1.2.1.2.2.2 X.2.2.1.2.2.1 X.2.2.1.2.2.2.1 X.2.2.1.2.2.2.2.1 X.2.2.1.2.2.2.2.2 X.2.2.2.1 X.2.2.2.2 pin live w ref s0 s1 s2 s3 = tendrillaw07_ArenaPinned_4_L62 f 4 slot st n idx (((4 : Nat) : Int)) 4 X.1 X.2.1 X.2.2.1.1.1 X.2.2.1.1.2.1 X.2.2.1.1.2.2.1 X.2.2.1.1.2.2.2 X.2.2.1.2.1.1 X.2.2.1.2.1.2.1 X.2.2.1.2.1.2.2.1 X.2.2.1.2.1.2.2.2 X.2.2.1.2.2.1 X.2.2.1.2.2.2.1 X.2.2.1.2.2.2.2.1 X.2.2.1.2.2.2.2.2 X.2.2.2.1 X.2.2.2.2 pin live w ref s0 s1 s2 (if pin.getD 3 false = true then s3 ++ [(w, slot)] else s3) := by
  rw [tendrillaw07_ArenaPinned_4_L62, ct (by decide), ct (by decide), ct (by rw [hp]; decide), show Int.toNat (3 : Int) = 3 from rfl, show wrap64 ((3 : Int) + 1) = 4 by rw [w64 (by decide) (by decide)]; rfl]
  by_cases hb : pin.getD 3 false = true
  · rw [if_pos hb, hb, cond_true, ct (by decide), ct (by simp only [List.length_cons, List.length_nil]; omega), ct (by decide)]
  · rw [if_neg hb, show pin.getD 3 false = false by simpa using hb, cond_false]
theorem pin4_ret (w ref slot : Int) (st : List Int) (n idx : Int) (X : Sh) (pin : List Bool) (live : Row) (s0 s1 s2 s3 : Row) (hp : pin.length = 4) (l0 : s0.length ≤ 1000) (l1 : s1.length ≤ 1000) (l2 : s2.length ≤ 1000) (l3 : s3.length ≤ 1000) (f : Nat) :
    tendrillaw07_ArenaPinned_4_L62 (f + 5) 4 slot st n idx (((4 : Nat) : Int)) 0 X.1 X.2.1 X.2.2.1.1.1 X.2.2.1.1.2.1 X.2.2.1.1.2.2.1 X.2.2.1.1.2.2.2 X.2.2.1.2.1.1 X.2.2.1.2.1.2.1 X.2.2.1.2.1.2.2.1 X.2.2.1.2.1.2.2.2 X.2.2.1.2.2.1 X.2.2.1.2.2.2.1 X.2.2.1.2.2.2.2.1 X.2.2.1.2.2.2.2.2 X.2.2.2.1 X.2.2.2.2 pin live w ref s0 s1 s2 s3 = tendrillaw07_ArenaPinned_4_L26 f 4 st n (wrap64 (idx + 1)) X.1 X.2.1 X.2.2.1.1.1 X.2.2.1.1.2.1 X.2.2.1.1.2.2.1 X.2.2.1.1.2.2.2 X.2.2.1.2.1.1 X.2.2.1.2.1.2.1 X.2.2.1.2.1.2.2.1 X.2.2.1.2.1.2.2.2 X.2.2.1.2.2.1 X.2.2.1.2.2.2.1 X.2.2.1.2.2.2.2.1 X.2.2.1.2.2.2.2.2 X.2.2.2.1 X.2.2.2.2 pin live (if pin.getD 0 false = true then s0 ++ [(w, slot)] else s0) (if pin.getD 1 false = true then s1 ++ [(w, slot)] else s1) (if pin.getD 2 false = true then s2 ++ [(w, slot)] else s2) (if pin.getD 3 false = true then s3 ++ [(w, slot)] else s3) := by
  refine (pin4_ret0 w ref slot st n idx X pin live s0 s1 s2 s3 hp l0 (f + 4)).trans ?_
  refine (pin4_ret1 w ref slot st n idx X pin live (if pin.getD 0 false = true then s0 ++ [(w, slot)] else s0) s1 s2 s3 hp l1 (f + 3)).trans ?_
  refine (pin4_ret2 w ref slot st n idx X pin live (if pin.getD 0 false = true then s0 ++ [(w, slot)] else s0) (if pin.getD 1 false = true then s1 ++ [(w, slot)] else s1) s2 s3 hp l2 (f + 2)).trans ?_
  refine (pin4_ret3 w ref slot st n idx X pin live (if pin.getD 0 false = true then s0 ++ [(w, slot)] else s0) (if pin.getD 1 false = true then s1 ++ [(w, slot)] else s1) (if pin.getD 2 false = true then s2 ++ [(w, slot)] else s2) s3 hp l3 (f + 1)).trans ?_
  rw [tendrillaw07_ArenaPinned_4_L62, cf (by decide)]
set_option maxHeartbeats 0 in
set_option maxRecDepth 10000 in
theorem pin4_steps (st : List Int) (hm : st.length ≤ 120) (hst : ∀ v ∈ st, v ≤ 9223372036854775807) : ∀ (d K i : Nat) (s : Sh) (pin : List Bool) (live : Row) (s0 s1 s2 s3 : Row), i + d = st.length → d * 1000 + 1 ≤ K → Inv 4 i s pin live [s0, s1, s2, s3] →
    tendrillaw07_ArenaPinned_4_L26 K 4 st st.length i s.1 s.2.1 s.2.2.1.1.1 s.2.2.1.1.2.1 s.2.2.1.1.2.2.1 s.2.2.1.1.2.2.2 s.2.2.1.2.1.1 s.2.2.1.2.1.2.1 s.2.2.1.2.1.2.2.1 s.2.2.1.2.1.2.2.2 s.2.2.1.2.2.1 s.2.2.1.2.2.2.1 s.2.2.1.2.2.2.2.1 s.2.2.1.2.2.2.2.2 s.2.2.2.1 s.2.2.2.2 pin live s0 s1 s2 s3 = some true
  | 0, K, i, s, pin, live, s0, s1, s2, s3, hd, hK, I => by
    obtain ⟨K, rfl⟩ : ∃ K', K = K' + 1 := ⟨K - 1, by omega⟩
    rw [tendrillaw07_ArenaPinned_4_L26, cf (by omega), etaS, pcheckA_eq s I.few, chk_pos I.ok]
    rfl
  | d + 1, K, i, s, pin, live, s0, s1, s2, s3, hd, hK, I => by
    have ih := pin4_steps st hm hst d
    obtain ⟨K, rfl⟩ : ∃ K', K = K' + 1 := ⟨K - 1, by omega⟩
    have l0 : s0.length ≤ i := I.lr 0 (by omega)
    have l1 : s1.length ≤ i := I.lr 1 (by omega)
    have l2 : s2.length ≤ i := I.lr 2 (by omega)
    have l3 : s3.length ≤ i := I.lr 3 (by omega)
    have hl := I.ll
    rw [tendrillaw07_ArenaPinned_4_L26, ct (by omega), ct (by omega), ct (by omega), Int.toNat_natCast]
    have hv := hst (st.getD i 0) (by rw [getD_get st i 0 (by omega)]; exact List.getElem_mem _)
    generalize st.getD i 0 = v at hv ⊢
    by_cases a : v < 0
    · rw [ct a]
    rw [cf a, cf (by decide)]
    have hA0 : 0 ≤ wrap64 (v.tdiv 6) := by rw [(tdm v 6 (by omega)).1, w64 (by omega) (by omega)]; omega
    have hA1 : wrap64 (v.tdiv 6) ≤ 9223372036854775807 := by rw [(tdm v 6 (by omega)).1, w64 (by omega) (by omega)]; omega
    generalize wrap64 (v.tdiv 6) = A at hA0 hA1 ⊢
    have w3 : wrap64 (A % 3 + 1) = A % 3 + 1 := w64 (by omega) (by omega)
    rw [show A.tmod 4 = A % 4 from (tdm A 4 hA0).2, show A.tmod 3 = A % 3 from (tdm A 3 hA0).2]
    have t0 : 0 ≤ A % 4 := by omega
    have t1 : A % 4 < 4 := by omega
    rw [eqc]
    by_cases c0 : v.tmod 6 = 0
    · rw [if_pos c0]
      clear w3
      generalize A % 4 = t at t0 t1 ⊢
      rw [etaS, ppinA_eq s t I.few, Option.bind_some, eqc]
      by_cases e : (pinA s t).2 = 0
      · rw [if_pos e, ct t0, ct (by rw [I.lb]; exact t1), wi (by omega)]
        rcases (show t = 0 ∨ t = 1 ∨ t = 2 ∨ t = 3 by omega) with rfl | rfl | rfl | rfl
        · rw [cf (by decide), cf (by decide), cf (by decide), ct (by decide)]
          exact ih K (i + 1) (pinA s 0).1 _ live [] s1 s2 s3 (by omega) (by omega) ((inv_pin I e).more (by omega))
        · rw [cf (by decide), cf (by decide), ct (by decide)]
          exact ih K (i + 1) (pinA s 1).1 _ live s0 [] s2 s3 (by omega) (by omega) ((inv_pin I e).more (by omega))
        · rw [cf (by decide), ct (by decide)]
          exact ih K (i + 1) (pinA s 2).1 _ live s0 s1 [] s3 (by omega) (by omega) ((inv_pin I e).more (by omega))
        · rw [ct (by decide)]
          exact ih K (i + 1) (pinA s 3).1 _ live s0 s1 s2 [] (by omega) (by omega) ((inv_pin I e).more (by omega))
      · rw [if_neg e, wi (by omega)]
        exact ih K (i + 1) s pin live s0 s1 s2 s3 (by omega) (by omega) (I.more (by omega))
    rw [if_neg c0, eqc]
    by_cases c1 : v.tmod 6 = 1
    · rw [if_pos c1]
      clear w3
      generalize A % 4 = t at t0 t1 ⊢
      rw [etaS, pendA_eq s t I.few, Option.bind_some, eqc]
      by_cases e : (endA s t).2 = 0
      · rw [if_pos e, ct t0, ct (by rw [I.lb]; exact t1), wi (by omega)]
        exact ih K (i + 1) (endA s t).1 _ live s0 s1 s2 s3 (by omega) (by omega) ((inv_end I e).more (by omega))
      · rw [if_neg e, wi (by omega)]
        exact ih K (i + 1) s pin live s0 s1 s2 s3 (by omega) (by omega) (I.more (by omega))
    rw [if_neg c1, eqc]
    by_cases c2 : v.tmod 6 = 2
    · rw [if_pos c2, etaS, pturnA_eq s I.few, Option.bind_some, wi (by omega)]
      exact ih K (i + 1) (turnA s).1 pin live s0 s1 s2 s3 (by omega) (by omega) ((inv_turn I).more (by omega))
    rw [if_neg c2, eqc]
    by_cases c3 : v.tmod 6 = 3
    · rw [if_pos c3]
      rw [w3, etaS, ptakeA_eq s (A % 3 + 1) I.few, Option.bind_some, nec]
      by_cases e : (takeA s (A % 3 + 1)).2.2 = 0
      · rw [if_pos e]
        obtain ⟨hr, hu, J, hne⟩ := inv_take I e
        rw [unpack_eq _ hr, Option.bind_some, nec, if_pos hu]
        obtain ⟨f, hf, e2⟩ := pin4_take (A % 3 + 1) (takeA s (A % 3 + 1)).2.1 (unpackV (takeA s (A % 3 + 1)).2.1).1 st st.length i (takeA s (A % 3 + 1)).1 pin live s0 s1 s2 s3 I.lb (by omega) (by omega) (hne 0 (by omega)) (by omega) (hne 1 (by omega)) (by omega) (hne 2 (by omega)) (by omega) (hne 3 (by omega)) K (by omega)
        refine e2.trans ?_
        rw [wi (by omega)]
        exact ih f (i + 1) _ _ _ s0 s1 s2 s3 (by omega) (by omega) J
      · rw [if_neg e, wi (by omega)]
        exact ih K (i + 1) s pin live s0 s1 s2 s3 (by omega) (by omega) (I.more (by omega))

    rw [if_neg c3, eqc]
    by_cases c4 : v.tmod 6 = 4
    · rw [if_pos c4]
      rw [w3, etaS, ptakeA_eq s (A % 3 + 1) I.few, Option.bind_some, nec]
      by_cases e : (takeA s (A % 3 + 1)).2.2 = 0
      · rw [if_pos e]
        obtain ⟨hr, hu, J, hne⟩ := inv_take I e
        rw [unpack_eq _ hr, Option.bind_some, nec, if_pos hu]
        obtain ⟨f, hf, e2⟩ := pin4_take (A % 3 + 1) (takeA s (A % 3 + 1)).2.1 (unpackV (takeA s (A % 3 + 1)).2.1).1 st st.length i (takeA s (A % 3 + 1)).1 pin live s0 s1 s2 s3 I.lb (by omega) (by omega) (hne 0 (by omega)) (by omega) (hne 1 (by omega)) (by omega) (hne 2 (by omega)) (by omega) (hne 3 (by omega)) K (by omega)
        refine e2.trans ?_
        rw [wi (by omega)]
        exact ih f (i + 1) _ _ _ s0 s1 s2 s3 (by omega) (by omega) J
      · rw [if_neg e, wi (by omega)]
        exact ih K (i + 1) s pin live s0 s1 s2 s3 (by omega) (by omega) (I.more (by omega))

    rw [if_neg c4, eqc]
    by_cases z : (live.length : Int) = 0
    · rw [if_pos z, wi (by omega)]
      exact ih K (i + 1) s pin live s0 s1 s2 s3 (by omega) (by omega) (I.more (by omega))
    rw [if_neg z, cf z]
    have b0 : 0 ≤ A.tmod (live.length : Int) := by rw [(tdm A live.length hA0).2]; exact Int.emod_nonneg _ z
    have b1 : A.tmod (live.length : Int) < (live.length : Int) := by rw [(tdm A live.length hA0).2]; exact Int.emod_lt_of_pos _ (by omega)
    generalize A.tmod (live.length : Int) = b at b0 b1 ⊢
    obtain ⟨b, rfl⟩ := Int.eq_ofNat_of_zero_le b0
    have hb : b < live.length := by omega
    rw [wi (by omega)]
    simp only [Int.toNat_natCast]
    rw [ct (by omega), ct (by omega), ct (by omega), ct (by omega), ct (by simp; omega), ct (by omega), ct (by omega), ct (by simp; omega)]
    obtain ⟨y, hy⟩ : ∃ y, live.getD b (0, 0) = y := ⟨_, rfl⟩
    rw [hy, List.drop_zero, List.take_length]
    obtain ⟨r1, r2, r3, J⟩ := inv_ret (seen' := [(if pin.getD 0 false = true then s0 ++ [(y.1, (unpackV y.2).1)] else s0), (if pin.getD 1 false = true then s1 ++ [(y.1, (unpackV y.2).1)] else s1), (if pin.getD 2 false = true then s2 ++ [(y.1, (unpackV y.2).1)] else s2), (if pin.getD 3 false = true then s3 ++ [(y.1, (unpackV y.2).1)] else s3)]) I hb hy rfl (fun j hj => by
      rcases (show j = 0 ∨ j = 1 ∨ j = 2 ∨ j = 3 by omega) with rfl | rfl | rfl | rfl <;> rfl)
    rw [etaS, pretA_eq s y.1 y.2 I.few r1, Option.bind_some, unpack_eq _ r1, Option.bind_some, nec, if_pos r3, nec, if_pos r2]
    obtain ⟨f, rfl⟩ : ∃ f, K = f + 5 := ⟨K - 5, by omega⟩
    refine (pin4_ret y.1 y.2 (unpackV y.2).1 st st.length i (retA s y.1 y.2).1 pin (live.take b ++ live.drop (b + 1)) s0 s1 s2 s3 I.lb (by omega) (by omega) (by omega) (by omega) f).trans ?_
    rw [wi (by omega)]
    exact ih f (i + 1) _ _ _ _ _ _ _ (by omega) (by omega) J

theorem pin4 (K : Nat) (hK : 130000 ≤ K) (x : (Int × Int × Int × Int × Int) × List Int) (hx : ∀ v ∈ x.2, v ≤ 9223372036854775807) : tendrillaw07_ArenaPinned_4_K K x = some true := by
  obtain ⟨c, st⟩ := x
  unfold tendrillaw07_ArenaPinned_4_K
  rw [live7_eq, Option.bind_some, Bool.not_true, cond_false]
  by_cases h : (120 : Int) < (st.length : Int)
  · rw [ct h]
  rw [cf h, show ((c.1, c.2.1, c.2.2.1, c.2.2.2.1, c.2.2.2.2) : Int × Int × Int × Int × Int) = c from rfl, pnewA_eq, Option.bind_some, nec]
  by_cases e : (newA c 4).2 = 0
  · rw [if_pos e]
    exact pin4_steps st (by omega) hx st.length K 0 (newA c 4).1 _ [] [] [] [] [] (by omega) (by omega) (inv_new (n := 4) e)
  · rw [if_neg e, newA_no e]
    rfl

/-! ### 5 -/
theorem pin5_row0 (w ref slot : Int) (st : List Int) (n idx : Int) (X : Sh) (pin : List Bool) (live : Row) (s0 s1 s2 s3 s4 : Row) (hl : s0.length ≤ 1000) (hp : pin.length = 5) (hx : pin.getD 0 false = true → ∀ x ∈ s0, ¬ (x.1 = w ∧ x.2 = slot)) : ∀ (d m f : Nat), m + d = s0.length →
    tendrillaw07_ArenaPinned_5_L122x4 (f + d + 1) 5 w ref slot 0 st n idx (((5 : Nat) : Int)) 0 (s0.length : Int) (m : Int) X.1 X.2.1 X.2.2.1.1.1 X.2.2.1.1.2.1 X.2.2.1.1.2.2.1 X.2.2.1.1.2.2.2 X.2.2.1.2.1.1 X.2.2.1.2.1.2.1 X.2.2.1.2.1.2.2.1 X.2.2.1.2.1.2.2.2 X.2.2.1.2.2.1 X.2.2.1.2.2.2.1 X.2.2.1.2.2.2.2.1 X.2.2.1.2.2.2.2.2 X.2.2.2.1 X.2.2.2.2 pin live s0 s1 s2 s3 s4 = tendrillaw07_ArenaPinned_5_L116 f 5 w ref slot st n idx (((5 : Nat) : Int)) 1 X.1 X.2.1 X.2.2.1.1.1 X.2.2.1.1.2.1 X.2.2.1.1.2.2.1 X.2.2.1.1.2.2.2 X.2.2.1.2.1.1 X.2.2.1.2.1.2.1 X.2.2.1.2.1.2.2.1 X.2.2.1.2.1.2.2.2 X.2.2.1.2.2.1 X.2.2.1.2.2.2.1 X.2.2.1.2.2.2.2.1 X.2.2.1.2.2.2.2.2 X.2.2.2.1 X.2.2.2.2 pin live s0 s1 s2 s3 s4
  | 0, m, f, h => by
    rw [tendrillaw07_ArenaPinned_5_L122x4, cf (by omega), show wrap64 ((0 : Int) + 1) = 1 by rw [w64 (by decide) (by decide)]; rfl]
  | d + 1, m, f, h => by
    rw [show f + (d + 1) + 1 = (f + d + 1) + 1 by omega, tendrillaw07_ArenaPinned_5_L122x4, ct (by omega), ct (by omega), ct (by omega), ct (by decide), ct (by rw [hp]; decide), show Int.toNat (0 : Int) = 0 from rfl]
    have ih := pin5_row0 w ref slot st n idx X pin live s0 s1 s2 s3 s4 hl hp hx d (m + 1) f (by omega)
    by_cases hb : pin.getD 0 false = true
    · rw [hb, cond_true, Int.toNat_natCast]
      have hn := hx hb (s0.getD m (0, 0)) (by rw [getD_get s0 m _ (by omega)]; exact List.getElem_mem _)
      rw [no2 hn, cond_false, wi (by omega)]
      exact ih
    · rw [show pin.getD 0 false = false by simpa using hb, cond_false, wi (by omega)]
      exact ih
theorem pin5_row1 (w ref slot : Int) (st : List Int) (n idx : Int) (X : Sh) (pin : List Bool) (live : Row) (s0 s1 s2 s3 s4 : Row) (hl : s1.length ≤ 1000) (hp : pin.length = 5) (hx : pin.getD 1 false = true → ∀ x ∈ s1, ¬ (x.1 = w ∧ x.2 = slot)) : ∀ (d m f : Nat), m + d = s1.length →
    tendrillaw07_ArenaPinned_5_L122x3 (f + d + 1) 5 w ref slot 1 st n idx (((5 : Nat) : Int)) 1 (s1.length : Int) (m : Int) X.1 X.2.1 X.2.2.1.1.1 X.2.2.1.1.2.1 X.2.2.1.1.2.2.1 X.2.2.1.1.2.2.2 X.2.2.1.2.1.1 X.2.2.1.2.1.2.1 X.2.2.1.2.1.2.2.1 X.2.2.1.2.1.2.2.2 X.2.2.1.2.2.1 X.2.2.1.2.2.2.1 X.2.2.1.2.2.2.2.1 X.2.2.1.2.2.2.2.2 X.2.2.2.1 X.2.2.2.2 pin live s1 s0 s2 s3 s4 = tendrillaw07_ArenaPinned_5_L116 f 5 w ref slot st n idx (((5 : Nat) : Int)) 2 X.1 X.2.1 X.2.2.1.1.1 X.2.2.1.1.2.1 X.2.2.1.1.2.2.1 X.2.2.1.1.2.2.2 X.2.2.1.2.1.1 X.2.2.1.2.1.2.1 X.2.2.1.2.1.2.2.1 X.2.2.1.2.1.2.2.2 X.2.2.1.2.2.1 X.2.2.1.2.2.2.1 X.2.2.1.2.2.2.2.1 X.2.2.1.2.2.2.2.2 X.2.2.2.1 X.2.2.2.2 pin live s0 s1 s2 s3 s4
  | 0, m, f, h => by
    rw [tendrillaw07_ArenaPinned_5_L122x3, cf (by omega), show wrap64 ((1 : Int) + 1) = 2 by rw [w64 (by decide) (by decide)]; rfl]
  | d + 1, m, f, h => by
    rw [show f + (d + 1) + 1 = (f + d + 1) + 1 by omega, tendrillaw07_ArenaPinned_5_L122x3, ct (by omega), ct (by omega), ct (by omega), ct (by decide), ct (by rw [hp]; decide), show Int.toNat (1 : Int) = 1 from rfl]
    have ih := pin5_row1 w ref slot st n idx X pin live s0 s1 s2 s3 s4 hl hp hx d (m + 1) f (by omega)
    by_cases hb : pin.getD 1 false = true
    · rw [hb, cond_true, Int.toNat_natCast]
      have hn := hx hb (s1.getD m (0, 0)) (by rw [getD_get s1 m _ (by omega)]; exact List.getElem_mem _)
      rw [no2 hn, cond_false, wi (by omega)]
      exact ih
    · rw [show pin.getD 1 false = false by simpa using hb, cond_false, wi (by omega)]
      exact ih
theorem pin5_row2 (w ref slot : Int) (st : List Int) (n idx : Int) (X : Sh) (pin : List Bool) (live : Row) (s0 s1 s2 s3 s4 : Row) (hl : s2.length ≤ 1000) (hp : pin.length = 5) (hx : pin.getD 2 false = true → ∀ x ∈ s2, ¬ (x.1 = w ∧ x.2 = slot)) : ∀ (d m f : Nat), m + d = s2.length →
    tendrillaw07_ArenaPinned_5_L122x2 (f + d + 1) 5 w ref slot 2 st n idx (((5 : Nat) : Int)) 2 (s2.length : Int) (m : Int) X.1 X.2.1 X.2.2.1.1.1 X.2.2.1.1.2.1 X.2.2.1.1.2.2.1 X.2.2.1.1.2.2.2 X.2.2.1.2.1.1 X.2.2.1.2.1.2.1 X.2.2.1.2.1.2.2.1 X.2.2.1.2.1.2.2.2 X.2.2.1.2.2.1 X.2.2.1.2.2.2.1 X.2.2.1.2.2.2.2.1 X.2.2.1.2.2.2.2.2 X.2.2.2.1 X.2.2.2.2 pin live s2 s0 s1 s3 s4 = tendrillaw07_ArenaPinned_5_L116 f 5 w ref slot st n idx (((5 : Nat) : Int)) 3 X.1 X.2.1 X.2.2.1.1.1 X.2.2.1.1.2.1 X.2.2.1.1.2.2.1 X.2.2.1.1.2.2.2 X.2.2.1.2.1.1 X.2.2.1.2.1.2.1 X.2.2.1.2.1.2.2.1 X.2.2.1.2.1.2.2.2 X.2.2.1.2.2.1 X.2.2.1.2.2.2.1 X.2.2.1.2.2.2.2.1 X.2.2.1.2.2.2.2.2 X.2.2.2.1 X.2.2.2.2 pin live s0 s1 s2 s3 s4
  | 0, m, f, h => by
    rw [tendrillaw07_ArenaPinned_5_L122x2, cf (by omega), show wrap64 ((2 : Int) + 1) = 3 by rw [w64 (by decide) (by decide)]; rfl]
  | d + 1, m, f, h => by
    rw [show f + (d + 1) + 1 = (f + d + 1) + 1 by omega, tendrillaw07_ArenaPinned_5_L122x2, ct (by omega), ct (by omega), ct (by omega), ct (by decide), ct (by rw [hp]; decide), show Int.toNat (2 : Int) = 2 from rfl]
    have ih := pin5_row2 w ref slot st n idx X pin live s0 s1 s2 s3 s4 hl hp hx d (m + 1) f (by omega)
    by_cases hb : pin.getD 2 false = true
    · rw [hb, cond_true, Int.toNat_natCast]
      have hn := hx hb (s2.getD m (0, 0)) (by rw [getD_get s2 m _ (by omega)]; exact List.getElem_mem _)
      rw [no2 hn, cond_false, wi (by omega)]
      exact ih
    · rw [show pin.getD 2 false = false by simpa using hb, cond_false, wi (by omega)]
      exact ih
theorem pin5_row3 (w ref slot : Int) (st : List Int) (n idx : Int) (X : Sh) (pin : List Bool) (live : Row) (s0 s1 s2 s3 s4 : Row) (hl : s3.length ≤ 1000) (hp : pin.length = 5) (hx : pin.getD 3 false = true → ∀ x ∈ s3, ¬ (x.1 = w ∧ x.2 = slot)) : ∀ (d m f : Nat), m + d = s3.length →
    tendrillaw07_ArenaPinned_5_L122x1 (f + d + 1) 5 w ref slot 3 st n idx (((5 : Nat) : Int)) 3 (s3.length : Int) (m : Int) X.1 X.2.1 X.2.2.1.1.1 X.2.2.1.1.2.1 X.2.2.1.1.2.2.1 X.2.2.1.1.2.2.2 X.2.2.1.2.1.1 X.2.2.1.2.1.2.1 X.2.2.1.2.1.2.2.1 X.2.2.1.2.1.2.2.2 X.2.2.1.2.2.1 X.2.2.1.2.2.2.1 X.2.2.1.2.2.2.2.1 X.2.2.1.2.2.2.2.2 X.2.2.2.1 X.2.2.2.2 pin live s3 s0 s1 s2 s4 = tendrillaw07_ArenaPinned_5_L116 f 5 w ref slot st n idx (((5 : Nat) : Int)) 4 X.1 X.2.1 X.2.2.1.1.1 X.2.2.1.1.2.1 X.2.2.1.1.2.2.1 X.2.2.1.1.2.2.2 X.2.2.1.2.1.1 X.2.2.1.2.1.2.1 X.2.2.1.2.1.2.2.1 X.2.2.1.2.1.2.2.2 X.2.2.1.2.2.1 X.2.2.1.2.2.2.1 X.2.2.1.2.2.2.2.1 X.2.2.1.2.2.2.2.2 X.2.2.2.1 X.2.2.2.2 pin live s0 s1 s2 s3 s4
  | 0, m, f, h => by
    rw [tendrillaw07_ArenaPinned_5_L122x1, cf (by omega), show wrap64 ((3 : Int) + 1) = 4 by rw [w64 (by decide) (by decide)]; rfl]
  | d + 1, m, f, h => by
    rw [show f + (d + 1) + 1 = (f + d + 1) + 1 by omega, tendrillaw07_ArenaPinned_5_L122x1, ct (by omega), ct (by omega), ct (by omega), ct (by decide), ct (by rw [hp]; decide), show Int.toNat (3 : Int) = 3 from rfl]
    have ih := pin5_row3 w ref slot st n idx X pin live s0 s1 s2 s3 s4 hl hp hx d (m + 1) f (by omega)
    by_cases hb : pin.getD 3 false = true
    · rw [hb, cond_true, Int.toNat_natCast]
      have hn := hx hb (s3.getD m (0, 0)) (by rw [getD_get s3 m _ (by omega)]; exact List.getElem_mem _)
      rw [no2 hn, cond_false, wi (by omega)]
      exact ih
    · rw [show pin.getD 3 false = false by simpa using hb, cond_false, wi (by omega)]
      exact ih
theorem pin5_row4 (w ref slot : Int) (st : List Int) (n idx : Int) (X : Sh) (pin : List Bool) (live : Row) (s0 s1 s2 s3 s4 : Row) (hl : s4.length ≤ 1000) (hp : pin.length = 5) (hx : pin.getD 4 false = true → ∀ x ∈ s4, ¬ (x.1 = w ∧ x.2 = slot)) : ∀ (d m f : Nat), m + d = s4.length →
    tendrillaw07_ArenaPinned_5_L122 (f + d + 1) 5 w ref slot 4 st n idx (((5 : Nat) : Int)) 4 (s4.length : Int) (m : Int) X.1 X.2.1 X.2.2.1.1.1 X.2.2.1.1.2.1 X.2.2.1.1.2.2.1 X.2.2.1.1.2.2.2 X.2.2.1.2.1.1 X.2.2.1.2.1.2.1 X.2.2.1.2.1.2.2.1 X.2.2.1.2.1.2.2.2 X.2.2.1.2.2.1 X.2.2.1.2.2.2.1 X.2.2.1.2.2.2.2.1 X.2.2.1.2.2.2.2.2 X.2.2.2.1 X.2.2.2.2 pin live s4 s0 s1 s2 s3 = tendrillaw07_ArenaPinned_5_L116 f 5 w ref slot st n idx (((5 : Nat) : Int)) 5 X.1 X.2.1 X.2.2.1.1.1 X.2.2.1.1.2.1 X.2.2.1.1.2.2.1 X.2.2.1.1.2.2.2 X.2.2.1.2.1.1 X.2.2.1.2.1.2.1 X.2.2.1.2.1.2.2.1 X.2.2.1.2.1.2.2.2 X.2.2.1.2.2.1 X.2.2.1.2.2.2.1 X.2.2.1.2.2.2.2.1 X.2.2.1.2.2.2.2.2 X.2.2.2.1 X.2.2.2.2 pin live s0 s1 s2 s3 s4
  | 0, m, f, h => by
    rw [tendrillaw07_ArenaPinned_5_L122, cf (by omega), show wrap64 ((4 : Int) + 1) = 5 by rw [w64 (by decide) (by decide)]; rfl]
  | d + 1, m, f, h => by
    rw [show f + (d + 1) + 1 = (f + d + 1) + 1 by omega, tendrillaw07_ArenaPinned_5_L122, ct (by omega), ct (by omega), ct (by omega), ct (by decide), ct (by rw [hp]; decide), show Int.toNat (4 : Int) = 4 from rfl]
    have ih := pin5_row4 w ref slot st n idx X pin live s0 s1 s2 s3 s4 hl hp hx d (m + 1) f (by omega)
    by_cases hb : pin.getD 4 false = true
    · rw [hb, cond_true, Int.toNat_natCast]
      have hn := hx hb (s4.getD m (0, 0)) (by rw [getD_get s4 m _ (by omega)]; exact List.getElem_mem _)
      rw [no2 hn, cond_false, wi (by omega)]
      exact ih
    · rw [show pin.getD 4 false = false by simpa using hb, cond_false, wi (by omega)]
      exact ih
theorem pin5_take (w ref slot : Int) (st : List Int) (n idx : Int) (X : Sh) (pin : List Bool) (live : Row) (s0 s1 s2 s3 s4 : Row) (hp : pin.length = 5) (hL : live.length ≤ 1000) (l0 : s0.length ≤ 1000) (h0 : pin.getD 0 false = true → ∀ x ∈ s0, ¬ (x.1 = w ∧ x.2 = slot)) (l1 : s1.length ≤ 1000) (h1 : pin.getD 1 false = true → ∀ x ∈ s1, ¬ (x.1 = w ∧ x.2 = slot)) (l2 : s2.length ≤ 1000) (h2 : pin.getD 2 false = true → ∀ x ∈ s2, ¬ (x.1 = w ∧ x.2 = slot)) (l3 : s3.length ≤ 1000) (h3 : pin.getD 3 false = true → ∀ x ∈ s3, ¬ (x.1 = w ∧ x.2 = slot)) (l4 : s4.length ≤ 1000) (h4 : pin.getD 4 false = true → ∀ x ∈ s4, ¬ (x.1 = w ∧ x.2 = slot)) (K : Nat) (hK : (s0.length + 2) + (s1.length + 2) + (s2.length + 2) + (s3.length + 2) + (s4.length + 2) + 1 ≤ K) :
    ∃ f, f + (s0.length + 2) + (s1.length + 2) + (s2.length + 2) + (s3.length + 2) + (s4.length + 2) + 1 = K ∧ tendrillaw07_ArenaPinned_5_L116 K 5 w ref slot st n idx (((5 : Nat) : Int)) 0 X.1 X.2.1 X.2.2.1.1.1 X.2.2.1.1.2.1 X.2.2.1.1.2.2.1 X.2.2.1.1.2.2.2 X.2.2.1.2.1.1 X.2.2.1.2.1.2.1 X.2.2.1.2.1.2.2.1 X.2.2.1.2.1.2.2.2 X.2.2.1.2.2.1 X.2.2.1.2.2.2.1 X.2.2.1.2.2.2.2.1 X.2.2.1.2.2.2.2.2 X.2.2.2.1 X.2.2.2.2 pin live s0 s1 s2 s3 s4 = tendrillaw07_ArenaPinned_5_L26 f 5 st n (wrap64 (idx + 1)) X.1 X.2.1 X.2.2.1.1.1 X.2.2.1.1.2.1 X.2.2.1.1.2.2.1 X.2.2.1.1.2.2.2 X.2.2.1.2.1.1 X.2.2.1.2.1.2.1 X.2.2.1.2.1.2.2.1 X.2.2.1.2.1.2.2.2 X.2.2.1.2.2.1 X.2.2.1.2.2.2.1 X.2.2.1.2.2.2.2.1 X.2.2.1.2.2.2.2.2 X.2.2.2.1 X.2.2.2.2 pin (live ++ [(w, ref)]) s0 s1 s2 s3 s4 := by
  obtain ⟨f, rfl⟩ : ∃ f, K = (((((f + 1 + s4.length + 1) + 1 + s3.length + 1) + 1 + s2.length + 1) + 1 + s1.length + 1) + 1 + s0.length + 1) + 1 := ⟨K - ((s0.length + 2) + (s1.length + 2) + (s2.length + 2) + (s3.length + 2) + (s4.length + 2) + 1), by omega⟩
  refine ⟨f, by omega, ?_⟩
  rw [tendrillaw07_ArenaPinned_5_L116, ct (by decide), cf (by decide), cf (by decide), cf (by decide), cf (by decide), ct (by decide)]
  refine (pin5_row0 w ref slot st n idx X pin live s0 s1 s2 s3 s4 l0 hp h0 s0.length 0 _ (by omega)).trans ?_
  rw [tendrillaw07_ArenaPinned_5_L116, ct (by decide), cf (by decide), cf (by decide), cf (by decide), ct (by decide)]
  refine (pin5_row1 w ref slot st n idx X pin live s0 s1 s2 s3 s4 l1 hp h1 s1.length 0 _ (by omega)).trans ?_
  rw [tendrillaw07_ArenaPinned_5_L116, ct (by decide), cf (by decide), cf (by decide), ct (by decide)]
  refine (pin5_row2 w ref slot st n idx X pin live s0 s1 s2 s3 s4 l2 hp h2 s2.length 0 _ (by omega)).trans ?_
  rw [tendrillaw07_ArenaPinned_5_L116, ct (by decide), cf (by decide), ct (by decide)]
  refine (pin5_row3 w ref slot st n idx X pin live s0 s1 s2 s3 s4 l3 hp h3 s3.length 0 _ (by omega)).trans ?_
  rw [tendrillaw07_ArenaPinned_5_L116, ct (by decide), ct (by decide)]
  refine (pin5_row4 w ref slot st n idx X pin live s0 s1 s2 s3 s4 l4 hp h4 s4.length 0 _ (by omega)).trans ?_
  rw [tendrillaw07_ArenaPinned_5_L116, cf (by decide), ct (by simp only [List.length_cons, List.length_nil]; omega)]
theorem pin5_ret0 (w ref slot : Int) (st : List Int) (n idx : Int) (X : Sh) (pin : List Bool) (live : Row) (s0 s1 s2 s3 s4 : Row) (hp : pin.length = 5) (hl : s0.length ≤ 1000) (f : Nat) :
    tendrillaw07_ArenaPinned_5_L62 (f + 1) 5 slot st n idx (((5 : Nat) : Int)) 0 X.1 X.2.1 X.2.2.1.1.1 X.2.2.1.1.2.1 X.2.2.1.1.2.2.1 X.2.2.1.1.2.2.2 X.2.2.1.2.1.1 X.2.2.1.2.1.2.1 X.2.2.1.2.1.2.2.1 X.2.2.1.2.1.2.2.2 X.2.2.1.2.2.1 X.2.2.1.2.2.2.1 X.2.2.1.2.2.2.2.1 X.2.2.1.2.2.2.2.2 X.2.2.2.1 X.2.2.2.2 pin live w ref s0 s1 s2 s3 s4 = tendrillaw07_ArenaPinned_5_L62 f 5 slot st n idx (((5 : Nat) : Int)) 1 X.1 X.2.1 X.2.2.1.1.1 X.2.2.1.1.2.1 X.2.2.1.1.2.2.1 X.2.2.1.1.2.2.2 X.2.2.1.2.1.1 X.2.2.1.2.1.2.1 X.2.2.1.2.1.2.2.1 X.2.2.1.2.1.2.2.2 X.2.2.1.2.2.1 X.2.2.1.2.2.2.1 X.2.2.1.2.2.2.2.1 X.2.2.1.2.2.2.2.2 X.2.2.2.1 X.2.2.2.2 pin live w ref (if pin.getD 0 false = true then s0 ++ [(w, slot)] else s0) s1 s2 s3 s4 := by
  rw [tendrillaw07_ArenaPinned_5_L62, ct (by decide), ct (by decide), ct (by rw [hp]; decide), show Int.toNat (0 : Int) = 0 from rfl, show wrap64 ((0 : Int) + 1) = 1 by rw [w64 (by decide) (by decide)]; rfl]
  by_cases hb : pin.getD 0 false = true
  · rw [if_pos hb, hb, cond_true, cf (by decide), cf (by decide), cf (by decide), cf (by decide), ct (by decide), ct (by simp only [List.length_cons, List.length_nil]; omega), cf (by decide), cf (by decide), cf (by decide), cf (by decide), ct (by decide)]
  · rw [if_neg hb, show pin.getD 0 false = false by simpa using hb, cond_false]
theorem pin5_ret1 (w ref slot : Int) (st : List Int) (n idx : Int) (X : Sh) (pin : List Bool) (live : Row) (s0 s1 s2 s3 s4 : Row) (hp : pin.length = 5) (hl : s1.length ≤ 1000) (f : Nat) :
    tendrillaw07_ArenaPinned_5_L62 (f + 1) 5 slot st n idx (((5 : Nat) : Int)) 1 X.1 X.2.1 X.2.2.1.1.1 X.2.2.1.1.2.1 X.2.2.1.1.2.2.1 X.2.2.1.1.2.2.2 X.2.2.1.2.1.1 X.2.2.1.2.1.2.1 X.2.2.1.2.1.2.2.1 X.2.2.1.2.1.2.2.2 X.2.2.1.2.2.1 X.2.2.1.2.2.2.1 X.2.2.1.2.2.2.2.1 X.2.2.1.2.2.2.2.2 X.2.2.2.1 X.2.2.2.2 pin live w ref s0 s1 s2 s3 s4 = tendrillaw07_ArenaPinned_5_L62 f 5 slot st n idx (((5 : Nat) : Int)) 2 X.1 X.2.1 X.2.2.1.1.1 X.2.2.1.1.2.1 X.2.2.1.1.2.2.1 X.2.2.1.1.2.2.2 X.2.2.1.2.1.1 X.2.2.1.2.1.2.1 X.2.2.1.2.1.2.2.1 X.2.2.1.2.1.2.2.2 X.2.2.1.2.2.1 X.2.2.1.2.2.2.1 X.2.2.1.2.2.2.2.1 X.2.2.1.2.2.2.2.2 X.2.2.2.1 X.2.2.2.2 pin live w ref s0 (if pin.getD 1 false = true then s1 ++ [(w, slot)] else s1) s2 s3 s4 := by
  rw [tendrillaw07_ArenaPinned_5_L62, ct (by decide), ct (by decide), ct (by rw [hp]; decide), show Int.toNat (1 : Int) = 1 from rfl, show wrap64 ((1 : Int) + 1) = 2 by rw [w64 (by decide) (by decide)]; rfl]
  by_cases hb : pin.getD 1 false = true
  · rw [if_pos hb, hb, cond_true, cf (by decide), cf (by decide), cf (by decide), ct (by decide), ct (by simp only [List.length_cons, List.length_nil]; omega), cf (by decide), cf (by decide), cf (by decide), ct (by decide)]
  · rw [if_neg hb, show pin.getD 1 false = false by simpa using hb, cond_false]
theorem pin5_ret2 (w ref slot : Int) (st : List Int) (n idx : Int) (X : Sh) (pin : List Bool) (live : Row) (s0 s1 s2 s3 s4 : Row) (hp : pin.length = 5) (hl : s2.length ≤ 1000) (f : Nat) :
    tendrillaw07_ArenaPinned_5_L62 (f + 1) 5 slot st n idx (((5 : Nat) : Int)) 2 X.1 X.2.1 X.2.2.1.1.1 X.2.2.1.1.2.1 X.2.2.1.1.2.2.1 X.2.2.1.1.2.2.2 X.2.2.1.2.1.1 X.2.2.1.2.1.2.1 X.2.2.1.2.1.2.2.1 X.2.2.1.2.1.2.2.2 X.2.2.1.2.2.1 X.2.2.1.2.2.2.1 X.2.2.1.2.2.2.2.1 X.2.2.1.2.2.2.2.2 X.2.2.2.1 X.2.2.2.2 pin live w ref s0 s1 s2 s3 s4 = tendrillaw07_ArenaPinned_5_L62 f 5 slot st n idx (((5 : Nat) : Int)) 3 X.1 X.2.1 X.2.2.1.1.1 X.2.2.1.1.2.1 X.2.2.1.1.2.2.1 X.2.2.1.1.2.2.2 X.2.2.1.2.1.1 X.2.2.1.2.1.2.1 X.2.2.1.2.1.2.2.1 X.2.2.1.2.1.2.2.2 X.2.2.1.2.2.1 X.2.2.1.2.2.2.1 X.2.2.1.2.2.2.2.1 X.2.2.1.2.2.2.2.2 X.2.2.2.1 X.2.2.2.2 pin live w ref s0 s1 (if pin.getD 2 false = true then s2 ++ [(w, slot)] else s2) s3 s4 := by
  rw [tendrillaw07_ArenaPinned_5_L62, ct (by decide), ct (by decide), ct (by rw [hp]; decide), show Int.toNat (2 : Int) = 2 from rfl, show wrap64 ((2 : Int) + 1) = 3 by rw [w64 (by decide) (by decide)]; rfl]
  by_cases hb : pin.getD 2 false = true
  · rw [if_pos hb, hb, cond_true, cf (by decide), cf (by decide), ct (by decide), ct (by simp only [List.length_cons, List.length_nil]; omega), cf (by decide), cf (by decide), ct (by decide)]
  · rw [if_neg hb, show pin.getD 2 false = false by simpa using hb, cond_false]
theorem pin5_ret3 (w ref slot : Int) (st : List Int) (n idx : Int) (X : Sh) (pin : List Bool) (live : Row) (s0 s1 s2 s3 s4 : Row) (hp : pin.length = 5) (hl : s3.length ≤ 1000) (f : Nat) :
    tendrillaw07_ArenaPinned_5_L62 (f + 1) 5 slot st n idx (((5 : Nat) : Int)) 3 X.1 X.2.1 X.2.2.1.1.1 X.2.2.1.1.2.1 X.2.2.1.1.2.2.1 X.2.2.1.1.2.2.2 X.2.2.1.2.1.1 X.2.2.1.2.1.2.1 X.2.2.1.2.1.2.2.1 X.2.2.1.2.1.2.2.2 X.2.2.1.2.2.1 X.2.2.1.2.2.2.1 X.2.2.1.2.2.2.2.1 X.2.2.1.2.2.2.2.2 X.2.2.2.1 X.2.2.2.2 pin live w ref s0 s1 s2 s3 s4 = tendrillaw07_ArenaPinned_5_L62 f 5 slot st n idx (((5 : Nat) : Int)) 4 X.1 X.2.1 X.2.2.1.1.1 X.2.2.1.1.2.1 X.2.2.1.1.2.2.1 X.2.2.1.1.2.2.2 X.2.2.1.2.1.1 X.2.2.1.2.1.2.1 X.2.2.1.2.1.2.2.1 X.2.2.1.2.1.2.2.2 X.2.2.1.2.2.1 X.2.2.1.2.2.2.1 X.2.2.1.2.2.2.2.1 X.2.2.1.2.2.2.2.2 X.2.2.2.1 X.2.2.2.2 pin live w ref s0 s1 s2 (if pin.getD 3 false = true then s3 ++ [(w, slot)] else s3) s4 := by
  rw [tendrillaw07_ArenaPinned_5_L62, ct (by decide), ct (by decide), ct (by rw [hp]; decide), show Int.toNat (3 : Int) = 3 from rfl, show wrap64 ((3 : Int) + 1) = 4 by rw [w64 (by decide) (by decide)]; rfl]
  by_cases hb : pin.getD 3 false = true
  · rw [if_pos hb, hb, cond_true, cf (by decide), ct (by decide), ct (by simp only [List.length_cons, List.length_nil]; omega), cf (by decide), ct (by decide)]
  · rw [if_neg hb, show pin.getD 3 false = false by simpa using hb, cond_false]
theorem pin5_ret4 (w ref slot : Int) (st : List Int) (n idx : Int) (X : Sh) (pin : List Bool) (live : Row) (s0 s1 s2 s3 s4 : Row) (hp : pin.length = 5) (hl : s4.length ≤ 1000) (f : Nat) :
    tendrillaw07_ArenaPinned_5_L62 (f + 1) 5 slot st n idx (((5 : Nat) : Int)) 4 X.1 X.2.1 X.2.2.1.1.1 X.2.2.1.1.2.1 X.2.2.1.1.2.2.1 X.2.2.1.1.2.2.2 X.2.2.1.2.1.1 X.2.2.1.2.1.2.1 X.2.2.1.2.1.2.2.1 X.2.2.1.2.1.2.2.2 X.2.2.1.2.2.1 X.2.2.1.2.2.2.1 X.2.2.1.2.2.2.2.1 X.2.2.1.2.2.2.2.2 X.2.2.2.1 X.2.2.2.2 pin live w ref s0 s1 s2 s3 s4 = tendrillaw07_ArenaPinned_5_L62 f 5 slot st n idx (((5 : Nat) : Int)) 5 X.1 X.2.1 X.2.2.1.1.1 X.2.2.1.1.2.1 X.2.2.1.1.2.2.1 X.2.2.1.1.2.2.2 X.2.2.1.2.1.1 X.2.2.1.2.1.2.1 X.2.2.1.2.1.2.2.1 X.2.2.1.2.1.2.2.2 X.2.2.1.2.2.1 X.2.2.1.2.2.2.1 X.2.2.1.2.2.2.2.1 X.2.2.1.2.2.2.2.2 X.2.2.2.1 X.2.2.2.2 pin live w ref s0 s1 s2 s3 (if pin.getD 4 false = true then s4 ++ [(w, slot)] else s4) := by
  rw [tendrillaw07_ArenaPinned_5_L62, ct (by decide), ct (by decide), ct (by rw [hp]; decide), show Int.toNat (4 : Int) = 4 from rfl, show wrap64 ((4 : Int) + 1) = 5 by rw [w64 (by decide) (by decide)]; rfl]
  by_cases hb : pin.getD 4 false = true
  · rw [if_pos hb, hb, cond_true, ct (by decide), ct (by simp only [List.length_cons, List.length_nil]; omega), ct (by decide)]
  · rw [if_neg hb, show pin.getD 4 false = false by simpa using hb, cond_false]
theorem pin5_ret (w ref slot : Int) (st : List Int) (n idx : Int) (X : Sh) (pin : List Bool) (live : Row) (s0 s1 s2 s3 s4 : Row) (hp : pin.length = 5) (l0 : s0.length ≤ 1000) (l1 : s1.length ≤ 1000) (l2 : s2.length ≤ 1000) (l3 : s3.length ≤ 1000) (l4 : s4.length ≤ 1000) (f : Nat) :
    tendrillaw07_ArenaPinned_5_L62 (f + 6) 5 slot st n idx (((5 : Nat) : Int)) 0 X.1 X.2.1 X.2.2.1.1.1 X.2.2.1.1.2.1 X.2.2.1.1.2.2.1 X.2.2.1.1.2.2.2 X.2.2.1.2.1.1 X.2.2.1.2.1.2.1 X.2.2.1.2.1.2.2.1 X.2.2.1.2.1.2.2.2 X.2.2.1.2.2.1 X.2.2.1.2.2.2.1 X.2.2.1.2.2.2.2.1 X.2.2.1.2.2.2.2.2 X.2.2.2.1 X.2.2.2.2 pin live w ref s0 s1 s2 s3 s4 = tendrillaw07_ArenaPinned_5_L26 f 5 st n (wrap64 (idx + 1)) X.1 X.2.1 X.2.2.1.1.1 X.2.2.1.1.2.1 X.2.2.1.1.2.2.1 X.2.2.1.1.2.2.2 X.2.2.1.2.1.1 X.2.2.1.2.1.2.1 X.2.2.1.2.1.2.2.1 X.2.2.1.2.1.2.2.2 X.2.2.1.2.2.1 X.2.2.1.2.2.2.1 X.2.2.1.2.2.2.2.1 X.2.2.1.2.2.2.2.2 X.2.2.2.1 X.2.2.2.2 pin live (if pin.getD 0 false = true then s0 ++ [(w, slot)] else s0) (if pin.getD 1 false = true then s1 ++ [(w, slot)] else s1) (if pin.getD 2 false = true then s2 ++ [(w, slot)] else s2) (if pin.getD 3 false = true then s3 ++ [(w, slot)] else s3) (if pin.getD 4 false = true then s4 ++ [(w, slot)] else s4) := by
  refine (pin5_ret0 w ref slot st n idx X pin live s0 s1 s2 s3 s4 hp l0 (f + 5)).trans ?_
  refine (pin5_ret1 w ref slot st n idx X pin live (if pin.getD 0 false = true then s0 ++ [(w, slot)] else s0) s1 s2 s3 s4 hp l1 (f + 4)).trans ?_
  refine (pin5_ret2 w ref slot st n idx X pin live (if pin.getD 0 false = true then s0 ++ [(w, slot)] else s0) (if pin.getD 1 false = true then s1 ++ [(w, slot)] else s1) s2 s3 s4 hp l2 (f + 3)).trans ?_
  refine (pin5_ret3 w ref slot st n idx X pin live (if pin.getD 0 false = true then s0 ++ [(w, slot)] else s0) (if pin.getD 1 false = true then s1 ++ [(w, slot)] else s1) (if pin.getD 2 false = true then s2 ++ [(w, slot)] else s2) s3 s4 hp l3 (f + 2)).trans ?_
  refine (pin5_ret4 w ref slot st n idx X pin live (if pin.getD 0 false = true then s0 ++ [(w, slot)] else s0) (if pin.getD 1 false = true then s1 ++ [(w, slot)] else s1) (if pin.getD 2 false = true then s2 ++ [(w, slot)] else s2) (if pin.getD 3 false = true then s3 ++ [(w, slot)] else s3) s4 hp l4 (f + 1)).trans ?_
  rw [tendrillaw07_ArenaPinned_5_L62, cf (by decide)]
set_option maxHeartbeats 0 in
set_option maxRecDepth 10000 in
theorem pin5_steps (st : List Int) (hm : st.length ≤ 120) (hst : ∀ v ∈ st, v ≤ 9223372036854775807) : ∀ (d K i : Nat) (s : Sh) (pin : List Bool) (live : Row) (s0 s1 s2 s3 s4 : Row), i + d = st.length → d * 1000 + 1 ≤ K → Inv 5 i s pin live [s0, s1, s2, s3, s4] →
    tendrillaw07_ArenaPinned_5_L26 K 5 st st.length i s.1 s.2.1 s.2.2.1.1.1 s.2.2.1.1.2.1 s.2.2.1.1.2.2.1 s.2.2.1.1.2.2.2 s.2.2.1.2.1.1 s.2.2.1.2.1.2.1 s.2.2.1.2.1.2.2.1 s.2.2.1.2.1.2.2.2 s.2.2.1.2.2.1 s.2.2.1.2.2.2.1 s.2.2.1.2.2.2.2.1 s.2.2.1.2.2.2.2.2 s.2.2.2.1 s.2.2.2.2 pin live s0 s1 s2 s3 s4 = some true
  | 0, K, i, s, pin, live, s0, s1, s2, s3, s4, hd, hK, I => by
    obtain ⟨K, rfl⟩ : ∃ K', K = K' + 1 := ⟨K - 1, by omega⟩
    rw [tendrillaw07_ArenaPinned_5_L26, cf (by omega), etaS, pcheckA_eq s I.few, chk_pos I.ok]
    rfl
  | d + 1, K, i, s, pin, live, s0, s1, s2, s3, s4, hd, hK, I => by
    have ih := pin5_steps st hm hst d
    obtain ⟨K, rfl⟩ : ∃ K', K = K' + 1 := ⟨K - 1, by omega⟩
    have l0 : s0.length ≤ i := I.lr 0 (by omega)
    have l1 : s1.length ≤ i := I.lr 1 (by omega)
    have l2 : s2.length ≤ i := I.lr 2 (by omega)
    have l3 : s3.length ≤ i := I.lr 3 (by omega)
    have l4 : s4.length ≤ i := I.lr 4 (by omega)
    have hl := I.ll
    rw [tendrillaw07_ArenaPinned_5_L26, ct (by omega), ct (by omega), ct (by omega), Int.toNat_natCast]
    have hv := hst (st.getD i 0) (by rw [getD_get st i 0 (by omega)]; exact List.getElem_mem _)
    generalize st.getD i 0 = v at hv ⊢
    by_cases a : v < 0
    · rw [ct a]
    rw [cf a, cf (by decide)]
    have hA0 : 0 ≤ wrap64 (v.tdiv 6) := by rw [(tdm v 6 (by omega)).1, w64 (by omega) (by omega)]; omega
    have hA1 : wrap64 (v.tdiv 6) ≤ 9223372036854775807 := by rw [(tdm v 6 (by omega)).1, w64 (by omega) (by omega)]; omega
    generalize wrap64 (v.tdiv 6) = A at hA0 hA1 ⊢
    have w3 : wrap64 (A % 3 + 1) = A % 3 + 1 := w64 (by omega) (by omega)
    rw [show A.tmod 5 = A % 5 from (tdm A 5 hA0).2, show A.tmod 3 = A % 3 from (tdm A 3 hA0).2]
    have t0 : 0 ≤ A % 5 := by omega
    have t1 : A % 5 < 5 := by omega
    rw [eqc]
    by_cases c0 : v.tmod 6 = 0
    · rw [if_pos c0]
      clear w3
      generalize A % 5 = t at t0 t1 ⊢
      rw [etaS, ppinA_eq s t I.few, Option.bind_some, eqc]
      by_cases e : (pinA s t).2 = 0
      · rw [if_pos e, ct t0, ct (by rw [I.lb]; exact t1), wi (by omega)]
        rcases (show t = 0 ∨ t = 1 ∨ t = 2 ∨ t = 3 ∨ t = 4 by omega) with rfl | rfl | rfl | rfl | rfl
        · rw [cf (by decide), cf (by decide), cf (by decide), cf (by decide), ct (by decide)]
          exact ih K (i + 1) (pinA s 0).1 _ live [] s1 s2 s3 s4 (by omega) (by omega) ((inv_pin I e).more (by omega))
        · rw [cf (by decide), cf (by decide), cf (by decide), ct (by decide)]
          exact ih K (i + 1) (pinA s 1).1 _ live s0 [] s2 s3 s4 (by omega) (by omega) ((inv_pin I e).more (by omega))
        · rw [cf (by decide), cf (by decide), ct (by decide)]
          exact ih K (i + 1) (pinA s 2).1 _ live s0 s1 [] s3 s4 (by omega) (by omega) ((inv_pin I e).more (by omega))
        · rw [cf (by decide), ct (by decide)]
          exact ih K (i + 1) (pinA s 3).1 _ live s0 s1 s2 [] s4 (by omega) (by omega) ((inv_pin I e).more (by omega))
        · rw [ct (by decide)]
          exact ih K (i + 1) (pinA s 4).1 _ live s0 s1 s2 s3 [] (by omega) (by omega) ((inv_pin I e).more (by omega))
      · rw [if_neg e, wi (by omega)]
        exact ih K (i + 1) s pin live s0 s1 s2 s3 s4 (by omega) (by omega) (I.more (by omega))
    rw [if_neg c0, eqc]
    by_cases c1 : v.tmod 6 = 1
    · rw [if_pos c1]
      clear w3
      generalize A % 5 = t at t0 t1 ⊢
      rw [etaS, pendA_eq s t I.few, Option.bind_some, eqc]
      by_cases e : (endA s t).2 = 0
      · rw [if_pos e, ct t0, ct (by rw [I.lb]; exact t1), wi (by omega)]
        exact ih K (i + 1) (endA s t).1 _ live s0 s1 s2 s3 s4 (by omega) (by omega) ((inv_end I e).more (by omega))
      · rw [if_neg e, wi (by omega)]
        exact ih K (i + 1) s pin live s0 s1 s2 s3 s4 (by omega) (by omega) (I.more (by omega))
    rw [if_neg c1, eqc]
    by_cases c2 : v.tmod 6 = 2
    · rw [if_pos c2, etaS, pturnA_eq s I.few, Option.bind_some, wi (by omega)]
      exact ih K (i + 1) (turnA s).1 pin live s0 s1 s2 s3 s4 (by omega) (by omega) ((inv_turn I).more (by omega))
    rw [if_neg c2, eqc]
    by_cases c3 : v.tmod 6 = 3
    · rw [if_pos c3]
      rw [w3, etaS, ptakeA_eq s (A % 3 + 1) I.few, Option.bind_some, nec]
      by_cases e : (takeA s (A % 3 + 1)).2.2 = 0
      · rw [if_pos e]
        obtain ⟨hr, hu, J, hne⟩ := inv_take I e
        rw [unpack_eq _ hr, Option.bind_some, nec, if_pos hu]
        obtain ⟨f, hf, e2⟩ := pin5_take (A % 3 + 1) (takeA s (A % 3 + 1)).2.1 (unpackV (takeA s (A % 3 + 1)).2.1).1 st st.length i (takeA s (A % 3 + 1)).1 pin live s0 s1 s2 s3 s4 I.lb (by omega) (by omega) (hne 0 (by omega)) (by omega) (hne 1 (by omega)) (by omega) (hne 2 (by omega)) (by omega) (hne 3 (by omega)) (by omega) (hne 4 (by omega)) K (by omega)
        refine e2.trans ?_
        rw [wi (by omega)]
        exact ih f (i + 1) _ _ _ s0 s1 s2 s3 s4 (by omega) (by omega) J
      · rw [if_neg e, wi (by omega)]
        exact ih K (i + 1) s pin live s0 s1 s2 s3 s4 (by omega) (by omega) (I.more (by omega))

    rw [if_neg c3, eqc]
    by_cases c4 : v.tmod 6 = 4
    · rw [if_pos c4]
      rw [w3, etaS, ptakeA_eq s (A % 3 + 1) I.few, Option.bind_some, nec]
      by_cases e : (takeA s (A % 3 + 1)).2.2 = 0
      · rw [if_pos e]
        obtain ⟨hr, hu, J, hne⟩ := inv_take I e
        rw [unpack_eq _ hr, Option.bind_some, nec, if_pos hu]
        obtain ⟨f, hf, e2⟩ := pin5_take (A % 3 + 1) (takeA s (A % 3 + 1)).2.1 (unpackV (takeA s (A % 3 + 1)).2.1).1 st st.length i (takeA s (A % 3 + 1)).1 pin live s0 s1 s2 s3 s4 I.lb (by omega) (by omega) (hne 0 (by omega)) (by omega) (hne 1 (by omega)) (by omega) (hne 2 (by omega)) (by omega) (hne 3 (by omega)) (by omega) (hne 4 (by omega)) K (by omega)
        refine e2.trans ?_
        rw [wi (by omega)]
        exact ih f (i + 1) _ _ _ s0 s1 s2 s3 s4 (by omega) (by omega) J
      · rw [if_neg e, wi (by omega)]
        exact ih K (i + 1) s pin live s0 s1 s2 s3 s4 (by omega) (by omega) (I.more (by omega))

    rw [if_neg c4, eqc]
    by_cases z : (live.length : Int) = 0
    · rw [if_pos z, wi (by omega)]
      exact ih K (i + 1) s pin live s0 s1 s2 s3 s4 (by omega) (by omega) (I.more (by omega))
    rw [if_neg z, cf z]
    have b0 : 0 ≤ A.tmod (live.length : Int) := by rw [(tdm A live.length hA0).2]; exact Int.emod_nonneg _ z
    have b1 : A.tmod (live.length : Int) < (live.length : Int) := by rw [(tdm A live.length hA0).2]; exact Int.emod_lt_of_pos _ (by omega)
    generalize A.tmod (live.length : Int) = b at b0 b1 ⊢
    obtain ⟨b, rfl⟩ := Int.eq_ofNat_of_zero_le b0
    have hb : b < live.length := by omega
    rw [wi (by omega)]
    simp only [Int.toNat_natCast]
    rw [ct (by omega), ct (by omega), ct (by omega), ct (by omega), ct (by simp; omega), ct (by omega), ct (by omega), ct (by simp; omega)]
    obtain ⟨y, hy⟩ : ∃ y, live.getD b (0, 0) = y := ⟨_, rfl⟩
    rw [hy, List.drop_zero, List.take_length]
    obtain ⟨r1, r2, r3, J⟩ := inv_ret (seen' := [(if pin.getD 0 false = true then s0 ++ [(y.1, (unpackV y.2).1)] else s0), (if pin.getD 1 false = true then s1 ++ [(y.1, (unpackV y.2).1)] else s1), (if pin.getD 2 false = true then s2 ++ [(y.1, (unpackV y.2).1)] else s2), (if pin.getD 3 false = true then s3 ++ [(y.1, (unpackV y.2).1)] else s3), (if pin.getD 4 false = true then s4 ++ [(y.1, (unpackV y.2).1)] else s4)]) I hb hy rfl (fun j hj => by
      rcases (show j = 0 ∨ j = 1 ∨ j = 2 ∨ j = 3 ∨ j = 4 by omega) with rfl | rfl | rfl | rfl | rfl <;> rfl)
    rw [etaS, pretA_eq s y.1 y.2 I.few r1, Option.bind_some, unpack_eq _ r1, Option.bind_some, nec, if_pos r3, nec, if_pos r2]
    obtain ⟨f, rfl⟩ : ∃ f, K = f + 6 := ⟨K - 6, by omega⟩
    refine (pin5_ret y.1 y.2 (unpackV y.2).1 st st.length i (retA s y.1 y.2).1 pin (live.take b ++ live.drop (b + 1)) s0 s1 s2 s3 s4 I.lb (by omega) (by omega) (by omega) (by omega) (by omega) f).trans ?_
    rw [wi (by omega)]
    exact ih f (i + 1) _ _ _ _ _ _ _ _ (by omega) (by omega) J

theorem pin5 (K : Nat) (hK : 130000 ≤ K) (x : (Int × Int × Int × Int × Int) × List Int) (hx : ∀ v ∈ x.2, v ≤ 9223372036854775807) : tendrillaw07_ArenaPinned_5_K K x = some true := by
  obtain ⟨c, st⟩ := x
  unfold tendrillaw07_ArenaPinned_5_K
  rw [live7_eq, Option.bind_some, Bool.not_true, cond_false]
  by_cases h : (120 : Int) < (st.length : Int)
  · rw [ct h]
  rw [cf h, show ((c.1, c.2.1, c.2.2.1, c.2.2.2.1, c.2.2.2.2) : Int × Int × Int × Int × Int) = c from rfl, pnewA_eq, Option.bind_some, nec]
  by_cases e : (newA c 5).2 = 0
  · rw [if_pos e]
    exact pin5_steps st (by omega) hx st.length K 0 (newA c 5).1 _ [] [] [] [] [] [] (by omega) (by omega) (inv_new (n := 5) e)
  · rw [if_neg e, newA_no e]
    rfl

/-! ### 6 -/
theorem pin6_row0 (w ref slot : Int) (st : List Int) (n idx : Int) (X : Sh) (pin : List Bool) (live : Row) (s0 s1 s2 s3 s4 s5 : Row) (hl : s0.length ≤ 1000) (hp : pin.length = 6) (hx : pin.getD 0 false = true → ∀ x ∈ s0, ¬ (x.1 = w ∧ x.2 = slot)) : ∀ (d m f : Nat), m + d = s0.length →
    tendrillaw07_ArenaPinned_6_L122x5 (f + d + 1) 6 w ref slot 0 st n idx (((6 : Nat) : Int)) 0 (s0.length : Int) (m : Int) X.1 X.2.1 X.2.2.1.1.1 X.2.2.1.1.2.1 X.2.2.1.1.2.2.1 X.2.2.1.1.2.2.2 X.2.2.1.2.1.1 X.2.2.1.2.1.2.1 X.2.2.1.2.1.2.2.1 X.2.2.1.2.1.2.2.2 X.2.2.1.2.2.1 X.2.2.1.2.2.2.1 X.2.2.1.2.2.2.2.1 X.2.2.1.2.2.2.2.2 X.2.2.2.1 X.2.2.2.2 pin live s0 s1 s2 s3 s4 s5 = tendrillaw07_ArenaPinned_6_L116 f 6 w ref slot st n idx (((6 : Nat) : Int)) 1 X.1 X.2.1 X.2.2.1.1.1 X.2.2.1.1.2.1 X.2.2.1.1.2.2.1 X.2.2.1.1.2.2.2 X.2.2.1.2.1.1 X.2.2.1.2.1.2.1 X.2.2.1.2.1.2.2.1 X.2.2.1.2.1.2.2.2 X.2.2.1.2.2.1 X.2.2.1.2.2.2.1 X.2.2.1.2.2.2.2.1 X.2.2.1.2.2.2.2.2 X.2.2.2.1 X.2.2.2.2 pin live s0 s1 s2 s3 s4 s5
  | 0, m, f, h => by
    rw [tendrillaw07_ArenaPinned_6_L122x5, cf (by omega), show wrap64 ((0 : Int) + 1) = 1 by rw [w64 (by decide) (by decide)]; rfl]
  | d + 1, m, f, h => by
    rw [show f + (d + 1) + 1 = (f + d + 1) + 1 by omega, tendrillaw07_ArenaPinned_6_L122x5, ct (by omega), ct (by omega), ct (by omega), ct (by decide), ct (by rw [hp]; decide), show Int.toNat (0 : Int) = 0 from rfl]
    have ih := pin6_row0 w ref slot st n idx X pin live s0 s1 s2 s3 s4 s5 hl hp hx d (m + 1) f (by omega)
    by_cases hb : pin.getD 0 false = true
    · rw [hb, cond_true, Int.toNat_natCast]
      have hn := hx hb (s0.getD m (0, 0)) (by rw [getD_get s0 m _ (by omega)]; exact List.getElem_mem _)
      rw [no2 hn, cond_false, wi (by omega)]
      exact ih
    · rw [show pin.getD 0 false = false by simpa using hb, cond_false, wi (by omega)]
      exact ih
theorem pin6_row1 (w ref slot : Int) (st : List Int) (n idx : Int) (X : Sh) (pin : List Bool) (live : Row) (s0 s1 s2 s3 s4 s5 : Row) (hl : s1.length ≤ 1000) (hp : pin.length = 6) (hx : pin.getD 1 false = true → ∀ x ∈ s1, ¬ (x.1 = w ∧ x.2 = slot)) : ∀ (d m f : Nat), m + d = s1.length →
    tendrillaw07_ArenaPinned_6_L122x4 (f + d + 1) 6 w ref slot 1 st n idx (((6 : Nat) : Int)) 1 (s1.length : Int) (m : Int) X.1 X.2.1 X.2.2.1.1.1 X.2.2.1.1.2.1 X.2.2.1.1.2.2.1 X.2.2.1.1.2.2.2 X.2.2.1.2.1.1 X.2.2.1.2.1.2.1 X.2.2.1.2.1.2.2.1 X.2.2.1.2.1.2.2.2 X.2.2.1.2.2.1 X.2.2.1.2.2.2.1 X.2.2.1.2.2.2.2.1 X.2.2.1.2.2.2.2.2 X.2.2.2.1 X.2.2.2.2 pin live s1 s0 s2 s3 s4 s5 = tendrillaw07_ArenaPinned_6_L116 f 6 w ref slot st n idx (((6 : Nat) : Int)) 2 X.1 X.2.1 X.2.2.1.1.1 X.2.2.1.1.2.1 X.2.2.1.1.2.2.1 X.2.2.1.1.2.2.2 X.2.2.1.2.1.1 X.2.2.1.2.1.2.1 X.2.2.1.2.1.2.2.1 X.2.2.1.2.1.2.2.2 X.2.2.1.2.2.1 X.2.2.1.2.2.2.1 X.2.2.1.2.2.2.2.1 X.2.2.1.2.2.2.2.2 X.2.2.2.1 X.2.2.2.2 pin live s0 s1 s2 s3 s4 s5
  | 0, m, f, h => by
    rw [tendrillaw07_ArenaPinned_6_L122x4, cf (by omega), show wrap64 ((1 : Int) + 1) = 2 by rw [w64 (by decide) (by decide)]; rfl]
  | d + 1, m, f, h => by
    rw [show f + (d + 1) + 1 = (f + d + 1) + 1 by omega, tendrillaw07_ArenaPinned_6_L122x4, ct (by omega), ct (by omega), ct (by omega), ct (by decide), ct (by rw [hp]; decide), show Int.toNat (1 : Int) = 1 from rfl]
    have ih := pin6_row1 w ref slot st n idx X pin live s0 s1 s2 s3 s4 s5 hl hp hx d (m + 1) f (by omega)
    by_cases hb : pin.getD 1 false = true
    · rw [hb, cond_true, Int.toNat_natCast]
      have hn := hx hb (s1.getD m (0, 0)) (by rw [getD_get s1 m _ (by omega)]; exact List.getElem_mem _)
      rw [no2 hn, cond_false, wi (by omega)]
      exact ih
    · rw [show pin.getD 1 false = false by simpa using hb, cond_false, wi (by omega)]
      exact ih
theorem pin6_row2 (w ref slot : Int) (st : List Int) (n idx : Int) (X : Sh) (pin : List Bool) (live : Row) (s0 s1 s2 s3 s4 s5 : Row) (hl : s2.length ≤ 1000) (hp : pin.length = 6) (hx : pin.getD 2 false = true → ∀ x ∈ s2, ¬ (x.1 = w ∧ x.2 = slot)) : ∀ (d m f : Nat), m + d = s2.length →
    tendrillaw07_ArenaPinned_6_L122x3 (f + d + 1) 6 w ref slot 2 st n idx (((6 : Nat) : Int)) 2 (s2.length : Int) (m : Int) X.1 X.2.1 X.2.2.1.1.1 X.2.2.1.1.2.1 X.2.2.1.1.2.2.1 X.2.2.1.1.2.2.2 X.2.2.1.2.1.1 X.2.2.1.2.1.2.1 X.2.2.1.2.1.2.2.1 X.2.2.1.2.1.2.2.2 X.2.2.1.2.2.1 X.2.2.1.2.2.2.1 X.2.2.1.2.2.2.2.1 X.2.2.1.2.2.2.2.2 X.2.2.2.1 X.2.2.2.2 pin live s2 s0 s1 s3 s4 s5 = tendrillaw07_ArenaPinned_6_L116 f 6 w ref slot st n idx (((6 : Nat) : Int)) 3 X.1 X.2.1 X.2.2.1.1.1 X.2.2.1.1.2.1 X.2.2.1.1.2.2.1 X.2.2.1.1.2.2.2 X.2.2.1.2.1.1 X.2.2.1.2.1.2.1 X.2.2.1.2.1.2.2.1 X.2.2.1.2.1.2.2.2 X.2.2.1.2.2.1 X.2.2.1.2.2.2.1 X.2.2.1.2.2.2.2.1 X.2.2.1.2.2.2.2.2 X.2.2.2.1 X.2.2.2.2 pin live s0 s1 s2 s3 s4 s5
  | 0, m, f, h => by
    rw [tendrillaw07_ArenaPinned_6_L122x3, cf (by omega), show wrap64 ((2 : Int) + 1) = 3 by rw [w64 (by decide) (by decide)]; rfl]
  | d + 1, m, f, h => by
    rw [show f + (d + 1) + 1 = (f + d + 1) + 1 by omega, tendrillaw07_ArenaPinned_6_L122x3, ct (by omega), ct (by omega), ct (by omega), ct (by decide), ct (by rw [hp]; decide), show Int.toNat (2 : Int) = 2 from rfl]
    have ih := pin6_row2 w ref slot st n idx X pin live s0 s1 s2 s3 s4 s5 hl hp hx d (m + 1) f (by omega)
    by_cases hb : pin.getD 2 false = true
    · rw [hb, cond_true, Int.toNat_natCast]
      have hn := hx hb (s2.getD m (0, 0)) (by rw [getD_get s2 m _ (by omega)]; exact List.getElem_mem _)
      rw [no2 hn, cond_false, wi (by omega)]
      exact ih
    · rw [show pin.getD 2 false = false by simpa using hb, cond_false, wi (by omega)]
      exact ih
theorem pin6_row3 (w ref slot : Int) (st : List Int) (n idx : Int) (X : Sh) (pin : List Bool) (live : Row) (s0 s1 s2 s3 s4 s5 : Row) (hl : s3.length ≤ 1000) (hp : pin.length = 6) (hx : pin.getD 3 false = true → ∀ x ∈ s3, ¬ (x.1 = w ∧ x.2 = slot)) : ∀ (d m f : Nat), m + d = s3.length →
    tendrillaw07_ArenaPinned_6_L122x2 (f + d + 1) 6 w ref slot 3 st n idx (((6 : Nat) : Int)) 3 (s3.length : Int) (m : Int) X.1 X.2.1 X.2.2.1.1.1 X.2.2.1.1.2.1 X.2.2.1.1.2.2.1 X.2.2.1.1.2.2.2 X.2.2.1.2.1.1 X.2.2.1.2.1.2.1 X.2.2.1.2.1.2.2.1 X.2.2.1.2.1.2.2.2 X.2.2.1.2.2.1 X.2.2.1.2.2.2.1 X.2.2.1.2.2.2.2.1 X.2.2.1.2.2.2.2.2 X.2.2.2.1 X.2.2.2.2 pin live s3 s0 s1 s2 s4 s5 = tendrillaw07_ArenaPinned_6_L116 f 6 w ref slot st n idx (((6 : Nat) : Int)) 4 X.1 X.2.1 X.2.2.1.1.1 X.2.2.1.1.2.1 X.2.2.1.1.2.2.1 X.2.2.1.1.2.2.2 X.2.2.1.2.1.1 X.2.2.1.2.1.2.1 X.2.2.1.2.1.2.2.1 X.2.2.1.2.1.2.2.2 X.2.2.1.2.2.1 X.2.2.1.2.2.2.1 X.2.2.1.2.2.2.2.1 X.2.2.1.2.2.2.2.2 X.2.2.2.1 X.2.2.2.2 pin live s0 s1 s2 s3 s4 s5
  | 0, m, f, h => by
    rw [tendrillaw07_ArenaPinned_6_L122x2, cf (by omega), show wrap64 ((3 : Int) + 1) = 4 by rw [w64 (by decide) (by decide)]; rfl]
  | d + 1, m, f, h => by
    rw [show f + (d + 1) + 1 = (f + d + 1) + 1 by omega, tendrillaw07_ArenaPinned_6_L122x2, ct (by omega), ct (by omega), ct (by omega), ct (by decide), ct (by rw [hp]; decide), show Int.toNat (3 : Int) = 3 from rfl]
    have ih := pin6_row3 w ref slot st n idx X pin live s0 s1 s2 s3 s4 s5 hl hp hx d (m + 1) f (by omega)
    by_cases hb : pin.getD 3 false = true
    · rw [hb, cond_true, Int.toNat_natCast]
      have hn := hx hb (s3.getD m (0, 0)) (by rw [getD_get s3 m _ (by omega)]; exact List.getElem_mem _)
      rw [no2 hn, cond_false, wi (by omega)]
      exact ih
    · rw [show pin.getD 3 false = false by simpa using hb, cond_false, wi (by omega)]
      exact ih
theorem pin6_row4 (w ref slot : Int) (st : List Int) (n idx : Int) (X : Sh) (pin : List Bool) (live : Row) (s0 s1 s2 s3 s4 s5 : Row) (hl : s4.length ≤ 1000) (hp : pin.length = 6) (hx : pin.getD 4 false = true → ∀ x ∈ s4, ¬ (x.1 = w ∧ x.2 = slot)) : ∀ (d m f : Nat), m + d = s4.length →
    tendrillaw07_ArenaPinned_6_L122x1 (f + d + 1) 6 w ref slot 4 st n idx (((6 : Nat) : Int)) 4 (s4.length : Int) (m : Int) X.1 X.2.1 X.2.2.1.1.1 X.2.2.1.1.2.1 X.2.2.1.1.2.2.1 X.2.2.1.1.2.2.2 X.2.2.1.2.1.1 X.2.2.1.2.1.2.1 X.2.2.1.2.1.2.2.1 X.2.2.1.2.1.2.2.2 X.2.2.1.2.2.1 X.2.2.1.2.2.2.1 X.2.2.1.2.2.2.2.1 X.2.2.1.2.2.2.2.2 X.2.2.2.1 X.2.2.2.2 pin live s4 s0 s1 s2 s3 s5 = tendrillaw07_ArenaPinned_6_L116 f 6 w ref slot st n idx (((6 : Nat) : Int)) 5 X.1 X.2.1 X.2.2.1.1.1 X.2.2.1.1.2.1 X.2.2.1.1.2.2.1 X.2.2.1.1.2.2.2 X.2.2.1.2.1.1 X.2.2.1.2.1.2.1 X.2.2.1.2.1.2.2.1 X.2.2.1.2.1.2.2.2 X.2.2.1.2.2.1 X.2.2.1.2.2.2.1 X.2.2.1.2.2.2.2.1 X.2.2.1.2.2.2.2.2 X.2.2.2.1 X.2.2.2.2 pin live s0 s1 s2 s3 s4 s5
  | 0, m, f, h => by
    rw [tendrillaw07_ArenaPinned_6_L122x1, cf (by omega), show wrap64 ((4 : Int) + 1) = 5 by rw [w64 (by decide) (by decide)]; rfl]
  | d + 1, m, f, h => by
    rw [show f + (d + 1) + 1 = (f + d + 1) + 1 by omega, tendrillaw07_ArenaPinned_6_L122x1, ct (by omega), ct (by omega), ct (by omega), ct (by decide), ct (by rw [hp]; decide), show Int.toNat (4 : Int) = 4 from rfl]
    have ih := pin6_row4 w ref slot st n idx X pin live s0 s1 s2 s3 s4 s5 hl hp hx d (m + 1) f (by omega)
    by_cases hb : pin.getD 4 false = true
    · rw [hb, cond_true, Int.toNat_natCast]
      have hn := hx hb (s4.getD m (0, 0)) (by rw [getD_get s4 m _ (by omega)]; exact List.getElem_mem _)
      rw [no2 hn, cond_false, wi (by omega)]
      exact ih
    · rw [show pin.getD 4 false = false by simpa using hb, cond_false, wi (by omega)]
      exact ih
theorem pin6_row5 (w ref slot : Int) (st : List Int) (n idx : Int) (X : Sh) (pin : List Bool) (live : Row) (s0 s1 s2 s3 s4 s5 : Row) (hl : s5.length ≤ 1000) (hp : pin.length = 6) (hx : pin.getD 5 false = true → ∀ x ∈ s5, ¬ (x.1 = w ∧ x.2 = slot)) : ∀ (d m f : Nat), m + d = s5.length →
    tendrillaw07_ArenaPinned_6_L122 (f + d + 1) 6 w ref slot 5 st n idx (((6 : Nat) : Int)) 5 (s5.length : Int) (m : Int) X.1 X.2.1 X.2.2.1.1.1 X.2.2.1.1.2.1 X.2.2.1.1.2.2.1 X.2.2.1.1.2.2.2 X.2.2.1.2.1.1 X.2.2.1.2.1.2.1 X.2.2.1.2.1.2.2.1 X.2.2.1.2.1.2.2.2 X.2.2.1.2.2.1 X.2.2.1.2.2.2.1 X.2.2.1.2.2.2.2.1 X.2.2.1.2.2.2.2.2 X.2.2.2.1 X.2.2.2.2 pin live s5 s0 s1 s2 s3 s4 = tendrillaw07_ArenaPinned_6_L116 f 6 w ref slot st n idx (((6 : Nat) : Int)) 6 X.1 X.2.1 X.2.2.1.1.1 X.2.2.1.1.2.1 X.2.2.1.1.2.2.1 X.2.2.1.1.2.2.2 X.2.2.1.2.1.1 X.2.2.1.2.1.2.1 X.2.2.1.2.1.2.2.1 X.2.2.1.2.1.2.2.2 X.2.2.1.2.2.1 X.2.2.1.2.2.2.1 X.2.2.1.2.2.2.2.1 X.2.2.1.2.2.2.2.2 X.2.2.2.1 X.2.2.2.2 pin live s0 s1 s2 s3 s4 s5
  | 0, m, f, h => by
    rw [tendrillaw07_ArenaPinned_6_L122, cf (by omega), show wrap64 ((5 : Int) + 1) = 6 by rw [w64 (by decide) (by decide)]; rfl]
  | d + 1, m, f, h => by
    rw [show f + (d + 1) + 1 = (f + d + 1) + 1 by omega, tendrillaw07_ArenaPinned_6_L122, ct (by omega), ct (by omega), ct (by omega), ct (by decide), ct (by rw [hp]; decide), show Int.toNat (5 : Int) = 5 from rfl]
    have ih := pin6_row5 w ref slot st n idx X pin live s0 s1 s2 s3 s4 s5 hl hp hx d (m + 1) f (by omega)
    by_cases hb : pin.getD 5 false = true
    · rw [hb, cond_true, Int.toNat_natCast]
      have hn := hx hb (s5.getD m (0, 0)) (by rw [getD_get s5 m _ (by omega)]; exact List.getElem_mem _)
      rw [no2 hn, cond_false, wi (by omega)]
      exact ih
    · rw [show pin.getD 5 false = false by simpa using hb, cond_false, wi (by omega)]
      exact ih
theorem pin6_take (w ref slot : Int) (st : List Int) (n idx : Int) (X : Sh) (pin : List Bool) (live : Row) (s0 s1 s2 s3 s4 s5 : Row) (hp : pin.length = 6) (hL : live.length ≤ 1000) (l0 : s0.length ≤ 1000) (h0 : pin.getD 0 false = true → ∀ x ∈ s0, ¬ (x.1 = w ∧ x.2 = slot)) (l1 : s1.length ≤ 1000) (h1 : pin.getD 1 false = true → ∀ x ∈ s1, ¬ (x.1 = w ∧ x.2 = slot)) (l2 : s2.length ≤ 1000) (h2 : pin.getD 2 false = true → ∀ x ∈ s2, ¬ (x.1 = w ∧ x.2 = slot)) (l3 : s3.length ≤ 1000) (h3 : pin.getD 3 false = true → ∀ x ∈ s3, ¬ (x.1 = w ∧ x.2 = slot)) (l4 : s4.length ≤ 1000) (h4 : pin.getD 4 false = true → ∀ x ∈ s4, ¬ (x.1 = w ∧ x.2 = slot)) (l5 : s5.length ≤ 1000) (h5 : pin.getD 5 false = true → ∀ x ∈ s5, ¬ (x.1 = w ∧ x.2 = slot)) (K : Nat) (hK : (s0.length + 2) + (s1.length + 2) + (s2.length + 2) + (s3.length + 2) + (s4.length + 2) + (s5.length + 2) + 1 ≤ K) :
    ∃ f, f + (s0.length + 2) + (s1.length + 2) + (s2.length + 2) + (s3.length + 2) + (s4.length + 2) + (s5.length + 2) + 1 = K ∧ tendrillaw07_ArenaPinned_6_L116 K 6 w ref slot st n idx (((6 : Nat) : Int)) 0 X.1 X.2.1 X.2.2.1.1.1 X.2.2.1.1.2.1 X.2.2.1.1.2.2.1 X.2.2.1.1.2.2.2 X.2.2.1.2.1.1 X.2.2.1.2.1.2.1 X.2.2.1.2.1.2.2.1 X.2.2.1.2.1.2.2.2 X.2.2.1.2.2.1 X.2.2.1.2.2.2.1 X.2.2.1.2.2.2.2.1 X.2.2.1.2.2.2.2.2 X.2.2.2.1 X.2.2.2.2 pin live s0 s1 s2 s3 s4 s5 = tendrillaw07_ArenaPinned_6_L26 f 6 st n (wrap64 (idx + 1)) X.1 X.2.1 X.2.2.1.1.1 X.2.2.1.1.2.1 X.2.2.1.1.2.2.1 X.2.2.1.1.2.2.2 X.2.2.1.2.1.1 X.2.2.1.2.1.2.1 X.2.2.1.2.1.2.2.1 X.2.2.1.2.1.2.2.2 X.2.2.1.2.2.1 X.2.2.1.2.2.2.1 X.2.2.1.2.2.2.2.1 X.2.2.1.2.2.2.2.2 X.2.2.2.1 X.2.2.2.2 pin (live ++ [(w, ref)]) s0 s1 s2 s3 s4 s5 := by
  obtain ⟨f, rfl⟩ : ∃ f, K = ((((((f + 1 + s5.length + 1) + 1 + s4.length + 1) + 1 + s3.length + 1) + 1 + s2.length + 1) + 1 + s1.length + 1) + 1 + s0.length + 1) + 1 := ⟨K - ((s0.length + 2) + (s1.length + 2) + (s2.length + 2) + (s3.length + 2) + (s4.length + 2) + (s5.length + 2) + 1), by omega⟩
  refine ⟨f, by omega, ?_⟩
  rw [tendrillaw07_ArenaPinned_6_L116, ct (by decide), cf (by decide), cf (by decide), cf (by decide), cf (by decide), cf (by decide), ct (by decide)]
  refine (pin6_row0 w ref slot st n idx X pin live s0 s1 s2 s3 s4 s5 l0 hp h0 s0.length 0 _ (by omega)).trans ?_
  rw [tendrillaw07_ArenaPinned_6_L116, ct (by decide), cf (by decide), cf (by decide), cf (by decide), cf (by decide), ct (by decide)]
  refine (pin6_row1 w ref slot st n idx X pin live s0 s1 s2 s3 s4 s5 l1 hp h1 s1.length 0 _ (by omega)).trans ?_
  rw [tendrillaw07_ArenaPinned_6_L116, ct (by decide), cf (by decide), cf (by decide), cf (by decide), ct (by decide)]
  refine (pin6_row2 w ref slot st n idx X pin live s0 s1 s2 s3 s4 s5 l2 hp h2 s2.length 0 _ (by omega)).trans ?_
  rw [tendrillaw07_ArenaPinned_6_L116, ct (by decide), cf (by decide), cf (by decide), ct (by decide)]
  refine (pin6_row3 w ref slot st n idx X pin live s0 s1 s2 s3 s4 s5 l3 hp h3 s3.length 0 _ (by omega)).trans ?_
  rw [tendrillaw07_ArenaPinned_6_L116, ct (by decide), cf (by decide), ct (by decide)]
  refine (pin6_row4 w ref slot st n idx X pin live s0 s1 s2 s3 s4 s5 l4 hp h4 s4.length 0 _ (by omega)).trans ?_
  rw [tendrillaw07_ArenaPinned_6_L116, ct (by decide), ct (by decide)]
  refine (pin6_row5 w ref slot st n idx X pin live s0 s1 s2 s3 s4 s5 l5 hp h5 s5.length 0 _ (by omega)).trans ?_
  rw [tendrillaw07_ArenaPinned_6_L116, cf (by decide), ct (by simp only [List.length_cons, List.length_nil]; omega)]
theorem pin6_ret0 (w ref slot : Int) (st : List Int) (n idx : Int) (X : Sh) (pin : List Bool) (live : Row) (s0 s1 s2 s3 s4 s5 : Row) (hp : pin.length = 6) (hl : s0.length ≤ 1000) (f : Nat) :
    tendrillaw07_ArenaPinned_6_L62 (f + 1) 6 slot st n idx (((6 : Nat) : Int)) 0 X.1 X.2.1 X.2.2.1.1.1 X.2.2.1.1.2.1 X.2.2.1.1.2.2.1 X.2.2.1.1.2.2.2 X.2.2.1.2.1.1 X.2.2.1.2.1.2.1 X.2.2.1.2.1.2.2.1 X.2.2.1.2.1.2.2.2 X.2.2.1.2.2.1 X.2.2.1.2.2.2.1 X.2.2.1.2.2.2.2.1 X.2.2.1.2.2.2.2.2 X.2.2.2.1 X.2.2.2.2 pin live w ref s0 s1 s2 s3 s4 s5 = tendrillaw07_ArenaPinned_6_L62 f 6 slot st n idx (((6 : Nat) : Int)) 1 X.1 X.2.1 X.2.2.1.1.1 X.2.2.1.1.2.1 X.2.2.1.1.2.2.1 X.2.2.1.1.2.2.2 X.2.2.1.2.1.1 X.2.2.1.2.1.2.1 X.2.2.1.2.1.2.2.1 X.2.2.1.2.1.2.2.2 X.2.2.1.2.2.1 X.2.2.1.2.2.2.1 X.2.2.1.2.2.2.2.1 X.2.2.1.2.2.2.2.2 X.2.2.2.1 X.2.2.2.2 pin live w ref (if pin.getD 0 false = true then s0 ++ [(w, slot)] else s0) s1 s2 s3 s4 s5 := by
  rw [tendrillaw07_ArenaPinned_6_L62, ct (by decide), ct (by decide), ct (by rw [hp]; decide), show Int.toNat (0 : Int) = 0 from rfl, show wrap64 ((0 : Int) + 1) = 1 by rw [w64 (by decide) (by decide)]; rfl]
  by_cases hb : pin.getD 0 false = true
  · rw [if_pos hb, hb, cond_true, cf (by decide), cf (by decide), cf (by decide), cf (by decide), cf (by decide), ct (by decide), ct (by simp only [List.length_cons, List.length_nil]; omega), cf (by decide), cf (by decide), cf (by decide), cf (by decide), cf (by decide), ct (by decide)]
  · rw [if_neg hb, show pin.getD 0 false = false by simpa using hb, cond_false]
theorem pin6_ret1 (w ref slot : Int) (st : List Int) (n idx : Int) (X : Sh) (pin : List Bool) (live : Row) (s0 s1 s2 s3 s4 s5 : Row) (hp : pin.length = 6) (hl : s1.length ≤ 1000) (f : Nat) :
    tendrillaw07_ArenaPinned_6_L62 (f + 1) 6 slot st n idx (((6 : Nat) : Int)) 1 X.1 X.2.1 X.2.2.1.1.1 X.2.2.1.1.2.1 X.2.2.1.1.2.2.1 X.2.2.1.1.2.2.2 X.2.2.1.2.1.1 X.2.2.1.2.1.2.1 X.2.2.1.2.1.2.2.1 X.2.2.1.2.1.2.2.2 X.2.2.1.2.2.1 X.2.2.1.2.2.2.1 X.2.2.1.2.2.2.2.1 X.2.2.1.2.2.2.2.2 X.2.2.2.1 X.2.2.2.2 pin live w ref s0 s1 s2 s3 s4 s5 = tendrillaw07_ArenaPinned_6_L62 f 6 slot st n idx (((6 : Nat) : Int)) 2 X.1 X.2.1 X.2.2.1.1.1 X.2.2.1.1.2.1 X.2.2.1.1.2.2.1 X.2.2.1.1.2.2.2 X.2.2.1.2.1.1 X.2.2.1.2.1.2.1 X.2.2.1.2.1.2.2.1 X.2.2.1.2.1.2.2.2 X.2.2.1.2.2.1 X.2.2.1.2.2.2.1 X.2.2.1.2.2.2.2.1 X.2.2.1.2.2.2.2.2 X.2.2.2.1 X.2.2.2.2 pin live w ref s0 (if pin.getD 1 false = true then s1 ++ [(w, slot)] else s1) s2 s3 s4 s5 := by
  rw [tendrillaw07_ArenaPinned_6_L62, ct (by decide), ct (by decide), ct (by rw [hp]; decide), show Int.toNat (1 : Int) = 1 from rfl, show wrap64 ((1 : Int) + 1) = 2 by rw [w64 (by decide) (by decide)]; rfl]
  by_cases hb : pin.getD 1 false = true
  · rw [if_pos hb, hb, cond_true, cf (by decide), cf (by decide), cf (by decide), cf (by decide), ct (by decide), ct (by simp only [List.length_cons, List.length_nil]; omega), cf (by decide), cf (by decide), cf (by decide), cf (by decide), ct (by decide)]
  · rw [if_neg hb, show pin.getD 1 false = false by simpa using hb, cond_false]
theorem pin6_ret2 (w ref slot : Int) (st : List Int) (n idx : Int) (X : Sh) (pin : List Bool) (live : Row) (s0 s1 s2 s3 s4 s5 : Row) (hp : pin.length = 6) (hl : s2.length ≤ 1000) (f : Nat) :
    tendrillaw07_ArenaPinned_6_L62 (f + 1) 6 slot st n idx (((6 : Nat) : Int)) 2 X.1 X.2.1 X.2.2.1.1.1 X.2.2.1.1.2.1 X.2.2.1.1.2.2.1 X.2.2.1.1.2.2.2 X.2.2.1.2.1.1 X.2.2.1.2.1.2.1 X.2.2.1.2.1.2.2.1 X.2.2.1.2.1.2.2.2 X.2.2.1.2.2.1 X.2.2.1.2.2.2.1 X.2.2.1.2.2.2.2.1 X.2.2.1.2.2.2.2.2 X.2.2.2.1 X.2.2.2.2 pin live w ref s0 s1 s2 s3 s4 s5 = tendrillaw07_ArenaPinned_6_L62 f 6 slot st n idx (((6 : Nat) : Int)) 3 X.1 X.2.1 X.2.2.1.1.1 X.2.2.1.1.2.1 X.2.2.1.1.2.2.1 X.2.2.1.1.2.2.2 X.2.2.1.2.1.1 X.2.2.1.2.1.2.1 X.2.2.1.2.1.2.2.1 X.2.2.1.2.1.2.2.2 X.2.2.1.2.2.1 X.2.2.1.2.2.2.1 X.2.2.1.2.2.2.2.1 X.2.2.1.2.2.2.2.2 X.2.2.2.1 X.2.2.2.2 pin live w ref s0 s1 (if pin.getD 2 false = true then s2 ++ [(w, slot)] else s2) s3 s4 s5 := by
  rw [tendrillaw07_ArenaPinned_6_L62, ct (by decide), ct (by decide), ct (by rw [hp]; decide), show Int.toNat (2 : Int) = 2 from rfl, show wrap64 ((2 : Int) + 1) = 3 by rw [w64 (by decide) (by decide)]; rfl]
  by_cases hb : pin.getD 2 false = true
  · rw [if_pos hb, hb, cond_true, cf (by decide), cf (by decide), cf (by decide), ct (by decide), ct (by simp only [List.length_cons, List.length_nil]; omega), cf (by decide), cf (by decide), cf (by decide), ct (by decide)]
  · rw [if_neg hb, show pin.getD 2 false = false by simpa using hb, cond_false]
theorem pin6_ret3 (w ref slot : Int) (st : List Int) (n idx : Int) (X : Sh) (pin : List Bool) (live : Row) (s0 s1 s2 s3 s4 s5 : Row) (hp : pin.length = 6) (hl : s3.length ≤ 1000) (f : Nat) :
    tendrillaw07_ArenaPinned_6_L62 (f + 1) 6 slot st n idx (((6 : Nat) : Int)) 3 X.1 X.2.1 X.2.2.1.1.1 X.2.2.1.1.2.1 X.2.2.1.1.2.2.1 X.2.2.1.1.2.2.2 X.2.2.1.2.1.1 X.2.2.1.2.1.2.1 X.2.2.1.2.1.2.2.1 X.2.2.1.2.1.2.2.2 X.2.2.1.2.2.1 X.2.2.1.2.2.2.1 X.2.2.1.2.2.2.2.1 X.2.2.1.2.2.2.2.2 X.2.2.2.1 X.2.2.2.2 pin live w ref s0 s1 s2 s3 s4 s5 = tendrillaw07_ArenaPinned_6_L62 f 6 slot st n idx (((6 : Nat) : Int)) 4 X.1 X.2.1 X.2.2.1.1.1 X.2.2.1.1.2.1 X.2.2.1.1.2.2.1 X.2.2.1.1.2.2.2 X.2.2.1.2.1.1 X.2.2.1.2.1.2.1 X.2.2.1.2.1.2.2.1 X.2.2.1.2.1.2.2.2 X.2.2.1.2.2.1 X.2.2.1.2.2.2.1 X.2.2.1.2.2.2.2.1 X.2.2.1.2.2.2.2.2 X.2.2.2.1 X.2.2.2.2 pin live w ref s0 s1 s2 (if pin.getD 3 false = true then s3 ++ [(w, slot)] else s3) s4 s5 := by
  rw [tendrillaw07_ArenaPinned_6_L62, ct (by decide), ct (by decide), ct (by rw [hp]; decide), show Int.toNat (3 : Int) = 3 from rfl, show wrap64 ((3 : Int) + 1) = 4 by rw [w64 (by decide) (by decide)]; rfl]
  by_cases hb : pin.getD 3 false = true
  · rw [if_pos hb, hb, cond_true, cf (by decide), cf (by decide), ct (by decide), ct (by simp only [List.length_cons, List.length_nil]; omega), cf (by decide), cf (by decide), ct (by decide)]
  · rw [if_neg hb, show pin.getD 3 false = false by simpa using hb, cond_false]
theorem pin6_ret4 (w ref slot : Int) (st : List Int) (n idx : Int) (X : Sh) (pin : List Bool) (live : Row) (s0 s1 s2 s3 s4 s5 : Row) (hp : pin.length = 6) (hl : s4.length ≤ 1000) (f : Nat) :
    tendrillaw07_ArenaPinned_6_L62 (f + 1) 6 slot st n idx (((6 : Nat) : Int)) 4 X.1 X.2.1 X.2.2.1.1.1 X.2.2.1.1.2.1 X.2.2.1.1.2.2.1 X.2.2.1.1.2.2.2 X.2.2.1.2.1.1 X.2.2.1.2.1.2.1 X.2.2.1.2.1.2.2.1 X.2.2.1.2.1.2.2.2 X.2.2.1.2.2.1 X.2.2.1.2.2.2.1 X.2.2.1.2.2.2.2.1 X.2.2.1.2.2.2.2.2 X.2.2.2.1 X.2.2.2.2 pin live w ref s0 s1 s2 s3 s4 s5 = tendrillaw07_ArenaPinned_6_L62 f 6 slot st n idx (((6 : Nat) : Int)) 5 X.1 X.2.1 X.2.2.1.1.1 X.2.2.1.1.2.1 X.2.2.1.1.2.2.1 X.2.2.1.1.2.2.2 X.2.2.1.2.1.1 X.2.2.1.2.1.2.1 X.2.2.1.2.1.2.2.1 X.2.2.1.2.1.2.2.2 X.2.2.1.2.2.1 X.2.2.1.2.2.2.1 X.2.2.1.2.2.2.2.1 X.2.2.1.2.2.2.2.2 X.2.2.2.1 X.2.2.2.2 pin live w ref s0 s1 s2 s3 (if pin.getD 4 false = true then s4 ++ [(w, slot)] else s4) s5 := by
  rw [tendrillaw07_ArenaPinned_6_L62, ct (by decide), ct (by decide), ct (by rw [hp]; decide), show Int.toNat (4 : Int) = 4 from rfl, show wrap64 ((4 : Int) + 1) = 5 by rw [w64 (by decide) (by decide)]; rfl]
  by_cases hb : pin.getD 4 false = true
  · rw [if_pos hb, hb, cond_true, cf (by decide), ct (by decide), ct (by simp only [List.length_cons, List.length_nil]; omega), cf (by decide), ct (by decide)]
  · rw [if_neg hb, show pin.getD 4 false = false by simpa using hb, cond_false]
theorem pin6_ret5 (w ref slot : Int) (st : List Int) (n idx : Int) (X : Sh) (pin : List Bool) (live : Row) (s0 s1 s2 s3 s4 s5 : Row) (hp : pin.length = 6) (hl : s5.length ≤ 1000) (f : Nat) :
    tendrillaw07_ArenaPinned_6_L62 (f + 1) 6 slot st n idx (((6 : Nat) : Int)) 5 X.1 X.2.1 X.2.2.1.1.1 X.2.2.1.1.2.1 X.2.2.1.1.2.2.1 X.2.2.1.1.2.2.2 X.2.2.1.2.1.1 X.2.2.1.2.1.2.1 X.2.2.1.2.1.2.2.1 X.2.2.1.2.1.2.2.2 X.2.2.1.2.2.1 X.2.2.1.2.2.2.1 X.2.2.1.2.2.2.2.1 X.2.2.1.2.2.2.2.2 X.2.2.2.1 X.2.2.2.2 pin live w ref s0 s1 s2 s3 s4 s5 = tendrillaw07_ArenaPinned_6_L62 f 6 slot st n idx (((6 : Nat) : Int)) 6 X.1 X.2.1 X.2.2.1.1.1 X.2.2.1.1.2.1 X.2.2.1.1.2.2.1 X.2.2.1.1.2.2.2 X.2.2.1.2.1.1 X.2.2.1.2.1.2.1 X.2.2.1.2.1.2.2.1 X.2.2.1.2.1.2.2.2 X.2.2.1.2.2.1 X.2.2.1.2.2.2.1 X.2.2.1.2.2.2.2.1 X.2.2.1.2.2.2.2.2 X.2.2.2.1 X.2.2.2.2 pin live w ref s0 s1 s2 s3 s4 (if pin.getD 5 false = true then s5 ++ [(w, slot)] else s5) := by
  rw [tendrillaw07_ArenaPinned_6_L62, ct (by decide), ct (by decide), ct (by rw [hp]; decide), show Int.toNat (5 : Int) = 5 from rfl, show wrap64 ((5 : Int) + 1) = 6 by rw [w64 (by decide) (by decide)]; rfl]
  by_cases hb : pin.getD 5 false = true
  · rw [if_pos hb, hb, cond_true, ct (by decide), ct (by simp only [List.length_cons, List.length_nil]; omega), ct (by decide)]
  · rw [if_neg hb, show pin.getD 5 false = false by simpa using hb, cond_false]
theorem pin6_ret (w ref slot : Int) (st : List Int) (n idx : Int) (X : Sh) (pin : List Bool) (live : Row) (s0 s1 s2 s3 s4 s5 : Row) (hp : pin.length = 6) (l0 : s0.length ≤ 1000) (l1 : s1.length ≤ 1000) (l2 : s2.length ≤ 1000) (l3 : s3.length ≤ 1000) (l4 : s4.length ≤ 1000) (l5 : s5.length ≤ 1000) (f : Nat) :
    tendrillaw07_ArenaPinned_6_L62 (f + 7) 6 slot st n idx (((6 : Nat) : Int)) 0 X.1 X.2.1 X.2.2.1.1.1 X.2.2.1.1.2.1 X.2.2.1.1.2.2.1 X.2.2.1.1.2.2.2 X.2.2.1.2.1.1 X.2.2.1.2.1.2.1 X.2.2.1.2.1.2.2.1 X.2.2.1.2.1.2.2.2 X.2.2.1.2.2.1 X.2.2.1.2.2.2.1 X.2.2.1.2.2.2.2.1 X.2.2.1.2.2.2.2.2 X.2.2.2.1 X.2.2.2.2 pin live w ref s0 s1 s2 s3 s4 s5 = tendrillaw07_ArenaPinned_6_L26 f 6 st n (wrap64 (idx + 1)) X.1 X.2.1 X.2.2.1.1.1 X.2.2.1.1.2.1 X.2.2.1.1.2.2.1 X.2.2.1.1.2.2.2 X.2.2.1.2.1.1 X.2.2.1.2.1.2.1 X.2.2.1.2.1.2.2.1 X.2.2.1.2.1.2.2.2 X.2.2.1.2.2.1 X.2.2.1.2.2.2.1 X.2.2.1.2.2.2.2.1 X.2.2.1.2.2.2.2.2 X.2.2.2.1 X.2.2.2.2 pin live (if pin.getD 0 false = true then s0 ++ [(w, slot)] else s0) (if pin.getD 1 false = true then s1 ++ [(w, slot)] else s1) (if pin.getD 2 false = true then s2 ++ [(w, slot)] else s2) (if pin.getD 3 false = true then s3 ++ [(w, slot)] else s3) (if pin.getD 4 false = true then s4 ++ [(w, slot)] else s4) (if pin.getD 5 false = true then s5 ++ [(w, slot)] else s5) := by
  refine (pin6_ret0 w ref slot st n idx X pin live s0 s1 s2 s3 s4 s5 hp l0 (f + 6)).trans ?_
  refine (pin6_ret1 w ref slot st n idx X pin live (if pin.getD 0 false = true then s0 ++ [(w, slot)] else s0) s1 s2 s3 s4 s5 hp l1 (f + 5)).trans ?_
  refine (pin6_ret2 w ref slot st n idx X pin live (if pin.getD 0 false = true then s0 ++ [(w, slot)] else s0) (if pin.getD 1 false = true then s1 ++ [(w, slot)] else s1) s2 s3 s4 s5 hp l2 (f + 4)).trans ?_
  refine (pin6_ret3 w ref slot st n idx X pin live (if pin.getD 0 false = true then s0 ++ [(w, slot)] else s0) (if pin.getD 1 false = true then s1 ++ [(w, slot)] else s1) (if pin.getD 2 false = true then s2 ++ [(w, slot)] else s2) s3 s4 s5 hp l3 (f + 3)).trans ?_
  refine (pin6_ret4 w ref slot st n idx X pin live (if pin.getD 0 false = true then s0 ++ [(w, slot)] else s0) (if pin.getD 1 false = true then s1 ++ [(w, slot)] else s1) (if pin.getD 2 false = true then s2 ++ [(w, slot)] else s2) (if pin.getD 3 false = true then s3 ++ [(w, slot)] else s3) s4 s5 hp l4 (f + 2)).trans ?_
  refine (pin6_ret5 w ref slot st n idx X pin live (if pin.getD 0 false = true then s0 ++ [(w, slot)] else s0) (if pin.getD 1 false = true then s1 ++ [(w, slot)] else s1) (if pin.getD 2 false = true then s2 ++ [(w, slot)] else s2) (if pin.getD 3 false = true then s3 ++ [(w, slot)] else s3) (if pin.getD 4 false = true then s4 ++ [(w, slot)] else s4) s5 hp l5 (f + 1)).trans ?_
  rw [tendrillaw07_ArenaPinned_6_L62, cf (by decide)]
set_option maxHeartbeats 0 in
set_option maxRecDepth 10000 in
theorem pin6_steps (st : List Int) (hm : st.length ≤ 120) (hst : ∀ v ∈ st, v ≤ 9223372036854775807) : ∀ (d K i : Nat) (s : Sh) (pin : List Bool) (live : Row) (s0 s1 s2 s3 s4 s5 : Row), i + d = st.length → d * 1000 + 1 ≤ K → Inv 6 i s pin live [s0, s1, s2, s3, s4, s5] →
    tendrillaw07_ArenaPinned_6_L26 K 6 st st.length i s.1 s.2.1 s.2.2.1.1.1 s.2.2.1.1.2.1 s.2.2.1.1.2.2.1 s.2.2.1.1.2.2.2 s.2.2.1.2.1.1 s.2.2.1.2.1.2.1 s.2.2.1.2.1.2.2.1 s.2.2.1.2.1.2.2.2 s.2.2.1.2.2.1 s.2.2.1.2.2.2.1 s.2.2.1.2.2.2.2.1 s.2.2.1.2.2.2.2.2 s.2.2.2.1 s.2.2.2.2 pin live s0 s1 s2 s3 s4 s5 = some true
  | 0, K, i, s, pin, live, s0, s1, s2, s3, s4, s5, hd, hK, I => by
    obtain ⟨K, rfl⟩ : ∃ K', K = K' + 1 := ⟨K - 1, by omega⟩
    rw [tendrillaw07_ArenaPinned_6_L26, cf (by omega), etaS, pcheckA_eq s I.few, chk_pos I.ok]
    rfl
  | d + 1, K, i, s, pin, live, s0, s1, s2, s3, s4, s5, hd, hK, I => by
    have ih := pin6_steps st hm hst d
    obtain ⟨K, rfl⟩ : ∃ K', K = K' + 1 := ⟨K - 1, by omega⟩
    have l0 : s0.length ≤ i := I.lr 0 (by omega)
    have l1 : s1.length ≤ i := I.lr 1 (by omega)
    have l2 : s2.length ≤ i := I.lr 2 (by omega)
    have l3 : s3.length ≤ i := I.lr 3 (by omega)
    have l4 : s4.length ≤ i := I.lr 4 (by omega)
    have l5 : s5.length ≤ i := I.lr 5 (by omega)
    have hl := I.ll
    rw [tendrillaw07_ArenaPinned_6_L26, ct (by omega), ct (by omega), ct (by omega), Int.toNat_natCast]
    have hv := hst (st.getD i 0) (by rw [getD_get st i 0 (by omega)]; exact List.getElem_mem _)
    generalize st.getD i 0 = v at hv ⊢
    by_cases a : v < 0
    · rw [ct a]
    rw [cf a, cf (by decide)]
    have hA0 : 0 ≤ wrap64 (v.tdiv 6) := by rw [(tdm v 6 (by omega)).1, w64 (by omega) (by omega)]; omega
    have hA1 : wrap64 (v.tdiv 6) ≤ 9223372036854775807 := by rw [(tdm v 6 (by omega)).1, w64 (by omega) (by omega)]; omega
    generalize wrap64 (v.tdiv 6) = A at hA0 hA1 ⊢
    have w3 : wrap64 (A % 3 + 1) = A % 3 + 1 := w64 (by omega) (by omega)
    rw [show A.tmod 6 = A % 6 from (tdm A 6 hA0).2, show A.tmod 3 = A % 3 from (tdm A 3 hA0).2]
    have t0 : 0 ≤ A % 6 := by omega
    have t1 : A % 6 < 6 := by omega
    rw [eqc]
    by_cases c0 : v.tmod 6 = 0
    · rw [if_pos c0]
      clear w3
      generalize A % 6 = t at t0 t1 ⊢
      rw [etaS, ppinA_eq s t I.few, Option.bind_some, eqc]
      by_cases e : (pinA s t).2 = 0
      · rw [if_pos e, ct t0, ct (by rw [I.lb]; exact t1), wi (by omega)]
        rcases (show t = 0 ∨ t = 1 ∨ t = 2 ∨ t = 3 ∨ t = 4 ∨ t = 5 by omega) with rfl | rfl | rfl | rfl | rfl | rfl
        · rw [cf (by decide), cf (by decide), cf (by decide), cf (by decide), cf (by decide), ct (by decide)]
          exact ih K (i + 1) (pinA s 0).1 _ live [] s1 s2 s3 s4 s5 (by omega) (by omega) ((inv_pin I e).more (by omega))
        · rw [cf (by decide), cf (by decide), cf (by decide), cf (by decide), ct (by decide)]
          exact ih K (i + 1) (pinA s 1).1 _ live s0 [] s2 s3 s4 s5 (by omega) (by omega) ((inv_pin I e).more (by omega))
        · rw [cf (by decide), cf (by decide), cf (by decide), ct (by decide)]
          exact ih K (i + 1) (pinA s 2).1 _ live s0 s1 [] s3 s4 s5 (by omega) (by omega) ((inv_pin I e).more (by omega))
        · rw [cf (by decide), cf (by decide), ct (by decide)]
          exact ih K (i + 1) (pinA s 3).1 _ live s0 s1 s2 [] s4 s5 (by omega) (by omega) ((inv_pin I e).more (by omega))
        · rw [cf (by decide), ct (by decide)]
          exact ih K (i + 1) (pinA s 4).1 _ live s0 s1 s2 s3 [] s5 (by omega) (by omega) ((inv_pin I e).more (by omega))
        · rw [ct (by decide)]
          exact ih K (i + 1) (pinA s 5).1 _ live s0 s1 s2 s3 s4 [] (by omega) (by omega) ((inv_pin I e).more (by omega))
      · rw [if_neg e, wi (by omega)]
        exact ih K (i + 1) s pin live s0 s1 s2 s3 s4 s5 (by omega) (by omega) (I.more (by omega))
    rw [if_neg c0, eqc]
    by_cases c1 : v.tmod 6 = 1
    · rw [if_pos c1]
      clear w3
      generalize A % 6 = t at t0 t1 ⊢
      rw [etaS, pendA_eq s t I.few, Option.bind_some, eqc]
      by_cases e : (endA s t).2 = 0
      · rw [if_pos e, ct t0, ct (by rw [I.lb]; exact t1), wi (by omega)]
        exact ih K (i + 1) (endA s t).1 _ live s0 s1 s2 s3 s4 s5 (by omega) (by omega) ((inv_end I e).more (by omega))
      · rw [if_neg e, wi (by omega)]
        exact ih K (i + 1) s pin live s0 s1 s2 s3 s4 s5 (by omega) (by omega) (I.more (by omega))
    rw [if_neg c1, eqc]
    by_cases c2 : v.tmod 6 = 2
    · rw [if_pos c2, etaS, pturnA_eq s I.few, Option.bind_some, wi (by omega)]
      exact ih K (i + 1) (turnA s).1 pin live s0 s1 s2 s3 s4 s5 (by omega) (by omega) ((inv_turn I).more (by omega))
    rw [if_neg c2, eqc]
    by_cases c3 : v.tmod 6 = 3
    · rw [if_pos c3]
      rw [w3, etaS, ptakeA_eq s (A % 3 + 1) I.few, Option.bind_some, nec]
      by_cases e : (takeA s (A % 3 + 1)).2.2 = 0
      · rw [if_pos e]
        obtain ⟨hr, hu, J, hne⟩ := inv_take I e
        rw [unpack_eq _ hr, Option.bind_some, nec, if_pos hu]
        obtain ⟨f, hf, e2⟩ := pin6_take (A % 3 + 1) (takeA s (A % 3 + 1)).2.1 (unpackV (takeA s (A % 3 + 1)).2.1).1 st st.length i (takeA s (A % 3 + 1)).1 pin live s0 s1 s2 s3 s4 s5 I.lb (by omega) (by omega) (hne 0 (by omega)) (by omega) (hne 1 (by omega)) (by omega) (hne 2 (by omega)) (by omega) (hne 3 (by omega)) (by omega) (hne 4 (by omega)) (by omega) (hne 5 (by omega)) K (by omega)
        refine e2.trans ?_
        rw [wi (by omega)]
        exact ih f (i + 1) _ _ _ s0 s1 s2 s3 s4 s5 (by omega) (by omega) J
      · rw [if_neg e, wi (by omega)]
        exact ih K (i + 1) s pin live s0 s1 s2 s3 s4 s5 (by omega) (by omega) (I.more (by omega))

    rw [if_neg c3, eqc]
    by_cases c4 : v.tmod 6 = 4
    · rw [if_pos c4]
      rw [w3, etaS, ptakeA_eq s (A % 3 + 1) I.few, Option.bind_some, nec]
      by_cases e : (takeA s (A % 3 + 1)).2.2 = 0
      · rw [if_pos e]
        obtain ⟨hr, hu, J, hne⟩ := inv_take I e
        rw [unpack_eq _ hr, Option.bind_some, nec, if_pos hu]
        obtain ⟨f, hf, e2⟩ := pin6_take (A % 3 + 1) (takeA s (A % 3 + 1)).2.1 (unpackV (takeA s (A % 3 + 1)).2.1).1 st st.length i (takeA s (A % 3 + 1)).1 pin live s0 s1 s2 s3 s4 s5 I.lb (by omega) (by omega) (hne 0 (by omega)) (by omega) (hne 1 (by omega)) (by omega) (hne 2 (by omega)) (by omega) (hne 3 (by omega)) (by omega) (hne 4 (by omega)) (by omega) (hne 5 (by omega)) K (by omega)
        refine e2.trans ?_
        rw [wi (by omega)]
        exact ih f (i + 1) _ _ _ s0 s1 s2 s3 s4 s5 (by omega) (by omega) J
      · rw [if_neg e, wi (by omega)]
        exact ih K (i + 1) s pin live s0 s1 s2 s3 s4 s5 (by omega) (by omega) (I.more (by omega))

    rw [if_neg c4, eqc]
    by_cases z : (live.length : Int) = 0
    · rw [if_pos z, wi (by omega)]
      exact ih K (i + 1) s pin live s0 s1 s2 s3 s4 s5 (by omega) (by omega) (I.more (by omega))
    rw [if_neg z, cf z]
    have b0 : 0 ≤ A.tmod (live.length : Int) := by rw [(tdm A live.length hA0).2]; exact Int.emod_nonneg _ z
    have b1 : A.tmod (live.length : Int) < (live.length : Int) := by rw [(tdm A live.length hA0).2]; exact Int.emod_lt_of_pos _ (by omega)
    generalize A.tmod (live.length : Int) = b at b0 b1 ⊢
    obtain ⟨b, rfl⟩ := Int.eq_ofNat_of_zero_le b0
    have hb : b < live.length := by omega
    rw [wi (by omega)]
    simp only [Int.toNat_natCast]
    rw [ct (by omega), ct (by omega), ct (by omega), ct (by omega), ct (by simp; omega), ct (by omega), ct (by omega), ct (by simp; omega)]
    obtain ⟨y, hy⟩ : ∃ y, live.getD b (0, 0) = y := ⟨_, rfl⟩
    rw [hy, List.drop_zero, List.take_length]
    obtain ⟨r1, r2, r3, J⟩ := inv_ret (seen' := [(if pin.getD 0 false = true then s0 ++ [(y.1, (unpackV y.2).1)] else s0), (if pin.getD 1 false = true then s1 ++ [(y.1, (unpackV y.2).1)] else s1), (if pin.getD 2 false = true then s2 ++ [(y.1, (unpackV y.2).1)] else s2), (if pin.getD 3 false = true then s3 ++ [(y.1, (unpackV y.2).1)] else s3), (if pin.getD 4 false = true then s4 ++ [(y.1, (unpackV y.2).1)] else s4), (if pin.getD 5 false = true then s5 ++ [(y.1, (unpackV y.2).1)] else s5)]) I hb hy rfl (fun j hj => by
      rcases (show j = 0 ∨ j = 1 ∨ j = 2 ∨ j = 3 ∨ j = 4 ∨ j = 5 by omega) with rfl | rfl | rfl | rfl | rfl | rfl <;> rfl)
    rw [etaS, pretA_eq s y.1 y.2 I.few r1, Option.bind_some, unpack_eq _ r1, Option.bind_some, nec, if_pos r3, nec, if_pos r2]
    obtain ⟨f, rfl⟩ : ∃ f, K = f + 7 := ⟨K - 7, by omega⟩
    refine (pin6_ret y.1 y.2 (unpackV y.2).1 st st.length i (retA s y.1 y.2).1 pin (live.take b ++ live.drop (b + 1)) s0 s1 s2 s3 s4 s5 I.lb (by omega) (by omega) (by omega) (by omega) (by omega) (by omega) f).trans ?_
    rw [wi (by omega)]
    exact ih f (i + 1) _ _ _ _ _ _ _ _ _ (by omega) (by omega) J

theorem pin6 (K : Nat) (hK : 130000 ≤ K) (x : (Int × Int × Int × Int × Int) × List Int) (hx : ∀ v ∈ x.2, v ≤ 9223372036854775807) : tendrillaw07_ArenaPinned_6_K K x = some true := by
  obtain ⟨c, st⟩ := x
  unfold tendrillaw07_ArenaPinned_6_K
  rw [live7_eq, Option.bind_some, Bool.not_true, cond_false]
  by_cases h : (120 : Int) < (st.length : Int)
  · rw [ct h]
  rw [cf h, show ((c.1, c.2.1, c.2.2.1, c.2.2.2.1, c.2.2.2.2) : Int × Int × Int × Int × Int) = c from rfl, pnewA_eq, Option.bind_some, nec]
  by_cases e : (newA c 6).2 = 0
  · rw [if_pos e]
    exact pin6_steps st (by omega) hx st.length K 0 (newA c 6).1 _ [] [] [] [] [] [] [] (by omega) (by omega) (inv_new (n := 6) e)
  · rw [if_neg e, newA_no e]
    rfl
end Go.Proofs.Ytkdohmgacodhjaa.Pure
