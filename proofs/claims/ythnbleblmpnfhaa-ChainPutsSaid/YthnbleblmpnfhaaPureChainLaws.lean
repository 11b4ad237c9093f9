/- The five laws of chains, in plain words; no condition. -/
import Derived.Test.YthnbleblmpnfhaaPureChainC
set_option linter.unusedVariables false
set_option linter.unusedSimpArgs false
namespace Go.Proofs.Ythnbleblmpnfhaa.Pure
open Go Go.RowKit Go.Proofs.YthnbleblmpnfhaaFn Go.Proofs.YthnbleblmpnfhaaPx

theorem ChainLooks (x : Cfg × List Int × Int × Int × Int) (hx : InRT [⟨true, (.pair .int (.pair .int (.pair .int (.pair .int .int))))⟩, ⟨false, (.sl .int)⟩, ⟨false, .int⟩, ⟨false, .int⟩, ⟨false, .int⟩] x) : tendrillaw14_ChainLooks x = some true := by
  obtain ⟨c, m, w, head, f⟩ := x
  have hm : ∀ x ∈ m, R64 x := hx.2.1.2
  have hr : R64 head := hx.2.2.2.1
  unfold tendrillaw14_ChainLooks
  simp only [live14_eq, Option.bind_some, Bool.not_true, cond_false, few_eq, etaC, follow_eq hm w head f hr, rfollow_eq hm w head f hr, cfield_eq c m w head f hr, r14field_eq c m w head f hr]
  by_cases hf : (m.length : Int) ≤ 1000
  · rw [decide_eq_true hf, Bool.not_true, cond_false]
    have := follow_len (c := c) (m := m) (w := w) (head := head) (f := f)
    rw [same_eq _ _ (by omega)]
    simp
  · rw [decide_eq_false hf, Bool.not_false, cond_true]

theorem puts_loop (c : Cfg) (m : List Int) (w r f v a : Int) (ha : 0 ≤ a ∧ a < (m.length : Int)) (hl : m.length ≤ 1000) (hf : chain_Field (c, m, w, r, f) = some (m.getD a.toNat 0, 0)) (K : Nat) : ∀ (j i : Nat), i + j = m.length →
    tendrillaw14_ChainPuts_L30 (K + j + 1) m w r f v (if a < i ∧ m.getD a.toNat 0 ≠ v then 1 else 0) m.length i c.1 c.2.1 c.2.2.1 c.2.2.2.1 c.2.2.2.2 (m.set a.toNat v) = some true
  | 0, i, hi => by
    rw [tendrillaw14_ChainPuts_L30, cf (show ¬ ((i : Int) < (m.length : Int)) by omega)]
    simp only [etaC, hf, Option.bind_some]
    by_cases h : m.getD a.toNat 0 = v
    · rw [if_neg (fun q => q.2 h), h]; simp
    · rw [if_pos ⟨by omega, h⟩, ct (by decide)]; rw [show (m.getD a.toNat 0 != v) = true by simpa using h]; rfl
  | j + 1, i, hi => by
    rw [tendrillaw14_ChainPuts_L30, ct (show (i : Int) < (m.length : Int) by omega), ct (show (0 : Int) ≤ (i : Int) by omega), ct (show (i : Int) < (m.length : Int) by omega), ct (show (0 : Int) ≤ (i : Int) by omega), ct (show (i : Int) < ((m.set a.toNat v).length : Int) by simp; omega), nec, Int.toNat_natCast, wi (show i ≤ 1000000 by omega), getD_set m a.toNat i v 0 (by omega)]
    have ih := puts_loop c m w r f v a ha hl hf K j (i + 1) (by omega)
    rw [show K + (j + 1) = K + j + 1 by omega]
    by_cases h1 : a.toNat = i
    · rw [if_pos h1]
      have e0 : ¬ (a < (i : Int) ∧ m.getD a.toNat 0 ≠ v) := by omega
      rw [if_neg e0]
      by_cases h2 : m.getD i 0 = v
      · rw [if_pos h2]
        have e1 : ¬ (a < ((i + 1 : Nat) : Int) ∧ m.getD a.toNat 0 ≠ v) := fun q => q.2 (by rw [h1]; exact h2)
        rw [if_neg e1] at ih
        exact ih
      · rw [if_neg h2]
        have e1 : (a < ((i + 1 : Nat) : Int) ∧ m.getD a.toNat 0 ≠ v) := ⟨by omega, by rw [h1]; exact h2⟩
        rw [if_pos e1] at ih
        rw [show wrap64 (0 + 1) = 1 from w64 (by omega) (by omega)]
        exact ih
    · rw [if_neg h1, if_pos rfl]
      have e1 : (a < ((i + 1 : Nat) : Int) ∧ m.getD a.toNat 0 ≠ v) ↔ (a < (i : Int) ∧ m.getD a.toNat 0 ≠ v) := by
        constructor
        · rintro ⟨q1, q2⟩; exact ⟨by omega, q2⟩
        · rintro ⟨q1, q2⟩; exact ⟨by omega, q2⟩
      simp only [e1] at ih
      exact ih

theorem ChainPuts (x : Cfg × List Int × Int × Int × Int × Int) (hx : InRT [⟨true, (.pair .int (.pair .int (.pair .int (.pair .int .int))))⟩, ⟨false, (.sl .int)⟩, ⟨false, .int⟩, ⟨false, .int⟩, ⟨false, .int⟩, ⟨false, .int⟩] x) : tendrillaw14_ChainPuts x = some true := by
  obtain ⟨c, m, w, r, f, v⟩ := x
  have hr : R64 r := hx.2.2.2.1
  unfold tendrillaw14_ChainPuts tendrillaw14_ChainPuts_K
  simp only [live14_eq, Option.bind_some, Bool.not_true, cond_false, few_eq, etaC]
  by_cases hf : (m.length : Int) ≤ 1000
  · rw [decide_eq_true hf, Bool.not_true, cond_false, cput_eq c m w r f v hr (by omega)]
    simp only [cfield_eq c _ w r f hr, Option.bind_some, nec]
    by_cases h : (whereC c m w r f).2 = 0
    · have ha := where_range h
      rw [put_ok v h]
      simp only [if_true, field_set v h r, h, true_and]
      rw [if_pos (by simp)]
      have key := puts_loop c m w r f v (whereC c m w r f).1 ha (by omega) (by rw [cfield_eq c m w r f hr, field_ok h]) (2000000 - m.length - 1) m.length 0 (by omega)
      have e0 : ¬ ((whereC c m w r f).1 < ((0 : Nat) : Int) ∧ m.getD (whereC c m w r f).1.toNat 0 ≠ v) := by omega
      rw [if_neg e0, show 2000000 - m.length - 1 + m.length + 1 = 2000000 by omega] at key
      exact key
    · have hp : putC c m w r f v = ([], (whereC c m w r f).2) := if_neg h
      rw [hp]
      simp only
      rw [if_neg h, eqc, field_where, if_pos rfl]
      rfl
  · rw [decide_eq_false hf, Bool.not_false, cond_true]

theorem RMset {m : List Int} (hm : ∀ x ∈ m, R64 x) (i : Nat) {v : Int} (hv : R64 v) : ∀ x ∈ m.set i v, R64 x := by
  intro x hx
  rcases List.mem_or_eq_of_mem_set hx with h | rfl
  · exact hm x h
  · exact hv

theorem ring_end {c : Cfg} {m : List Int} (hm : ∀ x ∈ m, R64 x) (hl : m.length ≤ 1000) {w head f : Int} (hr : R64 head) {l : List Int} (h : followV c m w head f = (l, 0)) (h0 : l ≠ []) :
    ∃ m', chain_Put (c, m, w, l.getD (l.length - 1) 0, f, head) = some (m', 0) ∧ chain_Follow (c, m', w, head, f) = some ([], 6) := by
  obtain ⟨h1, h2, h3, h4⟩ := follow_ok h
  have hn := h4.len
  obtain ⟨A, p, rfl⟩ : ∃ A p, l = A ++ [p] := ⟨l.dropLast, l.getLast h0, (List.dropLast_concat_getLast h0).symm⟩
  have ep : (A ++ [p]).getD ((A ++ [p]).length - 1) 0 = p := by simp [List.getD_eq_getElem?_getD]
  have hp := seg_mem _ _ _ h3 p (by simp)
  have hpw : (whereC c m w p f).2 = 0 := by rw [← field_where]; exact hp.2
  have hpr : R64 p := by have := where_ne hpw; unfold R64; omega
  refine ⟨_, by rw [ep, cput_eq c m w p f head hpr (by omega), put_ok head hpw], ?_⟩
  rw [follow_eq (RMset hm _ hr) w head f hr]
  unfold followV
  rw [if_pos ⟨h1, by simpa using h2⟩]
  obtain ⟨u, s1, s2⟩ := (seg_append A [p] head 0).1 h3
  obtain rfl : u = p := s2.1
  have hnd := h4.1
  have hgA : ∀ x ∈ A, (fun r => fieldC c (m.set (whereC c m w u f).1.toNat head) w r f) x = (fun r => fieldC c m w r f) x := by
    intro x hx
    show fieldC c (m.set (whereC c m w u f).1.toNat head) w x f = fieldC c m w x f
    rw [field_set head hpw x, if_neg]
    rintro ⟨_, e⟩
    rw [List.map_append, List.nodup_append] at hnd
    exact hnd.2.2 (slot x) (List.mem_map_of_mem hx) (slot u) (by simp) e
  have hgp : fieldC c (m.set (whereC c m w u f).1.toNat head) w u f = (head, 0) := by rw [field_set head hpw u, if_pos ⟨hpw, rfl⟩]
  have sg : Seg (fun r => fieldC c (m.set (whereC c m w u f).1.toNat head) w r f) head (A ++ [u]) head :=
    (seg_append A [u] head head).2 ⟨u, seg_congr A head u hgA s1, rfl, hp.1, (congrArg Prod.snd hgp : _), (congrArg Prod.fst hgp : _)⟩
  have := walk_seg (A ++ [u]) (100 - (A ++ [u]).length) head head [] sg (by simpa using hnd)
  rw [show 100 - (A ++ [u]).length + (A ++ [u]).length = 100 by omega] at this
  rw [this, show 100 - (A ++ [u]).length = (99 - (A ++ [u]).length) + 1 by omega]
  have hhd : head ∈ A ++ [u] := by
    cases A with
    | nil => rw [show head = u from s1]; simp
    | cons y A => rw [show head = y from s1.1]; simp
  have := seg_mem _ _ _ sg head hhd
  rw [walk_met _ _ this.1 this.2 (by simpa using List.mem_map_of_mem (f := slot) hhd)]

theorem ring_loop {c : Cfg} {m : List Int} (hm : ∀ x ∈ m, R64 x) (hlm : m.length ≤ 1000) {w head f : Int} (hr : R64 head) {l : List Int} (h : followV c m w head f = (l, 0)) (K : Nat) : ∀ (j i : Nat), i + j = l.length →
    tendrillaw14_ChainRing_L26 (K + j + 1) m w head f l.length i c.1 c.2.1 c.2.2.1 c.2.2.2.1 c.2.2.2.2 l = some true
  | 0, i, hi => by
    obtain ⟨h1, h2, h3, h4⟩ := follow_ok h
    have hn := h4.len
    rw [tendrillaw14_ChainRing_L26, cf (show ¬ ((i : Int) < (l.length : Int)) by omega), eqc]
    by_cases h0 : (l.length : Int) = 0
    · rw [if_pos h0]
    · rw [if_neg h0]
      have hw : wrap64 ((l.length : Int) - 1) = ((l.length - 1 : Nat) : Int) := by rw [w64 (by omega) (by omega)]; omega
      obtain ⟨m', e1, e2⟩ := ring_end hm hlm hr h (by intro e; subst e; simp at h0)
      rw [hw, ct (show (0 : Int) ≤ ((l.length - 1 : Nat) : Int) by omega), ct (show ((l.length - 1 : Nat) : Int) < (l.length : Int) by omega), Int.toNat_natCast]
      simp only [etaC, e1, e2, Option.bind_some]
      rfl
  | j + 1, i, hi => by
    obtain ⟨h1, h2, h3, h4⟩ := follow_ok h
    have hn := h4.len
    rw [tendrillaw14_ChainRing_L26, ct (show (i : Int) < (l.length : Int) by omega), ct (show (0 : Int) ≤ (i : Int) by omega), ct (show (i : Int) < (l.length : Int) by omega), Int.toNat_natCast]
    have hlt : i < l.length := by omega
    have hg : fieldC c m w (l.getD i 0) f = (l.getD (i + 1) 0, 0) := seg_get l head h3 i hlt
    have hi2 : R64 (l.getD i 0) := by
      have := seg_mem _ _ _ h3 (l.getD i 0) (by rw [getD_get l i 0 hlt]; exact List.getElem_mem _)
      have h5 := this.2
      rw [field_where] at h5
      have := where_ne h5
      unfold R64; omega
    have ih := ring_loop hm hlm hr h K j (i + 1) (by omega)
    rw [show K + (j + 1) = K + j + 1 by omega]
    simp only [etaC, cfield_eq c m w _ f hi2, hg, Option.bind_some, wi (show i ≤ 1000000 by omega), Int.toNat_natCast, nec, eqc, if_true]
    by_cases h5 : ((i + 1 : Nat) : Int) < (l.length : Int)
    · rw [ct h5, ct (show (0 : Int) ≤ ((i + 1 : Nat) : Int) by omega), ct h5]
      rw [ih]
      by_cases h6 : ((i + 1 : Nat) : Int) = (l.length : Int)
      · omega
      · rw [if_neg h6]
    · have h6 : ((i + 1 : Nat) : Int) = (l.length : Int) := by omega
      rw [cf h5, if_pos h6]
      have : l.getD (i + 1) 0 = 0 := by rw [List.getD_eq_getElem?_getD, List.getElem?_eq_none (by omega)]; rfl
      rw [if_pos this, ih]

theorem ChainRing (x : Cfg × List Int × Int × Int × Int) (hx : InRT [⟨true, (.pair .int (.pair .int (.pair .int (.pair .int .int))))⟩, ⟨false, (.sl .int)⟩, ⟨false, .int⟩, ⟨false, .int⟩, ⟨false, .int⟩] x) : tendrillaw14_ChainRing x = some true := by
  obtain ⟨c, m, w, head, f⟩ := x
  have hm : ∀ x ∈ m, R64 x := hx.2.1.2
  have hr : R64 head := hx.2.2.2.1
  unfold tendrillaw14_ChainRing tendrillaw14_ChainRing_K
  simp only [live14_eq, Option.bind_some, Bool.not_true, cond_false, few_eq, etaC, follow_eq hm w head f hr]
  by_cases hf : (m.length : Int) ≤ 1000
  · rw [decide_eq_true hf, Bool.not_true, cond_false]
    have ecap0 : tendrilref03_Cap (c, w) = _ := cap_eq c.1 c.2.1 c.2.2.1 c.2.2.2.1 c.2.2.2.2 w
    rw [ecap0, Option.bind_some, nec]
    by_cases h0 : (followV c m w head f).2 = 0
    · rw [if_pos h0]
      obtain ⟨l, hl⟩ : ∃ l, followV c m w head f = (l, 0) := ⟨(followV c m w head f).1, by rw [← h0]⟩
      rw [hl]
      obtain ⟨h1, h2, h3, h4⟩ := follow_ok hl
      have hn := h4.len
      have hcap := follow_cap hl
      have ecap : (if w = 1 then (c.1, (4 : Int)) else if w = 2 then (c.2.1, 5) else if w = 3 then (c.2.2.1, 3) else (0, 0)).1 = capV c w := by
        unfold capV; repeat' split
        all_goals rfl
      rw [ecap]
      simp only
      rw [cf (by omega)]
      have hz : ((l.length : Int) == 0) = (head == 0) := by
        cases l with
        | nil => rw [show head = 0 from h3]; rfl
        | cons y l =>
          have : head ≠ 0 := by rw [show head = y from h3.1]; exact h3.2.1
          rw [show (head == 0) = false by simpa using this]
          simp; omega
      rw [hz]
      have e1 : (!((head == 0) == (head == 0))) = false := by cases (head == 0) <;> rfl
      rw [e1, cond_false]
      have key := ring_loop hm (by omega) hr hl (2000000 - l.length - 1) l.length 0 (by omega)
      rw [show 2000000 - l.length - 1 + l.length + 1 = 2000000 by omega] at key
      by_cases h5 : (0 : Int) < (l.length : Int)
      · rw [ct h5, ct h5, nec, show Int.toNat 0 = 0 from rfl, if_pos (seg_r h3).symm]
        exact key
      · rw [cf h5]
        exact key
    · rw [if_neg h0, follow_err h0]; rfl
  · rw [decide_eq_false hf, Bool.not_false, cond_true]

theorem tm (r : Int) (h : 1 ≤ r ∧ r ≤ 1125899906842624) : (wrap64 (r - 1)).tmod 1024 = slot r := by
  rw [w64 (by omega) (by omega), (tdm _ _ (by omega)).2]
  unfold slot unpackV
  rw [if_pos h]

/-- The loop that looks whether a slot is in the chain already. -/
theorem back_loop (c : Cfg) (m : List Int) (w r f hd : Int) (l : List Int) (hl : l.length ≤ 64) (K : Nat) : ∀ (j i : Nat), i + j = l.length →
    (tendrillaw14_ChainBack_L22 (K + j + 1) m w r f hd l.length i c.1 c.2.1 c.2.2.1 c.2.2.2.1 c.2.2.2.2 l = some true) ∨
    ((∀ x ∈ l.drop i, (wrap64 (x - 1)).tmod 1024 ≠ (wrap64 (r - 1)).tmod 1024) ∧ tendrillaw14_ChainBack_L22 (K + j + 1) m w r f hd l.length i c.1 c.2.1 c.2.2.1 c.2.2.2.1 c.2.2.2.2 l = tendrillaw14_ChainBack_L22 (K + 1) m w r f hd l.length l.length c.1 c.2.1 c.2.2.1 c.2.2.2.1 c.2.2.2.2 l)
  | 0, i, hi => by
    have : i = l.length := by omega
    subst this
    exact .inr ⟨by simp, rfl⟩
  | j + 1, i, hi => by
    have e0 := drop_cons l i 0 (by omega)
    rw [show K + (j + 1) = K + j + 1 by omega, tendrillaw14_ChainBack_L22, ct (show (i : Int) < (l.length : Int) by omega), ct (show (0 : Int) ≤ (i : Int) by omega), ct (show (i : Int) < (l.length : Int) by omega), Int.toNat_natCast, eqc, wi (show i ≤ 1000000 by omega)]
    by_cases h : (wrap64 (l.getD i 0 - 1)).tmod 1024 = (wrap64 (r - 1)).tmod 1024
    · rw [if_pos h]; exact .inl rfl
    · rw [if_neg h]
      rcases back_loop c m w r f hd l hl K j (i + 1) (by omega) with ih | ⟨ih1, ih2⟩
      · exact .inl ih
      · refine .inr ⟨?_, ih2⟩
        rw [e0]
        intro x hx
        rcases List.mem_cons.1 hx with rfl | hx
        · exact h
        · exact ih1 x hx

theorem node_ok {c : Cfg} {id : Int} (h : (nodeV c id).2 = 0) : ok c ∧ nodeV c id = ((nodeV c id).1, 0) ∧ 2 ≤ (nodeV c id).1 ∧ (nodeV c id).1 < 2 + c.2.2.2.1 + c.2.2.2.2 := by
  unfold nodeV at h ⊢
  split at h
  · rename_i q
    have := q.1.2.2.2.2
    rw [if_pos q]
    exact ⟨q.1, rfl, by omega, by omega⟩
  · simp at h

theorem back_end {c : Cfg} {m : List Int} (hm : ∀ x ∈ m, R64 x) (hlm : m.length ≤ 1000) {w r f hd : Int} (hr : R64 r) (hhd : 2 ≤ hd ∧ hd < 2 + c.2.2.2.1 + c.2.2.2.2) (hlt : hd < (m.length : Int)) {was : List Int} (h : followV c m w (m.getD hd.toNat 0) f = (was, 0))
    (hw : ∀ x ∈ was, (wrap64 (x - 1)).tmod 1024 ≠ (wrap64 (r - 1)).tmod 1024) (K : Nat) :
    tendrillaw14_ChainBack_L22 (K + 1) m w r f hd was.length was.length c.1 c.2.1 c.2.2.1 c.2.2.2.1 c.2.2.2.2 was = some true := by
  obtain ⟨h1, h2, h3, h4⟩ := follow_ok h
  have hn := h4.len
  have hwq : wrap64 ((was.length : Int) + 1) = ((was.length + 1 : Nat) : Int) := by rw [w64 (by omega) (by omega)]; omega
  rw [tendrillaw14_ChainBack_L22, cf (show ¬ ((was.length : Int) < (was.length : Int)) by omega)]
  simp only [lenI_eq, hwq]
  simp only [etaC, push_eq (show m.length ≤ 1000000 by omega) hd w r f hr, Option.bind_some, lenI_eq]
  have hld : loadV m hd = (m.getD hd.toNat 0, 0) := if_pos ⟨by omega, hlt⟩
  by_cases hp : (whereC c m w r f).2 = 0
  · -- the record is put
    have e1 : pushV c m hd w r f = ((m.set (whereC c m w r f).1.toNat (m.getD hd.toNat 0)).set hd.toNat r, 0) := by
      unfold pushV
      rw [hld]
      simp only [put_ok _ hp, if_true]
      unfold storeV
      rw [if_pos ⟨by omega, by simpa using hlt⟩]
    have hrr := where_ne hp
    rw [e1]
    simp only [nec, if_true, List.length_set]
    generalize hN : (m.set (whereC c m w r f).1.toNat (m.getD hd.toNat 0)).set hd.toNat r = N
    have hNl : N.length = m.length := by rw [← hN]; simp
    have hNm : ∀ x ∈ N, R64 x := by rw [← hN]; exact RMset (RMset hm _ (RMget hm _)) _ hr
    have hNh : N.getD hd.toNat 0 = r := by rw [← hN, getD_set _ _ _ _ _ (by simp; omega), if_pos rfl]
    have hg : ∀ x, fieldC c N w x f = if (whereC c m w x f).2 = 0 ∧ slot x = slot r then (m.getD hd.toNat 0, 0) else fieldC c m w x f := by
      intro x
      rw [← hN, field_low hd.toNat r (by omega) x, field_set _ hp x]
    have hgr : fieldC c N w r f = (m.getD hd.toNat 0, 0) := by rw [hg r, if_pos ⟨hp, rfl⟩]
    have hne : ∀ x ∈ was, slot x ≠ slot r := by
      intro x hx e
      have k2 := (seg_mem _ _ _ h3 x hx).2
      rw [field_where] at k2
      have kx := where_ne k2
      refine hw x hx ?_
      rw [tm x kx, tm r hrr, e]
    have hseg : Seg (fun x => fieldC c N w x f) (m.getD hd.toNat 0) was 0 := by
      refine seg_congr was _ _ (fun x hx => ?_) h3
      show fieldC c N w x f = fieldC c m w x f
      rw [hg x, if_neg (fun q => hne x hx q.2)]
    have hsl : Slots (r :: was) := by
      refine ⟨?_, ?_⟩
      · rw [List.map_cons, List.nodup_cons]
        exact ⟨fun q => by obtain ⟨y, hy, e⟩ := List.mem_map.1 q; exact hne y hy e, h4.1⟩
      · intro x hx
        rcases List.mem_cons.1 hx with rfl | hx
        · exact where_slot hp
        · exact h4.2 x hx
    have hF : followV c N w r f = (r :: was, 0) :=
      follow_mk h1 (by rw [hNl]; exact h2) ⟨rfl, by omega, (congrArg Prod.snd hgr : _), by rw [show (fun x => fieldC c N w x f) r = (m.getD hd.toNat 0, 0) from hgr]; exact hseg⟩ hsl
    rw [ct (show (0 : Int) ≤ hd by omega), ct hlt, hNh]
    simp only [follow_eq hNm w r f hr, hF, Option.bind_some, if_true]
    rw [if_pos (show (((r :: was).length : Nat) : Int) = ((was.length + 1 : Nat) : Int) from rfl), ct (by simp; try omega), if_pos (show (r :: was).getD (Int.toNat 0) 0 = r from rfl), ct (by simp; try omega)]
    have es : List.drop (Int.toNat 1) (List.take (r :: was).length (r :: was)) = was := by simp
    rw [es, same_eq _ _ (by omega)]
    simp only [decide_true, Option.bind_some, Bool.not_true, cond_false]
    -- taken out
    have hU := unlink_hit (hd := hd) (w := w) (x := r) (f := f) (b := m.getD hd.toNat 0) (A := []) (B := was) hNm (by omega) hr hgr ⟨by omega, by omega⟩ (by rw [hNh]; exact hF)
    rw [hU, if_pos rfl]
    have hst : storeV N hd (m.getD hd.toNat 0) = (N.set hd.toNat (m.getD hd.toNat 0), 0) := if_pos ⟨by omega, by omega⟩
    rw [hst]
    simp only [Option.bind_some, if_true, List.length_set, hNl]
    rw [ct (show (0 : Int) ≤ hd by omega), ct hlt, getD_set N hd.toNat hd.toNat _ 0 (by omega), if_pos rfl]
    have hF2 : followV c (N.set hd.toNat (m.getD hd.toNat 0)) w (m.getD hd.toNat 0) f = (was, 0) := by
      refine follow_mk h1 (by simp only [List.length_set]; rw [hNl]; exact h2) ?_ h4
      refine seg_congr was _ _ (fun x hx => ?_) hseg
      show fieldC c (N.set hd.toNat (m.getD hd.toNat 0)) w x f = fieldC c N w x f
      exact field_low hd.toNat _ (by omega) x
    rw [follow_eq (RMset hNm _ (RMget hm _)) w _ f (RMget hm _), hF2]
    simp only [Option.bind_some, same_eq was was (by omega)]
    simp
  · have e1 : pushV c m hd w r f = ([], (whereC c m w r f).2) := by
      unfold pushV
      rw [hld]
      have : putC c m w r f (m.getD hd.toNat 0) = ([], (whereC c m w r f).2) := if_neg hp
      simp only [this, if_true]
      rw [if_neg hp]
    rw [e1]
    simp only [nec]
    rw [if_neg hp]
    rfl

theorem ChainBack (x : Cfg × List Int × Int × Int × Int × Int) (hx : InRT [⟨true, (.pair .int (.pair .int (.pair .int (.pair .int .int))))⟩, ⟨false, (.sl .int)⟩, ⟨false, .int⟩, ⟨false, .int⟩, ⟨false, .int⟩, ⟨false, .int⟩] x) : tendrillaw14_ChainBack x = some true := by
  obtain ⟨c, m, id, w, r, f⟩ := x
  have hm : ∀ x ∈ m, R64 x := hx.2.1.2
  have hr : R64 r := hx.2.2.2.2.1
  unfold tendrillaw14_ChainBack tendrillaw14_ChainBack_K
  simp only [live14_eq, Option.bind_some, Bool.not_true, cond_false, few_eq, etaC, node_eq, size_eq, nec, lenI_eq]
  by_cases hf : (m.length : Int) ≤ 1000
  · rw [decide_eq_true hf, Bool.not_true, cond_false]
    by_cases h0 : (nodeV c id).2 = 0
    · rw [if_pos h0]
      obtain ⟨h1, h2, h3, h4⟩ := node_ok h0
      rw [if_pos h1]
      by_cases h5 : (m.length : Int) = 2 + c.2.2.2.1 + c.2.2.2.2 + c.1 * 4 + c.2.1 * 5 + c.2.2.1 * 3
      · rw [if_pos h5]
        have hN := h1.1; have hE := h1.2.1; have hP := h1.2.2.1
        rw [ct (show (0 : Int) ≤ (nodeV c id).1 by omega), ct (show (nodeV c id).1 < (m.length : Int) by omega), follow_eq hm w _ f (RMget hm _), Option.bind_some]
        by_cases h6 : (followV c m w (m.getD (nodeV c id).1.toNat 0) f).2 = 0
        · rw [if_pos h6]
          obtain ⟨was, hl⟩ : ∃ l, followV c m w (m.getD (nodeV c id).1.toNat 0) f = (l, 0) := ⟨(followV c m w (m.getD (nodeV c id).1.toNat 0) f).1, Prod.ext rfl h6⟩
          rw [hl]
          have hn := (follow_ok hl).2.2.2.len
          rcases back_loop c m w r f (nodeV c id).1 was hn (2000000 - was.length - 1) was.length 0 (by omega) with key | ⟨k1, key⟩
          · rw [show 2000000 - was.length - 1 + was.length + 1 = 2000000 by omega] at key
            exact key
          · rw [show 2000000 - was.length - 1 + was.length + 1 = 2000000 by omega] at key
            refine Eq.trans key (back_end hm (by omega) hr ⟨h3, h4⟩ (by omega) hl (by simpa using k1) _)
        · rw [if_neg h6]
      · rw [if_neg h5]
    · rw [if_neg h0]
  · rw [decide_eq_false hf, Bool.not_false, cond_true]

/-- A record that is taken out. -/
theorem out_end {c : Cfg} {m : List Int} (hm : ∀ x ∈ m, R64 x) (hlm : m.length ≤ 1000) {w f hd : Int} (hhd : 2 ≤ hd ∧ hd < 2 + c.2.2.2.1 + c.2.2.2.2) (hlt : hd < (m.length : Int)) {A B : List Int} {x : Int} (h : followV c m w (m.getD hd.toNat 0) f = (A ++ x :: B, 0)) :
    ∃ N, chain_Unlink (c, m, hd, w, x, f) = some (N, 0) ∧ N.length = m.length ∧ chain_Follow (c, N, w, N.getD hd.toNat 0, f) = some (A ++ B, 0) ∧ chain_Unlink (c, N, hd, w, x, f) = some ([], 2) := by
  obtain ⟨h1, h2, h3, h4⟩ := follow_ok h
  have hn := h4.len
  have hnd := h4.1
  obtain ⟨u, s1, s2⟩ := (seg_append A (x :: B) _ 0).1 h3
  obtain ⟨rfl, hx0, hxe, s3⟩ := s2
  have hxe : (fieldC c m w u f).2 = 0 := hxe
  have hxw : (whereC c m w u f).2 = 0 := by rw [← field_where]; exact hxe
  have hxr : R64 u := by have := where_ne hxw; unfold R64; omega
  obtain ⟨b, hb⟩ : ∃ b, fieldC c m w u f = (b, 0) := ⟨(fieldC c m w u f).1, by rw [← hxe]⟩
  have hbr : R64 b := by have := fieldR (c := c) hm w u f; rw [hb] at this; exact this
  have s3 : Seg (fun r => fieldC c m w r f) b B 0 := by rw [show (fun r => fieldC c m w r f) u = (b, 0) from hb] at s3; exact s3
  have hAB : Slots (A ++ B) := by
    refine ⟨?_, fun y hy => h4.2 y (by rcases List.mem_append.1 hy with q | q <;> simp [q])⟩
    rw [List.map_append, List.map_cons, List.nodup_append] at hnd
    rw [List.map_append, List.nodup_append]
    exact ⟨hnd.1, (List.nodup_cons.1 hnd.2.1).2, fun a ha b hb => hnd.2.2 a ha b (by simp [hb])⟩
  have hneq : ∀ y ∈ A ++ B, slot y ≠ slot u := by
    intro y hy e
    rw [List.map_append, List.map_cons, List.nodup_append] at hnd
    rcases List.mem_append.1 hy with q | q
    · exact hnd.2.2 (slot y) (List.mem_map_of_mem q) (slot u) (by simp) e
    · exact (List.nodup_cons.1 hnd.2.1).1 (by rw [← e]; exact List.mem_map_of_mem q)
  have hU := unlink_hit (hd := hd) (w := w) (x := u) (f := f) (b := b) (A := A) (B := B) hm (by omega) hxr hb ⟨by omega, by omega⟩ h
  -- what the memory is then
  have key : ∃ N : List Int, chain_Unlink (c, m, hd, w, u, f) = some (N, 0) ∧ N.length = m.length ∧ (∀ z ∈ N, R64 z) ∧ Seg (fun r => fieldC c N w r f) (N.getD hd.toNat 0) (A ++ B) 0 ∧ (∃ b', fieldC c N w u f = (b', 0)) := by
    by_cases hA : A = []
    · subst hA
      rw [hU, if_pos rfl]
      have hst : storeV m hd b = (m.set hd.toNat b, 0) := if_pos ⟨by omega, by omega⟩
      refine ⟨_, by rw [hst], by simp, RMset hm _ hbr, ?_, b, by rw [field_low hd.toNat b (by omega) u, hb]⟩
      rw [getD_set m _ _ _ _ (by omega), if_pos rfl]
      exact seg_congr _ _ _ (fun y hy => field_low hd.toNat b (by omega) y) s3
    · obtain ⟨A', p, rfl⟩ : ∃ A' p, A = A' ++ [p] := ⟨A.dropLast, A.getLast hA, (List.dropLast_concat_getLast hA).symm⟩
      rw [hU, if_neg hA]
      have ep : (A' ++ [p]).getLastD 0 = p := by simp
      rw [ep]
      obtain ⟨v, t1, t2⟩ := (seg_append A' [p] _ u).1 s1
      obtain ⟨rfl, hp0, hpe, t3⟩ := t2
      have hpe : (fieldC c m w v f).2 = 0 := hpe
      have hpw : (whereC c m w v f).2 = 0 := by rw [← field_where]; exact hpe
      have hloc : 2 + c.2.2.2.1 + c.2.2.2.2 ≤ (whereC c m w v f).1 := by
        obtain ⟨_, _, _, k4⟩ := where_ok hpw
        exact (fieldV_ok k4).2.2.1
      have hlr := where_range hpw
      refine ⟨_, by rw [put_ok b hpw], by simp, RMset hm _ hbr, ?_, ?_⟩
      · rw [getD_set m _ _ _ _ (by omega), if_neg (by omega)]
        have nd2 : ∀ y ∈ A' ++ B, slot y ≠ slot v := by
          intro y hy e
          have q := hAB.1
          rw [List.map_append, List.map_append, List.nodup_append, List.nodup_append] at q
          rcases List.mem_append.1 hy with z | z
          · exact q.1.2.2 (slot y) (List.mem_map_of_mem z) (slot v) (by simp) e
          · exact q.2.2 (slot v) (by simp) (slot y) (List.mem_map_of_mem z) e.symm
        have hg : ∀ y, fieldC c (m.set (whereC c m w v f).1.toNat b) w y f = if (whereC c m w y f).2 = 0 ∧ slot y = slot v then (b, 0) else fieldC c m w y f := fun y => field_set b hpw y
        have hgv : fieldC c (m.set (whereC c m w v f).1.toNat b) w v f = (b, 0) := by rw [hg v, if_pos ⟨hpw, rfl⟩]
        rw [List.append_assoc]
        refine (seg_append A' ([v] ++ B) _ 0).2 ⟨v, seg_congr _ _ _ (fun y hy => ?_) t1, rfl, hp0, (congrArg Prod.snd hgv : _), ?_⟩
        · show fieldC c (m.set (whereC c m w v f).1.toNat b) w y f = fieldC c m w y f
          rw [hg y, if_neg (fun q => nd2 y (List.mem_append.2 (.inl hy)) q.2)]
        · rw [show (fun r => fieldC c (m.set (whereC c m w v f).1.toNat b) w r f) v = (b, 0) from hgv]
          refine seg_congr _ _ _ (fun y hy => ?_) s3
          show fieldC c (m.set (whereC c m w v f).1.toNat b) w y f = fieldC c m w y f
          rw [hg y, if_neg (fun q => nd2 y (List.mem_append.2 (.inr hy)) q.2)]
      · rw [field_set b hpw u]
        split
        · exact ⟨_, rfl⟩
        · exact ⟨b, hb⟩
  obtain ⟨N, k1, k2, k3, k4, b', k5⟩ := key
  have hF : followV c N w (N.getD hd.toNat 0) f = (A ++ B, 0) := follow_mk h1 (by rw [k2]; exact h2) k4 hAB
  refine ⟨N, k1, k2, by rw [follow_eq k3 w _ f (RMget k3 _), hF], ?_⟩
  exact unlink_miss k3 hxr k5 ⟨by omega, by omega⟩ hF (fun y hy e => hneq y hy (by rw [e]))

theorem ChainOut (x : Cfg × List Int × Int × Int × Int × Int) (hx : InRT [⟨true, (.pair .int (.pair .int (.pair .int (.pair .int .int))))⟩, ⟨false, (.sl .int)⟩, ⟨false, .int⟩, ⟨false, .int⟩, ⟨false, .int⟩, ⟨false, .int⟩] x) : tendrillaw14_ChainOut x = some true := by
  obtain ⟨c, m, id, w, at', f⟩ := x
  have hm : ∀ x ∈ m, R64 x := hx.2.1.2
  have hr : R64 at' := hx.2.2.2.2.1
  unfold tendrillaw14_ChainOut
  simp only [live14_eq, Option.bind_some, Bool.not_true, cond_false, few_eq, etaC, node_eq, size_eq, nec]
  by_cases hf : (m.length : Int) ≤ 1000
  · rw [decide_eq_true hf, Bool.not_true, cond_false]
    by_cases h0 : (nodeV c id).2 = 0
    · rw [if_pos h0]
      obtain ⟨h1, h2, h3, h4⟩ := node_ok h0
      rw [if_pos h1]
      by_cases h5 : (m.length : Int) = 2 + c.2.2.2.1 + c.2.2.2.2 + c.1 * 4 + c.2.1 * 5 + c.2.2.1 * 3
      · rw [if_pos h5]
        have hN := h1.1; have hE := h1.2.1; have hP := h1.2.2.1
        have hlt : (nodeV c id).1 < (m.length : Int) := by omega
        rw [ct (show (0 : Int) ≤ (nodeV c id).1 by omega), ct hlt, follow_eq hm w _ f (RMget hm _), Option.bind_some]
        by_cases h6 : (followV c m w (m.getD (nodeV c id).1.toNat 0) f).2 = 0
        · rw [if_pos h6]
          obtain ⟨l, hl⟩ : ∃ l, followV c m w (m.getD (nodeV c id).1.toNat 0) f = (l, 0) := ⟨(followV c m w (m.getD (nodeV c id).1.toNat 0) f).1, Prod.ext rfl h6⟩
          rw [hl]
          have hn := (follow_ok hl).2.2.2.len
          simp only [dec]
          by_cases g1 : at' < 0
          · rw [if_pos g1]
          · rw [if_neg g1]
            by_cases g2 : (l.length : Int) ≤ at'
            · rw [if_pos g2]
            · have hat : at'.toNat < l.length := by omega
              obtain ⟨A, B, hAB, hA⟩ : ∃ A B, l = A ++ l.getD at'.toNat 0 :: B ∧ A.length = at'.toNat :=
                ⟨l.take at'.toNat, l.drop (at'.toNat + 1), by rw [← drop_cons l at'.toNat 0 hat, List.take_append_drop], by simp; omega⟩
              have hl' := hl
              rw [hAB] at hl'
              obtain ⟨N, k1, k2, k3, k4⟩ := out_end hm (by omega) ⟨h3, h4⟩ hlt hl'
              have e1 : (0 : Int) ≤ at' := by omega
              have e2 : at' < (l.length : Int) := by omega
              have e3 : (0 : Int) ≤ (nodeV c id).1 := by omega
              have e4 : wrap64 (at' + 1) = ((at'.toNat + 1 : Nat) : Int) := by rw [w64 (by omega) (by omega)]; omega
              have e5 : List.drop 0 (List.take at'.toNat l) = A := by rw [List.drop_zero]; rw [hAB, ← hA]; simp
              have e6 : List.drop (at'.toNat + 1) (List.take l.length l) = B := by
                rw [List.take_length]
                have : l.drop (at'.toNat + 1) = (A ++ l.getD at'.toNat 0 :: B).drop (A.length + 1) := by rw [hA, ← hAB]
                rw [this]; simp
              have hlenAB : A.length + B.length + 1 = l.length := by
                have := congrArg List.length hAB
                simp at this; omega
              simp only [if_neg g2, if_pos e1, if_pos e2, if_pos e3, k1, k2, k3, k4, Option.bind_some, if_true, hlt, eqc, e4, Int.toNat_natCast, e5, e6]
              rw [if_pos (by omega), if_pos (by omega), if_pos (by omega), if_pos (by omega), if_pos (by omega), if_pos (by omega), same_eq _ _ (by simp; omega)]
              simp
        · rw [if_neg h6]
      · rw [if_neg h5]
    · rw [if_neg h0]
  · rw [decide_eq_false hf, Bool.not_false, cond_true]
end Go.Proofs.Ythnbleblmpnfhaa.Pure
