/- Records pushed, and taken out, in plain words; no condition. -/
import Derived.Test.YthnbleblmpnfhaaPureChainB
set_option linter.unusedVariables false
set_option linter.unusedSimpArgs false
namespace Go.Proofs.Ythnbleblmpnfhaa.Pure
open Go Go.RowKit Go.Proofs.YthnbleblmpnfhaaFn Go.Proofs.YthnbleblmpnfhaaPx

theorem live14_eq : tendrillaw14_live () = some true := by kernel_rfl
theorem few_eq (m : List Int) : tendrillaw14_few m = some (decide ((m.length : Int) ≤ 1000)) := rfl

theorem seg_get {g : Int → Int × Int} : ∀ (l : List Int) (r : Int), Seg g r l 0 → ∀ i, i < l.length → g (l.getD i 0) = (l.getD (i + 1) 0, 0)
  | [], r, h, i, hi => by simp at hi
  | x :: l, r, ⟨h1, h2, h3, h4⟩, i, hi => by
    cases i with
    | zero =>
      have e : g x = ((g x).1, 0) := by rw [← h3]
      rw [List.getD_cons_zero, e, List.getD_cons_succ]
      cases l with
      | nil => rw [show (g x).1 = 0 from h4]; rfl
      | cons y l => rw [show (g x).1 = y from h4.1]; rfl
    | succ i =>
      rw [List.getD_cons_succ, List.getD_cons_succ]
      exact seg_get l _ h4 i (by simpa using hi)
theorem seg_r {g : Int → Int × Int} {r : Int} {l : List Int} (h : Seg g r l 0) : r = l.getD 0 0 := by
  cases l with
  | nil => exact h
  | cons x l => exact h.1

def capV (c : Cfg) (w : Int) : Int := if w = 1 then c.1 else if w = 2 then c.2.1 else if w = 3 then c.2.2.1 else 0
theorem fieldV_cap {c : Cfg} {w s f a : Int} (h : fieldV c w s f = (a, 0)) : s < capV c w := by
  unfold fieldV at h
  unfold capV
  split at h
  · split at h
    · rename_i q; rw [if_pos q.1]; omega
    · split at h
      · rename_i q; rw [if_neg (by omega), if_pos q.1]; omega
      · split at h
        · rename_i q; rw [if_neg (by omega), if_neg (by omega), if_pos q.1]; omega
        · simp at h
  · simp at h
theorem follow_cap {c : Cfg} {m : List Int} {w head f : Int} {l : List Int} (h : followV c m w head f = (l, 0)) : (l.length : Int) ≤ capV c w := by
  obtain ⟨h1, h2, h3, h4⟩ := follow_ok h
  have hc : 0 ≤ capV c w := by
    unfold capV
    have := h1.1; have := h1.2.1; have := h1.2.2.1
    repeat' split
    all_goals omega
  have := short (capV c w).toNat (l.map slot) h4.1 (by
    intro y hy
    obtain ⟨x, hx, rfl⟩ := List.mem_map.1 hy
    have h2 : (fieldC c m w x f).2 = 0 := (seg_mem _ _ _ h3 x hx).2
    rw [field_where] at h2
    obtain ⟨_, _, _, k4⟩ := where_ok h2
    have := fieldV_cap k4
    have := slot_range x
    omega)
  rw [List.length_map] at this
  omega

/-! ### Taken out -/
theorem ul_hit (c : Cfg) (m : List Int) (hd w x f b : Int) (hx : R64 x) (hm : m.length ≤ 1000000) (B : List Int) (K : Nat) : ∀ (A2 A1 : List Int) (ahead : Int), (∀ y ∈ A2, y ≠ x) → (∀ y ∈ A2, R64 y) → R64 ahead → (A1 ++ A2 ++ x :: B).length ≤ 1000000 →
    chain_Unlink_L26 (K + A2.length + 1) m hd w x f b ahead ((A1 ++ A2 ++ x :: B).length : Nat) (A1.length : Nat) c.1 c.2.1 c.2.2.1 c.2.2.2.1 c.2.2.2.2 (A1 ++ A2 ++ x :: B) = some (if A2.getLastD ahead = 0 then storeV m hd b else putC c m w (A2.getLastD ahead) f b)
  | [], A1, ahead, _, _, ha, hl => by
    show _ = some (if ahead = 0 then storeV m hd b else putC c m w ahead f b)
    rw [chain_Unlink_L26, ct (show ((A1.length : Nat) : Int) < (((A1 ++ ([] : List Int) ++ x :: B).length : Nat) : Int) by simp; omega), ct (show (0 : Int) ≤ (A1.length : Nat) by omega), ct (show ((A1.length : Nat) : Int) < (((A1 ++ ([] : List Int) ++ x :: B).length : Nat) : Int) by simp; omega), Int.toNat_natCast]
    have e : (A1 ++ ([] : List Int) ++ x :: B).getD A1.length 0 = x := by simp [List.getD_eq_getElem?_getD]
    rw [e, nec, if_pos rfl, eqc]
    simp only [etaC, store_eq m _ _ hm, cput_eq c m w ahead f b ha hm, Option.bind_some]
    by_cases h0 : ahead = 0
    · rw [if_pos h0, if_pos h0]
    · rw [if_neg h0, if_neg h0]
  | y :: A2, A1, ahead, hy, hr, ha, hl => by
    rw [show K + (y :: A2).length + 1 = (K + A2.length + 1) + 1 by simp; omega]
    rw [chain_Unlink_L26, ct (show ((A1.length : Nat) : Int) < (((A1 ++ y :: A2 ++ x :: B).length : Nat) : Int) by simp; omega), ct (show (0 : Int) ≤ (A1.length : Nat) by omega), ct (show ((A1.length : Nat) : Int) < (((A1 ++ y :: A2 ++ x :: B).length : Nat) : Int) by simp; omega), Int.toNat_natCast]
    have e : (A1 ++ y :: A2 ++ x :: B).getD A1.length 0 = y := by simp [List.getD_eq_getElem?_getD]
    have hl1 : A1.length ≤ 1000000 := by simp at hl; omega
    rw [e, nec, if_neg (hy y (by simp)), wi hl1]
    have ih := ul_hit c m hd w x f b hx hm B K A2 (A1 ++ [y]) y (fun z hz => hy z (by simp [hz])) (fun z hz => hr z (by simp [hz])) (hr y (by simp)) (by simpa using hl)
    have e2 : A1 ++ [y] ++ A2 ++ x :: B = A1 ++ y :: A2 ++ x :: B := by simp
    have e3 : (A1 ++ [y]).length = A1.length + 1 := by simp
    rw [e2, e3] at ih
    rw [ih, List.getLastD_cons]

theorem ul_miss (c : Cfg) (m : List Int) (hd w x f b : Int) (K : Nat) : ∀ (A2 A1 : List Int) (ahead : Int), (∀ y ∈ A2, y ≠ x) → (A1 ++ A2).length ≤ 1000000 →
    chain_Unlink_L26 (K + A2.length + 1) m hd w x f b ahead ((A1 ++ A2).length : Nat) (A1.length : Nat) c.1 c.2.1 c.2.2.1 c.2.2.2.1 c.2.2.2.2 (A1 ++ A2) = some ([], 2)
  | [], A1, ahead, _, hl => by
    rw [chain_Unlink_L26, cf (show ¬ ((A1.length : Nat) : Int) < (((A1 ++ ([] : List Int)).length : Nat) : Int) by simp)]
  | y :: A2, A1, ahead, hy, hl => by
    rw [show K + (y :: A2).length + 1 = (K + A2.length + 1) + 1 by simp; omega]
    rw [chain_Unlink_L26, ct (show ((A1.length : Nat) : Int) < (((A1 ++ y :: A2).length : Nat) : Int) by simp; omega), ct (show (0 : Int) ≤ (A1.length : Nat) by omega), ct (show ((A1.length : Nat) : Int) < (((A1 ++ y :: A2).length : Nat) : Int) by simp; omega), Int.toNat_natCast]
    have e : (A1 ++ y :: A2).getD A1.length 0 = y := by simp [List.getD_eq_getElem?_getD]
    have hl1 : A1.length ≤ 1000000 := by simp at hl; omega
    rw [e, nec, if_neg (hy y (by simp)), wi hl1]
    have ih := ul_miss c m hd w x f b K A2 (A1 ++ [y]) y (fun z hz => hy z (by simp [hz])) (by simpa using hl)
    have e2 : A1 ++ [y] ++ A2 = A1 ++ y :: A2 := by simp
    have e3 : (A1 ++ [y]).length = A1.length + 1 := by simp
    rw [e2, e3] at ih
    exact ih

theorem unlink_hit {c : Cfg} {m : List Int} (hm : ∀ x ∈ m, R64 x) (hlen : m.length ≤ 1000000) {hd w x f b : Int} {A B : List Int} (hx : R64 x) (hb : fieldC c m w x f = (b, 0)) (hh : 0 ≤ hd ∧ hd < (m.length : Int))
    (hf : followV c m w (m.getD hd.toNat 0) f = (A ++ x :: B, 0)) : chain_Unlink (c, m, hd, w, x, f) = some (if A = [] then storeV m hd b else putC c m w (A.getLastD 0) f b) := by
  obtain ⟨h1, h2, h3, h4⟩ := follow_ok hf
  have hL := h4.len
  have hnd := h4.1
  have hA : ∀ y ∈ A, y ≠ x := by
    intro y hy e
    subst e
    rw [List.map_append, List.nodup_append] at hnd
    exact hnd.2.2 (slot y) (List.mem_map_of_mem hy) (slot y) (by simp) rfl
  have hr : ∀ y ∈ A, R64 y := by
    intro y hy
    have h2 : (fieldC c m w y f).2 = 0 := (seg_mem _ _ _ h3 y (by simp [hy])).2
    rw [field_where] at h2
    have := where_ne h2
    unfold R64; omega
  have hz : A.getLastD 0 = 0 ↔ A = [] := by
    constructor
    · intro e
      cases A with
      | nil => rfl
      | cons y A =>
        have hmem : (y :: A).getLastD 0 ∈ (y :: A) := by
          rw [List.getLastD_eq_getLast?, List.getLast?_eq_some_getLast (by simp)]
          exact List.getLast_mem _
        rw [e] at hmem
        exact absurd rfl (seg_mem _ _ _ h3 0 (by rw [List.mem_append]; exact .inl hmem)).1
    · rintro rfl; rfl
  unfold chain_Unlink chain_Unlink_K
  have hld : loadV m hd = (m.getD hd.toNat 0, 0) := if_pos hh
  simp only [etaC, cfield_eq c m w x f hx, hb, load_eq, hld, follow_eq hm w _ f (RMget hm _), hf, Option.bind_some, nec, if_true]
  have hlt := (h4.len)
  have key := ul_hit c m hd w x f b hx hlen B (2000000 - A.length - 1) A [] 0 hA hr (by unfold R64; simp) (by simp only [List.nil_append]; omega)
  have eK : 2000000 - A.length - 1 + A.length + 1 = 2000000 := by simp at hL; omega
  rw [eK] at key
  simp only [List.nil_append] at key
  refine Eq.trans key ?_
  by_cases e : A = []
  · rw [if_pos e, if_pos (hz.2 e)]
  · rw [if_neg e, if_neg (fun q => e (hz.1 q))]

theorem unlink_miss {c : Cfg} {m : List Int} (hm : ∀ x ∈ m, R64 x) {hd w x f b : Int} {A : List Int} (hx : R64 x) (hb : fieldC c m w x f = (b, 0)) (hh : 0 ≤ hd ∧ hd < (m.length : Int))
    (hf : followV c m w (m.getD hd.toNat 0) f = (A, 0)) (hA : ∀ y ∈ A, y ≠ x) : chain_Unlink (c, m, hd, w, x, f) = some ([], 2) := by
  obtain ⟨h1, h2, h3, h4⟩ := follow_ok hf
  have hL := h4.len
  unfold chain_Unlink chain_Unlink_K
  have hld : loadV m hd = (m.getD hd.toNat 0, 0) := if_pos hh
  simp only [etaC, cfield_eq c m w x f hx, hb, load_eq, hld, follow_eq hm w _ f (RMget hm _), hf, Option.bind_some, nec, if_true]
  have key := ul_miss c m hd w x f b (2000000 - A.length - 1) A [] 0 hA (by simp only [List.nil_append]; omega)
  have eK : 2000000 - A.length - 1 + A.length + 1 = 2000000 := by omega
  rw [eK] at key
  simp only [List.nil_append] at key
  exact key

/-! ### Pushed -/
def pushV (c : Cfg) (m : List Int) (hd w r f : Int) : List Int × Int :=
  if (loadV m hd).2 = 0 then (if (putC c m w r f (loadV m hd).1).2 = 0 then storeV (putC c m w r f (loadV m hd).1).1 hd r else ([], (putC c m w r f (loadV m hd).1).2)) else ([], (loadV m hd).2)
theorem putC_len {c : Cfg} {m : List Int} {w r f v : Int} : (putC c m w r f v).1.length ≤ m.length := by
  unfold putC storeV
  split
  · split <;> simp
  · simp
theorem push_eq {c : Cfg} {m : List Int} (hlen : m.length ≤ 1000000) (hd w r f : Int) (hr : R64 r) : chain_Push (c, m, hd, w, r, f) = some (pushV c m hd w r f) := by
  unfold chain_Push pushV
  simp only [etaC, load_eq, cput_eq c m w r f _ hr hlen, Option.bind_some, nec]
  have h1 := fun v => Nat.le_trans (putC_len (c := c) (m := m) (w := w) (r := r) (f := f) (v := v)) hlen
  simp only [store_eq _ _ _ (h1 _), Option.bind_some]
  repeat' split
  all_goals rfl
end Go.Proofs.Ythnbleblmpnfhaa.Pure
