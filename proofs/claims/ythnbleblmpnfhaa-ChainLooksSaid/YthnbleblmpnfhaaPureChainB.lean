/- Chains: what is followed, in plain words; no condition. -/
import Derived.Test.YthnbleblmpnfhaaPureChainA
set_option linter.unusedVariables false
set_option linter.unusedSimpArgs false
namespace Go.Proofs.Ythnbleblmpnfhaa.Pure
open Go Go.RowKit Go.Proofs.YthnbleblmpnfhaaFn Go.Proofs.YthnbleblmpnfhaaPx

/-- A way from a reference through a list's to another one. -/
def Seg (g : Int → Int × Int) : Int → List Int → Int → Prop
  | r, [], t => r = t
  | r, x :: l, t => r = x ∧ x ≠ 0 ∧ (g x).2 = 0 ∧ Seg g (g x).1 l t

theorem seg_append {g : Int → Int × Int} : ∀ (A B : List Int) (r t : Int), Seg g r (A ++ B) t ↔ ∃ u, Seg g r A u ∧ Seg g u B t
  | [], B, r, t => ⟨fun h => ⟨r, rfl, h⟩, fun ⟨u, h1, h2⟩ => by rw [show r = u from h1]; exact h2⟩
  | x :: A, B, r, t => by
    constructor
    · rintro ⟨h1, h2, h3, h4⟩
      obtain ⟨u, h5, h6⟩ := (seg_append A B _ t).1 h4
      exact ⟨u, ⟨h1, h2, h3, h5⟩, h6⟩
    · rintro ⟨u, ⟨h1, h2, h3, h4⟩, h5⟩
      exact ⟨h1, h2, h3, (seg_append A B _ t).2 ⟨u, h4, h5⟩⟩
theorem seg_congr {g g' : Int → Int × Int} : ∀ (l : List Int) (r t : Int), (∀ x ∈ l, g' x = g x) → Seg g r l t → Seg g' r l t
  | [], r, t, _, h => h
  | x :: l, r, t, hx, ⟨h1, h2, h3, h4⟩ => by
    have e := hx x (by simp)
    exact ⟨h1, h2, by rw [e]; exact h3, by rw [e]; exact seg_congr l _ t (fun y hy => hx y (by simp [hy])) h4⟩
theorem seg_mem {g : Int → Int × Int} : ∀ (l : List Int) (r t : Int), Seg g r l t → ∀ x ∈ l, x ≠ 0 ∧ (g x).2 = 0
  | [], _, _, _, x, hx => by simp at hx
  | y :: l, r, t, ⟨h1, h2, h3, h4⟩, x, hx => by
    rcases List.mem_cons.1 hx with rfl | hx
    · exact ⟨h2, h3⟩
    · exact seg_mem l _ t h4 x hx
theorem seg_head {g : Int → Int × Int} {r t x : Int} {l : List Int} (h : Seg g r (x :: l) t) : r = x := h.1

def walk (g : Int → Int × Int) : Nat → Int → List Int → List Int × Int
  | 0, _, _ => ([], 6)
  | k + 1, ref, out => if ref = 0 then (out, 0) else if (g ref).2 ≠ 0 then ([], (g ref).2) else if slot ref ∈ out.map slot then ([], 6) else walk g k (g ref).1 (out ++ [ref])

theorem walk_zero (g : Int → Int × Int) (k : Nat) (out : List Int) : walk g (k + 1) 0 out = (out, 0) := by rw [walk, if_pos rfl]
theorem walk_met {g : Int → Int × Int} {ref : Int} (k : Nat) (out : List Int) (h0 : ref ≠ 0) (h1 : (g ref).2 = 0) (h2 : slot ref ∈ out.map slot) : walk g (k + 1) ref out = ([], 6) := by
  rw [walk, if_neg h0, if_neg (fun q => q h1), if_pos h2]
theorem walk_seg {g : Int → Int × Int} : ∀ (l : List Int) (k : Nat) (ref t : Int) (out : List Int), Seg g ref l t → ((out ++ l).map slot).Nodup → walk g (k + l.length) ref out = walk g k t (out ++ l)
  | [], k, ref, t, out, h, _ => by rw [show ref = t from h]; simp
  | x :: l, k, ref, t, out, ⟨h1, h2, h3, h4⟩, hn => by
    subst h1
    have e : k + (ref :: l).length = (k + l.length) + 1 := by simp; omega
    have hn' : ((out ++ [ref] ++ l).map slot).Nodup := by simpa using hn
    have hs : ¬ slot ref ∈ out.map slot := by
      intro q
      have hn2 := hn
      rw [List.map_append] at hn2
      exact (List.nodup_append.1 hn2).2.2 _ q _ (by simp) rfl
    rw [e, walk, if_neg h2, if_neg (fun q => q h3), if_neg hs, walk_seg l k _ t (out ++ [ref]) h4 hn']
    simp
theorem walk_is {g : Int → Int × Int} : ∀ (k : Nat) (ref : Int) (out res : List Int), (out.map slot).Nodup → walk g k ref out = (res, 0) → ∃ l, res = out ++ l ∧ Seg g ref l 0 ∧ ((out ++ l).map slot).Nodup
  | 0, ref, out, res, _, h => by simp [walk] at h
  | k + 1, ref, out, res, hn, h => by
    rw [walk] at h
    by_cases h0 : ref = 0
    · rw [if_pos h0] at h
      obtain ⟨rfl, _⟩ := Prod.mk.inj h
      exact ⟨[], by simp, h0, by simpa using hn⟩
    · rw [if_neg h0] at h
      by_cases h1 : (g ref).2 = 0
      · rw [if_neg (fun q => q h1)] at h
        by_cases h2 : slot ref ∈ out.map slot
        · rw [if_pos h2] at h; exact absurd (Prod.mk.inj h).2 (by decide)
        · rw [if_neg h2] at h
          have hn' : ((out ++ [ref]).map slot).Nodup := by
            rw [List.map_append, List.nodup_append]
            exact ⟨hn, by simp, fun a ha b hb => by simp at hb; subst hb; exact fun e => h2 (e ▸ ha)⟩
          obtain ⟨l, e1, e2, e3⟩ := walk_is k _ _ _ hn' h
          exact ⟨ref :: l, by rw [e1]; simp, ⟨rfl, h0, h1, e2⟩, by simpa using e3⟩
      · rw [if_pos h1] at h
        exact absurd (Prod.mk.inj h).2 h1
theorem walk_err {g : Int → Int × Int} : ∀ (k : Nat) (ref : Int) (out : List Int), (walk g k ref out).2 ≠ 0 → (walk g k ref out).1 = []
  | 0, ref, out, h => rfl
  | k + 1, ref, out, h => by
    rw [walk] at h ⊢
    by_cases h0 : ref = 0
    · rw [if_pos h0] at h; exact absurd rfl h
    · rw [if_neg h0] at h ⊢
      by_cases h1 : (g ref).2 ≠ 0
      · rw [if_pos h1]
      · rw [if_neg h1] at h ⊢
        by_cases h2 : slot ref ∈ out.map slot
        · rw [if_pos h2]
        · rw [if_neg h2] at h ⊢
          exact walk_err k _ _ h

/-- A list of numbers below n, none twice, is no longer than n. -/
theorem short : ∀ (n : Nat) (l : List Int), l.Nodup → (∀ x ∈ l, 0 ≤ x ∧ x < (n : Int)) → l.length ≤ n
  | 0, l, _, h => by
    cases l with
    | nil => simp
    | cons x l => have := h x (by simp); omega
  | n + 1, l, hn, h => by
    have ih := short n (l.erase (n : Int)) (hn.erase _) fun x hx => by
      have h1 := h x (List.mem_of_mem_erase hx)
      have h2 : x ≠ (n : Int) := ((hn.mem_erase_iff).1 hx).1
      omega
    have : l.length ≤ (l.erase (n : Int)).length + 1 := by
      rw [List.length_erase]
      split <;> omega
    omega

def Slots (out : List Int) : Prop := (out.map slot).Nodup ∧ ∀ x ∈ out, 0 ≤ slot x ∧ slot x < 64
theorem Slots.len {out : List Int} (h : Slots out) : out.length ≤ 64 := by
  have := short 64 (out.map slot) h.1 (by
    intro y hy
    obtain ⟨x, hx, rfl⟩ := List.mem_map.1 hy
    exact h.2 x hx)
  simpa using this
theorem Slots.nil : Slots [] := ⟨by simp, by simp⟩
theorem Slots.snoc {out : List Int} {ref : Int} (h : Slots out) (h1 : ¬ slot ref ∈ out.map slot) (h2 : 0 ≤ slot ref ∧ slot ref < 64) : Slots (out ++ [ref]) := by
  refine ⟨?_, fun x hx => ?_⟩
  · rw [List.map_append, List.nodup_append]
    exact ⟨h.1, by simp, fun a ha b hb => by simp at hb; subst hb; exact fun e => h1 (e ▸ ha)⟩
  · rcases List.mem_append.1 hx with hx | hx
    · exact h.2 x hx
    · simp at hx; subst hx; exact h2

theorem RMget {m : List Int} (hm : ∀ x ∈ m, R64 x) (i : Nat) : R64 (m.getD i 0) := by
  rw [List.getD_eq_getElem?_getD]
  cases h : m[i]? with
  | none => unfold R64; simp
  | some x => exact hm x (List.mem_of_getElem? h)
theorem fieldR {c : Cfg} {m : List Int} (hm : ∀ x ∈ m, R64 x) (w r f : Int) : R64 (fieldC c m w r f).1 := by
  unfold fieldC loadV
  split
  · split
    · exact RMget hm _
    · unfold R64; simp
  · unfold R64; simp

theorem wf_slot (r : Int) : (Lit.int .i64 (slot r)).wf = true := by
  have := slot_range r
  have h1 : IntKind.i64.min = -9223372036854775808 := by decide
  have h2 : IntKind.i64.max = 9223372036854775807 := by decide
  simp only [Lit.wf, h1, h2, Bool.and_eq_true, decide_eq_true_eq]
  omega

theorem fk_eq {c : Cfg} {m : List Int} (hm : ∀ x ∈ m, R64 x) (w f : Int) : ∀ (k k' : Nat) (ref : Int) (out : List Int), R64 ref → Slots out → 65 < k + out.length → 65 < k' + out.length →
    chain_Follow_K k c m w f ref (out.map slot).reverse out = some (walk (fun r => fieldC c m w r f) k' ref out)
  | 0, k', ref, out, _, hs, h, _ => by have := hs.len; omega
  | k + 1, 0, ref, out, _, hs, _, h => by have := hs.len; omega
  | k + 1, k' + 1, ref, out, hr, hs, h, h' => by
    have hl := hs.len
    rw [chain_Follow_K, walk, nec]
    by_cases h0 : ref = 0
    · rw [if_pos h0, if_pos h0]
    · rw [if_neg h0, if_neg h0]
      simp only [cfield_eq c m w ref f hr, unpack_eq ref hr, Option.bind_some]
      have e1 : (unpackV ref).1 = slot ref := rfl
      rw [e1, decide_eq_true (wf_slot ref), Bool.true_and, ct (by simp; omega), nec]
      by_cases h1 : (fieldC c m w ref f).2 = 0
      · rw [if_pos h1, if_neg (fun q => q h1)]
        by_cases h2 : slot ref ∈ out.map slot
        · rw [show ((out.map slot).reverse.contains (slot ref)) = true by simpa using h2, cond_true, if_pos h2]
        · rw [show ((out.map slot).reverse.contains (slot ref)) = false by simpa using h2, cond_false, ct (by omega), if_neg h2]
          have hw : (whereC c m w ref f).2 = 0 := by rw [← field_where]; exact h1
          have := fk_eq (c := c) hm w f k k' (fieldC c m w ref f).1 (out ++ [ref]) (fieldR hm _ _ _) (hs.snoc h2 (where_slot hw)) (by simp; omega) (by simp; omega)
          rw [List.map_append, List.reverse_append] at this
          exact this
      · rw [if_neg h1, if_pos h1]

def followV (c : Cfg) (m : List Int) (w head f : Int) : List Int × Int := if ok c ∧ (m.length : Int) = sizeC c then walk (fun r => fieldC c m w r f) 100 head [] else ([], 1)
theorem follow_eq {c : Cfg} {m : List Int} (hm : ∀ x ∈ m, R64 x) (w head f : Int) (hr : R64 head) : chain_Follow (c, m, w, head, f) = some (followV c m w head f) := by
  unfold chain_Follow followV
  simp only [check_eq, size_eq, Option.bind_some, nec]
  by_cases hc : ok c
  · rw [if_pos hc, if_pos rfl, if_pos hc, show 2 + c.2.2.2.1 + c.2.2.2.2 + c.1 * 4 + c.2.1 * 5 + c.2.2.1 * 3 = sizeC c from rfl]
    by_cases hl : (m.length : Int) = sizeC c
    · rw [if_pos hl, if_pos ⟨hc, hl⟩]
      exact fk_eq hm w f 2000000 100 head [] hr Slots.nil (by simp) (by simp)
    · rw [if_neg hl, if_neg (fun q => hl q.2)]
  · rw [if_neg hc, if_neg (by decide), if_neg (fun q => hc q.1)]

/-- What a chain that is followed is. -/
theorem follow_ok {c : Cfg} {m : List Int} {w head f : Int} {l : List Int} (h : followV c m w head f = (l, 0)) : ok c ∧ (m.length : Int) = sizeC c ∧ Seg (fun r => fieldC c m w r f) head l 0 ∧ Slots l := by
  unfold followV at h
  by_cases hc : ok c ∧ (m.length : Int) = sizeC c
  · rw [if_pos hc] at h
    obtain ⟨l', e1, e2, e3⟩ := walk_is 100 head [] l (by simp) h
    obtain rfl : l = l' := by simpa using e1
    refine ⟨hc.1, hc.2, e2, by simpa using e3, fun x hx => ?_⟩
    have h2 : (fieldC c m w x f).2 = 0 := (seg_mem _ _ _ e2 x hx).2
    rw [field_where] at h2
    exact where_slot h2
  · rw [if_neg hc] at h
    exact absurd (Prod.mk.inj h).2 (by decide)
theorem follow_mk {c : Cfg} {m : List Int} {w head f : Int} {l : List Int} (hc : ok c) (hm : (m.length : Int) = sizeC c) (hs : Seg (fun r => fieldC c m w r f) head l 0) (hl : Slots l) : followV c m w head f = (l, 0) := by
  unfold followV
  rw [if_pos ⟨hc, hm⟩]
  have h64 := hl.len
  have := walk_seg l (100 - l.length) head 0 [] hs (by simpa using hl.1)
  rw [show 100 - l.length + l.length = 100 by omega] at this
  rw [this, show 100 - l.length = (99 - l.length) + 1 by omega, walk_zero]
  simp
theorem follow_err {c : Cfg} {m : List Int} {w head f : Int} (h : (followV c m w head f).2 ≠ 0) : (followV c m w head f).1 = [] := by
  unfold followV at h ⊢
  by_cases hc : ok c ∧ (m.length : Int) = sizeC c
  · rw [if_pos hc] at h ⊢
    exact walk_err _ _ _ h
  · rw [if_neg hc]
theorem follow_len {c : Cfg} {m : List Int} {w head f : Int} : (followV c m w head f).1.length ≤ 64 := by
  by_cases h : (followV c m w head f).2 = 0
  · exact (follow_ok (l := (followV c m w head f).1) (by rw [← h])).2.2.2.len
  · rw [follow_err h]; simp

/-! ### The reference's -/
theorem rf24 (c : Cfg) (m : List Int) (w f ref n s : Int) (out : List Int) (ho : ∀ x ∈ out, R64 x) (hl : out.length ≤ 64) (K : Nat) : ∀ (j i : Nat), i + j = out.length →
    tendrilref14_Follow_L24 (K + j + 1) m w f ref n s out.length i c.1 c.2.1 c.2.2.1 c.2.2.2.1 c.2.2.2.2 out = if s ∈ (out.drop i).map slot then some ([], 6) else tendrilref14_Follow_L12 K m w f n c.1 c.2.1 c.2.2.1 c.2.2.2.1 c.2.2.2.2 (out ++ [ref])
  | 0, i, hi => by
    rw [tendrilref14_Follow_L24, cf (show ¬ ((i : Int) < (out.length : Int)) by omega), List.drop_of_length_le (by omega), ct (show out.length + [ref].length ≤ 1000000 by simp; omega)]
    simp
  | j + 1, i, hi => by
    rw [tendrilref14_Follow_L24, ct (show (i : Int) < (out.length : Int) by omega), ct (show (0 : Int) ≤ (i : Int) by omega), ct (show (i : Int) < (out.length : Int) by omega)]
    have e0 := drop_cons out i 0 (by omega)
    have hr : R64 (out.getD i 0) := RMget ho i
    simp only [Int.toNat_natCast, runpack_eq _ hr, Option.bind_some, eqc, wi (show i ≤ 1000000 by omega)]
    have ih := rf24 c m w f ref n s out ho hl K j (i + 1) (by omega)
    rw [show K + (j + 1) = K + j + 1 by omega, ih]
    rw [e0, List.map_cons]
    by_cases h : (unpackV (out.getD i 0)).1 = s
    · rw [if_pos h, if_pos (by rw [← h]; simp [slot])]
    · rw [if_neg h]
      have : (s ∈ slot (out.getD i 0) :: ((out.drop (i + 1)).map slot)) ↔ s ∈ (out.drop (i + 1)).map slot := by
        rw [List.mem_cons]
        exact ⟨fun q => q.resolve_left (fun e => h e.symm), .inr⟩
      simp only [this]

theorem rf12 {c : Cfg} {m : List Int} (hm : ∀ x ∈ m, R64 x) (w f : Int) : ∀ (k' K : Nat) (ref : Int) (out : List Int), R64 ref → (∀ x ∈ out, R64 x) → Slots out → 65 < k' + out.length → 70 * k' ≤ K →
    tendrilref14_Follow_L12 K m w f ref c.1 c.2.1 c.2.2.1 c.2.2.2.1 c.2.2.2.2 out = some (walk (fun r => fieldC c m w r f) k' ref out)
  | 0, K, ref, out, _, _, hs, h, _ => by have := hs.len; omega
  | k' + 1, K, ref, out, hr, ho, hs, h, hK => by
    have hl := hs.len
    obtain ⟨K', rfl⟩ : ∃ K', K = (K' + out.length + 1) + 1 := ⟨K - out.length - 2, by omega⟩
    rw [tendrilref14_Follow_L12, walk, nec]
    by_cases h0 : ref = 0
    · rw [if_pos h0, if_pos h0]
    · rw [if_neg h0, if_neg h0]
      simp only [etaC, r14field_eq c m w ref f hr, runpack_eq ref hr, Option.bind_some, nec]
      by_cases h1 : (fieldC c m w ref f).2 = 0
      · rw [if_pos h1, if_neg (fun q => q h1), show (0 : Int) = ((0 : Nat) : Int) from rfl, rf24 c m w f ref _ _ out ho hl K' out.length 0 (by omega), List.drop_zero]
        by_cases h2 : slot ref ∈ out.map slot
        · rw [if_pos h2, if_pos (show (unpackV ref).1 ∈ out.map slot from h2)]
        · rw [if_neg h2, if_neg (show ¬ (unpackV ref).1 ∈ out.map slot from h2)]
          have hw : (whereC c m w ref f).2 = 0 := by rw [← field_where]; exact h1
          exact rf12 hm w f k' K' _ _ (fieldR hm _ _ _) (fun x hx => by
            rcases List.mem_append.1 hx with hx | hx
            · exact ho x hx
            · simp at hx; subst hx; exact hr) (hs.snoc h2 (where_slot hw)) (by simp; omega) (by omega)
      · rw [if_neg h1, if_pos h1]

theorem rfollow_eq {c : Cfg} {m : List Int} (hm : ∀ x ∈ m, R64 x) (w head f : Int) (hr : R64 head) : tendrilref14_Follow (c, m, w, head, f) = some (followV c m w head f) := by
  unfold tendrilref14_Follow tendrilref14_Follow_K followV
  simp only [etaC, rcheck_eq, rsize_eq, size_eq, Option.bind_some, nec]
  by_cases hc : ok c
  · rw [if_pos hc, if_pos rfl, if_pos hc, show 2 + c.2.2.2.1 + c.2.2.2.2 + c.1 * 4 + c.2.1 * 5 + c.2.2.1 * 3 = sizeC c from rfl]
    by_cases hl : (m.length : Int) = sizeC c
    · rw [if_pos hl, if_pos ⟨hc, hl⟩]
      exact rf12 hm w f 100 2000000 head [] hr (by simp) Slots.nil (by simp) (by omega)
    · rw [if_neg hl, if_neg (fun q => hl q.2)]
  · rw [if_neg hc, if_neg (by decide), if_neg (fun q => hc q.1)]
end Go.Proofs.Ythnbleblmpnfhaa.Pure
