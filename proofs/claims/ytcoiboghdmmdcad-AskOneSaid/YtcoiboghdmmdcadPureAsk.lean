/- An access of what is shared, as ask does it; no condition. -/
import Derived.Test.YtcoiboghdmmdcadPureArenaLaws
import Derived.Test.YtcoiboghdmmdcadPurePlaceTB
set_option linter.unusedVariables false
set_option linter.unusedSimpArgs false
namespace Go.Proofs.Ytcoiboghdmmdcad.Pure
open Go Go.RowKit Go.Proofs.YtcoiboghdmmdcadFn Go.Proofs.YtcoiboghdmmdcadPx

theorem or1 (n : Int) (h0 : 0 ≤ n) (h1 : n < 9223372036854775808) (he : n % 2 = 0) : Go.bits .or .i64 n 1 = n + 1 :=
  bits_join .i64 63 (by decide) (fun m a b => by rw [IntKind.wrap_i64]; omega) 1 n 1 h0 (by omega) h1 (by omega) (by decide) (by decide)

/-! ### Latches -/
def okL (v : Int) : Prop := 0 ≤ v ∧ v ≤ 4611686018427387904
def heldV (v : Int) : Prop := okL v ∧ v % 2 = 1
instance (v : Int) : Decidable (okL v) := by unfold okL; infer_instance
instance (v : Int) : Decidable (heldV v) := by unfold heldV; infer_instance
theorem lcheck_eq (v : Int) : latch_Check v = some (if okL v then 0 else 1) := by
  unfold latch_Check
  simp only [dec]
  by_cases a : v < 0
  · rw [if_pos a, if_neg (fun h : okL v => absurd h.1 (by omega))]
  · rw [if_neg a]
    by_cases b : 4611686018427387904 < v
    · rw [if_pos b, if_neg (fun h : okL v => absurd h.2 (by omega))]
    · rw [if_neg b, if_pos (show okL v from ⟨by omega, by omega⟩)]
theorem lheld_eq (v : Int) : latch_Held v = some (decide (heldV v)) := by
  unfold latch_Held
  simp only [lcheck_eq, Option.bind_some, eqc]
  by_cases h : okL v
  · rw [if_pos h, if_pos rfl, and1 v h.1 (by have := h.2; omega)]
    congr 1
    rw [ne_dec]
    by_cases e : v % 2 = 1
    · rw [decide_eq_false (by omega), decide_eq_true (show heldV v from ⟨h, e⟩)]; rfl
    · rw [decide_eq_true (by omega), decide_eq_false (fun q : heldV v => e q.2)]; rfl
  · rw [if_neg h, if_neg (by decide), decide_eq_false (fun q : heldV v => h q.1)]
def tryV (v : Int) : Int × Bool := if okL v ∧ ¬ heldV v ∧ v ≠ 4611686018427387904 then (v + 1, true) else (v, false)
theorem ltry_eq (v : Int) : latch_Try v = some (tryV v) := by
  unfold latch_Try tryV
  simp only [lcheck_eq, lheld_eq, Option.bind_some, nec, eqc, dec]
  by_cases h : okL v
  · rw [if_pos h, if_pos rfl]
    by_cases g : heldV v
    · rw [if_pos g, if_neg (fun q => q.2.1 g)]
    · rw [if_neg g]
      by_cases e : v = 4611686018427387904
      · rw [if_pos e, if_neg (fun q => q.2.2 e)]
      · have he : v % 2 = 0 := by
          have : ¬ v % 2 = 1 := fun z => g ⟨h, z⟩
          omega
        rw [if_neg e, if_pos ⟨h, g, e⟩, or1 v h.1 (by have := h.2; omega) he]
  · rw [if_neg h, if_neg (by decide), if_neg (fun q => h q.1)]
def freeV (v : Int) : Int × Int := if okL v then (if heldV v then (v + 1, 0) else (0, 2)) else (0, 1)
theorem lfree_eq (v : Int) : latch_Free v = some (freeV v) := by
  unfold latch_Free freeV
  simp only [lcheck_eq, lheld_eq, Option.bind_some, nec]
  by_cases h : okL v
  · rw [if_pos h, if_pos rfl, if_pos h]
    by_cases g : heldV v
    · rw [if_pos g, decide_eq_true g, w64 (by have := h.1; omega) (by have := h.2; omega)]; rfl
    · rw [if_neg g, decide_eq_false g]; rfl
  · rw [if_neg h, if_neg (by decide), if_neg h]

/-! ### Waiting -/
abbrev Acc := Int × Int × Int × Int × Int × Int
def hasV (s : Sh) (a : Int) : Prop := 0 ≤ a ∧ a < (s.2.1.length : Int)
instance (s : Sh) (a : Int) : Decidable (hasV s a) := by unfold hasV; infer_instance
theorem has_eq (s : Sh) (a : Int) : ask_has (s, a) = some (decide (hasV s a)) := by
  unfold ask_has
  simp only [dec]
  by_cases h : 0 ≤ a
  · rw [if_pos h]; congr 1; rw [decide_eq_decide]; exact ⟨fun q => ⟨h, q⟩, fun q => q.2⟩
  · rw [if_neg h, decide_eq_false (fun q : hasV s a => h q.1)]
def waitsV (s : Sh) (a : Acc) : Prop := (a.1 = 5 ∨ a.1 = 7) ∧ hasV s a.2.1 ∧ heldV (s.2.1.getD a.2.1.toNat 0)
instance (s : Sh) (a : Acc) : Decidable (waitsV s a) := by unfold waitsV; infer_instance
theorem waits_eq (s : Sh) (a : Acc) : ask_Waits (s, a) = some (decide (waitsV s a)) := by
  obtain ⟨k, p, w, r, f, v⟩ := a
  unfold ask_Waits
  simp only [etaS, eqc, has_eq, lheld_eq, Option.bind_some, dec]
  by_cases h5 : k = 5
  · rw [if_pos h5]
    by_cases g : hasV s p
    · rw [if_pos g, if_pos g.1, if_pos g.2]; congr 1; rw [decide_eq_decide]
      exact ⟨fun q => ⟨Or.inl h5, g, q⟩, fun q => q.2.2⟩
    · rw [if_neg g, decide_eq_false (fun q : waitsV s (k, p, w, r, f, v) => g q.2.1)]
  · rw [if_neg h5]
    by_cases h7 : k = 7
    · rw [if_pos h7]
      by_cases g : hasV s p
      · rw [if_pos g, if_pos g.1, if_pos g.2]; congr 1; rw [decide_eq_decide]
        exact ⟨fun q => ⟨Or.inr h7, g, q⟩, fun q => q.2.2⟩
      · rw [if_neg g, decide_eq_false (fun q : waitsV s (k, p, w, r, f, v) => g q.2.1)]
    · rw [if_neg h7, decide_eq_false]
      rintro ⟨q, _⟩
      rcases q with q | q
      · exact h5 q
      · exact h7 q

/-! ### The shape -/
def sizeC (c : Cfg) : Int := 2 + c.2.2.2.1 + c.2.2.2.2 + c.1 * 4 + c.2.1 * 5 + c.2.2.1 * 3
def okSh (c : Cfg) (s : Sh) : Prop := ok c ∧ okA s ∧ (s.1.length : Int) = sizeC c ∧ (s.2.1.length : Int) = c.2.2.2.1 + 1 ∧ ((s.2.2.1.1.1.length : Int) = c.1 ∧ (s.2.2.1.2.1.1.length : Int) = c.2.1 ∧ (s.2.2.1.2.2.1.length : Int) = c.2.2.1) ∧ ∀ v ∈ s.2.1, okL v

theorem sidx_loop (l : List Int) (u : Unit) (hn : l.length ≤ 1000000) : ∀ (k i : Nat), i ≤ l.length → l.length < k + i → ∃ r, slices_IndexFunc_shape_Check_1_L6 k l l.length i = some r ∧ decide (0 ≤ r) = decide (∃ m ∈ l.drop i, ¬ okL m)
  | 0, i, hi, hk => by omega
  | k + 1, i, hi, hk => by
    rw [slices_IndexFunc_shape_Check_1_L6]
    have e1 : ∀ m, shape_Check_1 m = some (decide (¬ okL m)) := fun m => by
      unfold shape_Check_1
      simp only [lcheck_eq, Option.bind_some]
      by_cases h : okL m
      · rw [if_pos h, decide_eq_false (fun q => q h)]; rfl
      · rw [if_neg h, decide_eq_true h]; rfl
    by_cases hlt : i < l.length
    · have e0 := drop_cons l i 0 (by omega)
      obtain ⟨r, hr, hd⟩ := sidx_loop l u hn k (i + 1) (by omega) (by omega)
      simp only [show (i : Int) < (l.length : Int) by omega, show (0 : Int) ≤ (i : Int) by omega, decide_true, cond_true, Int.toNat_natCast, wi (show i ≤ 1000000 by omega), e1, Option.bind_some, dec, e0]
      by_cases hp : okL (l.getD i 0)
      · rw [if_neg (fun h => h hp)]
        refine ⟨r, hr, ?_⟩
        rw [hd, decide_eq_decide]
        simp only [List.mem_cons, exists_eq_or_imp, hp, not_true, false_or]
      · rw [if_pos hp]
        refine ⟨_, rfl, ?_⟩
        rw [decide_eq_decide]
        simp only [List.mem_cons, exists_eq_or_imp, hp, not_false_iff, true_or, iff_true]
        omega
    · have : i = l.length := by omega
      subst this
      simp only [Int.lt_irrefl, decide_false, cond_false]
      refine ⟨_, rfl, ?_⟩
      rw [List.drop_of_length_le (by omega)]
      simp
theorem scon_eq (l : List Int) (u : Unit) (hn : l.length ≤ 1000000) : slices_ContainsFunc_shape_Check_1 (l, u) = some (decide (∃ m ∈ l, ¬ okL m)) := by
  obtain ⟨r, hr, hd⟩ := sidx_loop l u hn 2000000 0 (by omega) (by omega)
  have e : slices_IndexFunc_shape_Check_1 (l, u) = some r := hr
  unfold slices_ContainsFunc_shape_Check_1
  simp only [e, Option.bind_some, hd, List.drop_zero]

theorem shape_loop (k : Nat) (N E P : Int) (m l : List Int) (a b c : Pool) (x y : Int) (z : List Int) (z2 : List Int) (hn : l.length ≤ 1000000) (p18 : Int) (p19 : List Int) :
    shape_Check_L10 (k + 4) N E P 0 m l a.1 a.2.1 a.2.2.1 a.2.2.2 b.1 b.2.1 b.2.2.1 b.2.2.2 c.1 c.2.1 c.2.2.1 c.2.2.2 p18 p19 = some (chk (((a.1.length : Int) = N ∧ (b.1.length : Int) = E ∧ (c.1.length : Int) = P) ∧ ∀ v ∈ l, okL v)) := by
  rw [shape_Check_L10, ct (by decide), cf (by decide), cf (by decide), ct (by rfl), cf (by decide), cf (by decide), ct (by rfl), nec]
  by_cases h1 : (a.1.length : Int) = N
  · rw [if_pos h1, w01, shape_Check_L10, ct (by decide), cf (by decide), ct (by rfl), cf (by decide), ct (by rfl), nec]
    by_cases h2 : (b.1.length : Int) = E
    · rw [if_pos h2, w12, shape_Check_L10, ct (by decide), ct (by rfl), ct (by rfl), nec]
      by_cases h3 : (c.1.length : Int) = P
      · rw [if_pos h3, w23, shape_Check_L10, cf (by decide), scon_eq l () hn, Option.bind_some]
        by_cases g : ∃ m ∈ l, ¬ okL m
        · rw [decide_eq_true g, chk_neg]; rfl
          rintro ⟨_, q⟩
          obtain ⟨m, hm, hk⟩ := g
          exact hk (q m hm)
        · rw [decide_eq_false g, chk_pos]; rfl
          exact ⟨⟨h1, h2, h3⟩, fun v hv => Classical.byContradiction fun q => g ⟨v, hv, q⟩⟩
      · rw [if_neg h3, chk_neg (fun q => h3 q.1.2.2)]
    · rw [if_neg h2, chk_neg (fun q => h2 q.1.2.1)]
  · rw [if_neg h1, chk_neg (fun q => h1 q.1.1)]

theorem shape_eq (c : Cfg) (s : Sh) (h : fewS s) : shape_Check (c, s) = some (chk (okSh c s)) := by
  unfold shape_Check shape_Check_K
  simp only [etaS, show ((c.1, c.2.1, c.2.2.1, c.2.2.2.1, c.2.2.2.2) : Cfg) = c from rfl, check_eq, pcheckA_eq s h, size_eq, Option.bind_some, nec]
  by_cases hc : ok c
  · rw [if_pos hc, if_pos rfl]
    have hI : wrap64 (c.2.2.2.1 + 1) = c.2.2.2.1 + 1 := w64 (by have := hc.2.2.2.1; omega) (by have := hc.2.2.2.1; omega)
    by_cases ho : okA s
    · rw [chk_pos ho, if_pos rfl]
      simp only [hI, if_pos hc, show 2 + c.2.2.2.1 + c.2.2.2.2 + c.1 * 4 + c.2.1 * 5 + c.2.2.1 * 3 = sizeC c from rfl]
      by_cases h1 : (s.1.length : Int) = sizeC c
      · rw [if_pos h1]
        by_cases h2 : (s.2.1.length : Int) = c.2.2.2.1 + 1
        · rw [if_pos h2]
          have := shape_loop 1999996 c.1 c.2.1 c.2.2.1 s.1 s.2.1 s.2.2.1.1 s.2.2.1.2.1 s.2.2.1.2.2 0 0 [] [] (by have := h.2.2.2; omega) s.2.2.2.1 s.2.2.2.2
          rw [show (1999996 + 4 : Nat) = 2000000 from rfl] at this
          rw [this]
          congr 1
          exact chk_congr ⟨fun q => ⟨hc, ho, h1, h2, q⟩, fun q => q.2.2.2.2⟩
        · rw [if_neg h2, chk_neg (fun q => h2 q.2.2.2.1)]
      · rw [if_neg h1, chk_neg (fun q => h1 q.2.2.1)]
    · rw [chk_neg ho, if_neg (by decide), chk_neg (fun q => ho q.2.1)]
  · rw [if_neg hc, if_neg (by decide), chk_neg (fun q => hc q.1)]

/-! ### Words -/
def loadV (m : List Int) (a : Int) : Int × Int := if 0 ≤ a ∧ a < (m.length : Int) then (m.getD a.toNat 0, 0) else (0, 1)
def storeV (m : List Int) (a v : Int) : List Int × Int := if 0 ≤ a ∧ a < (m.length : Int) then (m.set a.toNat v, 0) else ([], 1)
theorem in_eq (m : List Int) (a : Int) : mem_in (m, a) = some (decide (0 ≤ a ∧ a < (m.length : Int))) := by
  unfold mem_in
  simp only [dec]
  by_cases h : 0 ≤ a
  · rw [if_pos h]; congr 1; rw [decide_eq_decide]; exact ⟨fun q => ⟨h, q⟩, fun q => q.2⟩
  · rw [if_neg h, decide_eq_false (fun q : 0 ≤ a ∧ a < (m.length : Int) => h q.1)]
theorem load_eq (m : List Int) (a : Int) : mem_Load (m, a) = some (loadV m a) := by
  unfold mem_Load loadV
  simp only [in_eq, Option.bind_some]
  by_cases h : 0 ≤ a ∧ a < (m.length : Int)
  · rw [decide_eq_true h, if_pos h, Bool.not_true, cond_false, ct h.1, ct h.2]
  · rw [decide_eq_false h, if_neg h, Bool.not_false, cond_true]
theorem store_eq (m : List Int) (a v : Int) (hm : m.length ≤ 1000000) : mem_Store (m, a, v) = some (storeV m a v) := by
  unfold mem_Store storeV
  simp only [in_eq, Option.bind_some, clone_eq m hm]
  by_cases h : 0 ≤ a ∧ a < (m.length : Int)
  · rw [decide_eq_true h, if_pos h, Bool.not_true, cond_false, ct h.1, ct h.2]
  · rw [decide_eq_false h, if_neg h, Bool.not_false, cond_true]
def whereC (c : Cfg) (m : List Int) (w r f : Int) : Int × Int := if (unpackV r).2.2 = 0 then (if (m.length : Int) = (if ok c then sizeC c else 0) then fieldV c w (unpackV r).1 f else (0, 1)) else (0, 1)
theorem cwhere_eq (c : Cfg) (m : List Int) (w r f : Int) (hr : -9223372036854775808 ≤ r ∧ r ≤ 9223372036854775807) : chain_where (c, m, w, r, f) = some (whereC c m w r f) := by
  unfold chain_where whereC
  simp only [show ((c.1, c.2.1, c.2.2.1, c.2.2.2.1, c.2.2.2.2) : Cfg) = c from rfl, unpack_eq r hr, size_eq, field_eq, Option.bind_some, nec]
  by_cases e : (unpackV r).2.2 = 0
  · rw [if_pos e, if_pos e]
    have : (if ok c then 2 + c.2.2.2.1 + c.2.2.2.2 + c.1 * 4 + c.2.1 * 5 + c.2.2.1 * 3 else 0) = (if ok c then sizeC c else 0) := rfl
    rw [this]
    by_cases g : (m.length : Int) = (if ok c then sizeC c else 0)
    · rw [if_pos g, if_pos g]
    · rw [if_neg g, if_neg g]
  · rw [if_neg e, if_neg e]
def fieldC (c : Cfg) (m : List Int) (w r f : Int) : Int × Int := if (whereC c m w r f).2 = 0 then loadV m (whereC c m w r f).1 else (0, (whereC c m w r f).2)
def putC (c : Cfg) (m : List Int) (w r f v : Int) : List Int × Int := if (whereC c m w r f).2 = 0 then storeV m (whereC c m w r f).1 v else ([], (whereC c m w r f).2)
theorem cfield_eq (c : Cfg) (m : List Int) (w r f : Int) (hr : -9223372036854775808 ≤ r ∧ r ≤ 9223372036854775807) : chain_Field (c, m, w, r, f) = some (fieldC c m w r f) := by
  unfold chain_Field fieldC
  simp only [show ((c.1, c.2.1, c.2.2.1, c.2.2.2.1, c.2.2.2.2) : Cfg) = c from rfl, cwhere_eq c m w r f hr, load_eq, Option.bind_some, nec]
  by_cases e : (whereC c m w r f).2 = 0
  · rw [if_pos e, if_pos e]
  · rw [if_neg e, if_neg e]
theorem cput_eq (c : Cfg) (m : List Int) (w r f v : Int) (hr : -9223372036854775808 ≤ r ∧ r ≤ 9223372036854775807) (hm : m.length ≤ 1000000) : chain_Put (c, m, w, r, f, v) = some (putC c m w r f v) := by
  unfold chain_Put putC
  simp only [show ((c.1, c.2.1, c.2.2.1, c.2.2.2.1, c.2.2.2.2) : Cfg) = c from rfl, cwhere_eq c m w r f hr, store_eq m _ _ hm, Option.bind_some, nec]
  by_cases e : (whereC c m w r f).2 = 0
  · rw [if_pos e, if_pos e]
  · rw [if_neg e, if_neg e]
def wordsV (c : Cfg) (s : Sh) (a : Acc) : Sh × Int × Int :=
  if a.1 = 3 then (if a.2.2.1 = 0 then (s, loadV s.1 a.2.1) else (s, fieldC c s.1 a.2.2.1 a.2.2.2.1 a.2.2.2.2.1))
  else (if a.2.2.1 = 0 then (((storeV s.1 a.2.1 a.2.2.2.2.2).1, s.2), 0, (storeV s.1 a.2.1 a.2.2.2.2.2).2) else (((putC c s.1 a.2.2.1 a.2.2.2.1 a.2.2.2.2.1 a.2.2.2.2.2).1, s.2), 0, (putC c s.1 a.2.2.1 a.2.2.2.1 a.2.2.2.2.1 a.2.2.2.2.2).2))
theorem words_eq (c : Cfg) (s : Sh) (a : Acc) (hr : -9223372036854775808 ≤ a.2.2.2.1 ∧ a.2.2.2.1 ≤ 9223372036854775807) (hs : fewS s) : ask_words (c, s, a) = some (wordsV c s a) := by
  obtain ⟨k, p, w, r, f, v⟩ := a
  simp only at hr
  have hm : s.1.length ≤ 1000000 := by have := hs.2.2.1; omega
  unfold ask_words wordsV
  simp only [etaS, show ((c.1, c.2.1, c.2.2.1, c.2.2.2.1, c.2.2.2.2) : Cfg) = c from rfl, cfield_eq c s.1 w r f hr, cput_eq c s.1 w r f v hr hm, load_eq, store_eq s.1 p v hm, Option.bind_some, nec, eqc]
  by_cases h3 : k = 3
  · rw [if_pos h3]
    by_cases hw : w = 0
    · rw [if_pos hw, if_pos h3, if_pos h3, if_pos hw]
    · rw [if_neg hw, if_pos h3, if_neg hw]
  · rw [if_neg h3, if_neg h3, if_neg h3]
    by_cases hw : w = 0
    · rw [if_pos hw, if_pos hw]
    · rw [if_neg hw, if_neg hw]

/-! ### Touches, latches, records -/
abbrev Touch := Int × Int × Int × Int × Int × Int × Int × Bool
noncomputable def touchV (s : Sh) (t : Int) (a : Acc) : List Touch := [(t, a.2.2.1, (unpackV a.2.2.2.1).1, a.2.2.2.2.1, (unpackV a.2.2.2.1).2.1, (genA s a.2.2.1 a.2.2.2.1).1, (genA s a.2.2.1 a.2.2.2.1).2.1, a.1 == 4)]
theorem touch_eq (s : Sh) (t : Int) (a : Acc) (hr : -9223372036854775808 ≤ a.2.2.2.1 ∧ a.2.2.2.1 ≤ 9223372036854775807) (hs : fewS s) : ask_touch (s, t, a) = some (touchV s t a) := by
  unfold ask_touch touchV
  simp only [etaS, unpack_eq _ hr, pgenA_eq s _ _ hs hr, Option.bind_some]

def latchesV (s : Sh) (a : Acc) : Sh × Int × Int :=
  if hasV s a.2.1 then
    (if a.1 = 5 then (if (tryV (s.2.1.getD a.2.1.toNat 0)).2 = true then ((s.1, s.2.1.set a.2.1.toNat (tryV (s.2.1.getD a.2.1.toNat 0)).1, s.2.2), 0, 0) else (s, 0, 1))
     else if a.1 = 6 then (if (freeV (s.2.1.getD a.2.1.toNat 0)).2 = 0 then ((s.1, s.2.1.set a.2.1.toNat (freeV (s.2.1.getD a.2.1.toNat 0)).1, s.2.2), 0, 0) else (s, 0, (freeV (s.2.1.getD a.2.1.toNat 0)).2))
     else (s, s.2.1.getD a.2.1.toNat 0, 0))
  else (s, 0, 1)
theorem awith_eq (s : Sh) (p v : Int) (hs : fewS s) (g : hasV s p) : ask_with (s, p, v) = some (s.1, s.2.1.set p.toNat v, s.2.2) := by
  unfold ask_with
  simp only [clone_eq s.2.1 (show s.2.1.length ≤ 1000000 by have := hs.2.2.2; omega), Option.bind_some]
  rw [ct g.1, ct g.2]
theorem latches_eq (s : Sh) (a : Acc) (hs : fewS s) : ask_latches (s, a) = some (latchesV s a) := by
  obtain ⟨k, p, w, r, f, v⟩ := a
  unfold ask_latches latchesV
  simp only [etaS, has_eq, ltry_eq, lfree_eq, Option.bind_some, nec, eqc]
  by_cases g : hasV s p
  · rw [decide_eq_true g, Bool.not_true, cond_false, ct g.1, ct g.2, if_pos g]
    simp only [awith_eq s p _ hs g, Option.bind_some]
    by_cases h5 : k = 5
    · rw [if_pos h5, if_pos h5]
      by_cases e : (tryV (s.2.1.getD p.toNat 0)).2 = true
      · rw [if_pos e, e]; rfl
      · have e' : (tryV (s.2.1.getD p.toNat 0)).2 = false := by simpa using e
        rw [if_neg e, e']; rfl
    · rw [if_neg h5, if_neg h5]
      by_cases h6 : k = 6
      · rw [if_pos h6, if_pos h6]
        by_cases e : (freeV (s.2.1.getD p.toNat 0)).2 = 0
        · rw [if_pos e, if_pos e]
        · rw [if_neg e, if_neg e]
      · rw [if_neg h6, if_neg h6]
  · rw [decide_eq_false g, Bool.not_false, cond_true, if_neg g]

noncomputable def recordsV (s : Sh) (t : Int) (a : Acc) : Sh × Int × Int :=
  if a.1 = 1 then ((pinA s t).1, 0, (pinA s t).2)
  else if a.1 = 2 then ((endA s t).1, 0, (endA s t).2)
  else if a.1 = 9 then ((retA s a.2.2.1 a.2.2.2.1).1, 0, (retA s a.2.2.1 a.2.2.2.1).2)
  else if a.1 = 8 then (if (takeA s a.2.2.1).2.2 = 3 then (s, 0, 0) else takeA s a.2.2.1)
  else (s, 0, 0)
theorem records_eq (s : Sh) (t : Int) (a : Acc) (hr : -9223372036854775808 ≤ a.2.2.2.1 ∧ a.2.2.2.1 ≤ 9223372036854775807) (hs : fewS s) : ask_records (s, t, a) = some (recordsV s t a) := by
  obtain ⟨k, p, w, r, f, v⟩ := a
  simp only at hr
  unfold ask_records recordsV
  simp only [etaS, ppinA_eq s t hs, pendA_eq s t hs, pretA_eq s w r hs hr, ptakeA_eq s w hs, Option.bind_some, eqc]
  by_cases h1 : k = 1
  · rw [if_pos h1, if_pos h1]
  · rw [if_neg h1, if_neg h1]
    by_cases h2 : k = 2
    · rw [if_pos h2, if_pos h2]
    · rw [if_neg h2, if_neg h2]
      by_cases h9 : k = 9
      · rw [if_pos h9, if_pos h9]
      · rw [if_neg h9, if_neg h9]
        by_cases h8 : k = 8
        · rw [if_pos h8, if_pos h8]
          by_cases e : (takeA s w).2.2 = 3
          · rw [if_pos e, if_pos e]
          · rw [if_neg e, if_neg e]
        · rw [if_neg h8, if_neg h8]

/-! ### Done -/
abbrev Res := Sh × Int × List Touch × Int
def noR (e : Int) : Res := (noS, 0, [], e)
def endR (r : Sh × Int × Int) (l : List Touch) : Res := if r.2.2 = 0 then (r.1, r.2.1, l, 0) else noR r.2.2
open Classical in
noncomputable def doV (c : Cfg) (s : Sh) (t : Int) (a : Acc) : Res :=
  if okSh c s then
    (if waitsV s a then noR 2
     else if a.1 = 3 ∨ a.1 = 4 then endR (wordsV c s a) (if a.2.2.1 = 0 then [] else touchV s t a)
     else if a.1 = 5 ∨ a.1 = 6 ∨ a.1 = 7 then endR (latchesV s a) []
     else if a.1 = 1 ∨ a.1 = 2 ∨ a.1 = 8 ∨ a.1 = 9 then endR (recordsV s t a) []
     else noR 1)
  else noR 1

theorem do_eq (c : Cfg) (s : Sh) (t : Int) (a : Acc) (hr : -9223372036854775808 ≤ a.2.2.2.1 ∧ a.2.2.2.1 ≤ 9223372036854775807) (hs : fewS s) : ask_Do (c, s, t, a) = some (doV c s t a) := by
  have hq := words_eq c s a hr hs
  have hl := latches_eq s a hs
  have hc := records_eq s t a hr hs
  have ht := touch_eq s t a hr hs
  have hwt := waits_eq s a
  obtain ⟨k, p, w, r, f, v⟩ := a
  unfold ask_Do
  simp only [etaS, show ((c.1, c.2.1, c.2.2.1, c.2.2.2.1, c.2.2.2.2) : Cfg) = c from rfl, shape_eq c s hs, hwt, hq, hl, hc, ht, Option.bind_some, nec, eqc]
  have fin : ∀ (x : Sh × Int × Int) (l : List Touch), (if x.2.2 = 0 then (some (x.1, x.2.1, l, 0) : Option Res) else some (([], [], (([], [], [], []), ([], [], [], []), [], [], [], []), 0, []), 0, [], x.2.2)) = some (endR x l) := fun x l => by
    unfold endR
    by_cases e : x.2.2 = 0
    · rw [if_pos e, if_pos e]
    · rw [if_neg e, if_neg e]; rfl
  unfold doV
  by_cases ho : okSh c s
  · rw [chk_pos ho, if_pos rfl, if_pos ho]
    by_cases hw : waitsV s (k, p, w, r, f, v)
    · rw [decide_eq_true hw, if_pos hw]; rfl
    · rw [decide_eq_false hw, if_neg hw, cond_false]
      simp only [fin]
      by_cases h3 : k = 3
      · rw [if_pos h3, if_pos (Or.inl h3)]
        by_cases e : (wordsV c s (k, p, w, r, f, v)).2.2 = 0
        · rw [if_pos e]
          by_cases z : w = 0
          · rw [if_pos z, if_pos z]
          · rw [if_neg z, if_neg z]
        · rw [if_neg e]
          unfold endR; rw [if_neg e, if_neg e]
      rw [if_neg h3]
      by_cases h4 : k = 4
      · rw [if_pos h4, if_pos (Or.inr h4)]
        by_cases e : (wordsV c s (k, p, w, r, f, v)).2.2 = 0
        · rw [if_pos e]
          by_cases z : w = 0
          · rw [if_pos z, if_pos z]
          · rw [if_neg z, if_neg z]
        · rw [if_neg e]
          unfold endR; rw [if_neg e, if_neg e]
      rw [if_neg h4, if_neg (show ¬ (k = 3 ∨ k = 4) by omega)]
      by_cases h5 : k = 5
      · rw [if_pos h5, if_pos (Or.inl h5)]
      rw [if_neg h5]
      by_cases h6 : k = 6
      · rw [if_pos h6, if_pos (Or.inr (Or.inl h6))]
      rw [if_neg h6]
      by_cases h7 : k = 7
      · rw [if_pos h7, if_pos (Or.inr (Or.inr h7))]
      rw [if_neg h7, if_neg (show ¬ (k = 5 ∨ k = 6 ∨ k = 7) by omega)]
      by_cases h1 : k = 1
      · rw [if_pos h1, if_pos (by omega)]
      rw [if_neg h1]
      by_cases h2 : k = 2
      · rw [if_pos h2, if_pos (by omega)]
      rw [if_neg h2]
      by_cases h8 : k = 8
      · rw [if_pos h8, if_pos (by omega)]
      rw [if_neg h8]
      by_cases h9 : k = 9
      · rw [if_pos h9, if_pos (by omega)]
      rw [if_neg h9, if_neg (by omega)]; rfl
  · rw [chk_neg ho, if_neg (by decide), if_neg ho]; rfl
end Go.Proofs.Ytcoiboghdmmdcad.Pure
