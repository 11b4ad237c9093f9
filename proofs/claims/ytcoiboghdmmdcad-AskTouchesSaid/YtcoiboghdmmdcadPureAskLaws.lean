/- What is shared in the beginning; what was stored is loaded; who latches keeps others waiting; no condition. -/
import Derived.Test.YtcoiboghdmmdcadPureAsk
set_option linter.unusedVariables false
set_option linter.unusedSimpArgs false
namespace Go.Proofs.Ytcoiboghdmmdcad.Pure
open Go Go.RowKit Go.Proofs.YtcoiboghdmmdcadFn Go.Proofs.YtcoiboghdmmdcadPx

theorem live16_eq : tendrillaw16_live () = some true := by kernel_rfl
theorem etaC (c : Cfg) : ((c.1, c.2.1, c.2.2.1, c.2.2.2.1, c.2.2.2.2) : Cfg) = c := rfl

theorem do_no {c : Cfg} {s : Sh} {t : Int} {a : Acc} (h : ¬ okSh c s) : doV c s t a = noR 1 := if_neg h
theorem do_wait {c : Cfg} {s : Sh} {t : Int} {a : Acc} (h : okSh c s) (w : waitsV s a) : doV c s t a = noR 2 := by
  unfold doV; rw [if_pos h, if_pos w]
theorem nowait {s : Sh} {a : Acc} (h : ¬ (a.1 = 5 ∨ a.1 = 7)) : ¬ waitsV s a := fun q => h q.1
theorem do_words {c : Cfg} {s : Sh} {t : Int} {a : Acc} (h : okSh c s) (k : a.1 = 3 ∨ a.1 = 4) : doV c s t a = endR (wordsV c s a) (if a.2.2.1 = 0 then [] else touchV s t a) := by
  unfold doV; rw [if_pos h, if_neg (nowait (by omega)), if_pos k]
theorem do_latches {c : Cfg} {s : Sh} {t : Int} {a : Acc} (h : okSh c s) (w : ¬ waitsV s a) (k : a.1 = 5 ∨ a.1 = 6 ∨ a.1 = 7) : doV c s t a = endR (latchesV s a) [] := by
  unfold doV; rw [if_pos h, if_neg w, if_neg (by omega), if_pos k]
theorem do_records {c : Cfg} {s : Sh} {t : Int} {a : Acc} (h : okSh c s) (k : a.1 = 1 ∨ a.1 = 2 ∨ a.1 = 8 ∨ a.1 = 9) : doV c s t a = endR (recordsV s t a) [] := by
  unfold doV; rw [if_pos h, if_neg (nowait (by omega)), if_neg (by omega), if_neg (by omega), if_pos k]
theorem endR_ok {r : Sh × Int × Int} {l : List Touch} (h : r.2.2 = 0) : endR r l = (r.1, r.2.1, l, 0) := if_pos h
theorem endR_err {r : Sh × Int × Int} {l : List Touch} (h : r.2.2 ≠ 0) : endR r l = noR r.2.2 := if_neg h

/-! ### AskBegins -/
theorem plnew (c : Cfg) (h : ok c) : ∃ m, place_New c = some (m, 0) ∧ tendrilref03_New c = some (m, 0) ∧ m.length ≤ 5000 := by
  obtain ⟨N, E, P, I, J⟩ := c
  unfold place_New tendrilref03_New
  simp only [check_eq, rcheck_eq, rsize_eq, size_eq, Option.bind_some, nec, dec]
  have h' := h
  simp only [ok] at h'
  have hz : 0 ≤ 2 + I + J + N * 4 + E * 5 + P * 3 ∧ 2 + I + J + N * 4 + E * 5 + P * 3 ≤ 4096 := by omega
  obtain ⟨q, hq⟩ := Int.eq_ofNat_of_zero_le hz.1
  have h1 : 0 < q := by omega
  have h2 : 1 < q := by omega
  have h3 : q ≤ 4096 := by omega
  have h4 : q ≤ 1000000 := by omega
  have h5 : (q : Int) ≤ 4096 := by omega
  have h6 : (q : Int) ≤ 1000000 := by omega
  have h7 : (0 : Int) < q := by omega
  have h8 : (1 : Int) < q := by omega
  have h9 : q ≤ 5000 := by omega
  simp only [h, if_true, mnew_eq, hq, Option.bind_some]
  simp [h1, h2, h3, h4, h5, h6, h7, h8, h9]
theorem newA_zero {c : Cfg} {n : Int} (h : (newA c n).2 = 0) : ok c := by
  unfold newA at h
  by_cases g : ok c ∧ 1 ≤ n ∧ n ≤ 64
  · exact g.1
  · rw [if_neg g] at h; exact absurd h (by decide)
theorem asknew (c : Cfg) (n : Int) : ∃ r, ask_New (c, n) = some r ∧ tendrilref15_New (c, n) = some r ∧ fewS r.1 := by
  unfold ask_New tendrilref15_New
  simp only [etaC, etaS, pnewA_eq, rnewA_eq, Option.bind_some, nec]
  by_cases h : (newA c n).2 = 0
  · have hc := newA_zero h
    obtain ⟨m, h1, h2, h3⟩ := plnew c hc
    have hI := hc.2.2.2.1
    have e : wrap64 (c.2.2.2.1 + 1) = c.2.2.2.1 + 1 := w64 (by omega) (by omega)
    rw [if_pos h, if_pos h, h1, h2]
    simp only [Option.bind_some, e]
    rw [ct (by omega), ct (by omega), if_pos trivial]
    refine ⟨_, rfl, rfl, ?_⟩
    have hf := few_newA c n
    exact ⟨hf.1, hf.2.1, h3, by simp only [List.length_replicate]; omega⟩
  · rw [if_neg h, if_neg h]
    exact ⟨_, rfl, rfl, few_noS⟩
theorem rheld_eq (v : Int) : tendrilref08_Held v = some (decide (heldV v)) := by
  have hc : tendrilref08_Check v = some (if okL v then 0 else 1) := by
    unfold tendrilref08_Check
    simp only [dec]
    by_cases a : v < 0
    · rw [if_pos a, if_neg (fun h : okL v => absurd h.1 (by omega))]
    · rw [if_neg a]
      by_cases b : 4611686018427387904 < v
      · rw [if_pos b, if_neg (fun h : okL v => absurd h.2 (by omega))]
      · rw [if_neg b, if_pos (show okL v from ⟨by omega, by omega⟩)]
  unfold tendrilref08_Held
  simp only [hc, Option.bind_some, eqc]
  by_cases h : okL v
  · rw [if_pos h, if_pos rfl, (tdm v 2 h.1).2, eq_dec]
    congr 1
    rw [decide_eq_decide]
    exact ⟨fun q => ⟨h, q⟩, fun q => q.2⟩
  · rw [if_neg h, if_neg (by decide), decide_eq_false (fun q : heldV v => h q.1)]
theorem rwaits_eq (s : Sh) (a : Acc) : tendrilref16_Waits (s, a) = some (decide (waitsV s a)) := by
  obtain ⟨k, p, w, r, f, v⟩ := a
  unfold tendrilref16_Waits
  simp only [eqc, rheld_eq, Option.bind_some, dec]
  have go : ∀ h : k = 5 ∨ k = 7, (if 0 ≤ p then if p < (s.2.1.length : Int) then if 0 ≤ p then if p < (s.2.1.length : Int) then some (decide (heldV (s.2.1.getD p.toNat 0))) else none else none else some false else some false) = some (decide (waitsV s (k, p, w, r, f, v))) := fun h => by
    by_cases a : 0 ≤ p
    · rw [if_pos a]
      by_cases b : p < (s.2.1.length : Int)
      · rw [if_pos b, if_pos a, if_pos b]; congr 1; rw [decide_eq_decide]
        exact ⟨fun q => ⟨h, ⟨a, b⟩, q⟩, fun q => q.2.2⟩
      · rw [if_neg b, decide_eq_false (fun q : waitsV s (k, p, w, r, f, v) => b q.2.1.2)]
    · rw [if_neg a, decide_eq_false (fun q : waitsV s (k, p, w, r, f, v) => a q.2.1.1)]
  by_cases h5 : k = 5
  · rw [if_pos h5]; exact go (Or.inl h5)
  · rw [if_neg h5]
    by_cases h7 : k = 7
    · rw [if_pos h7]; exact go (Or.inr h7)
    · rw [if_neg h7, decide_eq_false]
      rintro ⟨q, _⟩
      rcases q with q | q
      · exact h5 q
      · exact h7 q

theorem AskBegins (x : Cfg × Int × Sh × Acc) (_ : InRT [⟨true, (.pair .int (.pair .int (.pair .int (.pair .int .int))))⟩, ⟨false, .int⟩, ⟨true, (.pair (.sl .int) (.pair (.sl .int) (.pair (.pair (.pair (.sl .int) (.pair (.sl .int) (.pair (.sl .int) (.sl .int)))) (.pair (.pair (.sl .int) (.pair (.sl .int) (.pair (.sl .int) (.sl .int)))) (.pair (.sl .int) (.pair (.sl .int) (.pair (.sl .int) (.sl .int)))))) (.pair .int (.sl .int)))))⟩, ⟨true, (.pair .int (.pair .int (.pair .int (.pair .int (.pair .int .int)))))⟩] x) : tendrillaw16_AskBegins x = some true := by
  obtain ⟨c, n, s, a⟩ := x
  unfold tendrillaw16_AskBegins
  simp only [live16_eq, Option.bind_some, Bool.not_true, cond_false, etaS, fewA_eq]
  by_cases hf : fewB s
  · obtain ⟨r, h1, h2, h3⟩ := asknew c n
    have ea : ((a.1, a.2.1, a.2.2.1, a.2.2.2.1, a.2.2.2.2.1, a.2.2.2.2.2) : Acc) = a := rfl
    simp only [hf, decide_true, Bool.not_true, cond_false, etaC, ea, h1, h2, Option.bind_some, etaS, same_self h3, cond_true, beq_self_eq_true, waits_eq, rwaits_eq]
  · simp only [hf, decide_false, Bool.not_false, cond_true]

/-! ### AskBack -/
theorem okSh_set {c : Cfg} {s : Sh} (i : Nat) (v : Int) (h : okSh c s) : okSh c (s.1.set i v, s.2) := by
  obtain ⟨h1, h2, h3, h4, h5, h6⟩ := h
  exact ⟨h1, h2, by simpa using h3, h4, h5, h6⟩
theorem few_set {s : Sh} (i : Nat) (v : Int) (h : fewS s) : fewS (s.1.set i v, s.2) := by
  obtain ⟨h1, h2, h3, h4⟩ := h
  exact ⟨h1, h2, by simpa using h3, h4⟩
theorem load_set (m : List Int) (a v : Int) (h : 0 ≤ a ∧ a < (m.length : Int)) : loadV (m.set a.toNat v) a = (v, 0) := by
  unfold loadV
  rw [if_pos (by simpa using h), getD_set m a.toNat a.toNat v 0 (by omega), if_pos rfl]
theorem whereC_len (c : Cfg) (m m' : List Int) (w r f : Int) (h : m'.length = m.length) : whereC c m' w r f = whereC c m w r f := by
  unfold whereC; rw [h]

theorem AskBack (x : Cfg × Sh × Int × Acc) (hx : InRT [⟨true, (.pair .int (.pair .int (.pair .int (.pair .int .int))))⟩, ⟨true, (.pair (.sl .int) (.pair (.sl .int) (.pair (.pair (.pair (.sl .int) (.pair (.sl .int) (.pair (.sl .int) (.sl .int)))) (.pair (.pair (.sl .int) (.pair (.sl .int) (.pair (.sl .int) (.sl .int)))) (.pair (.sl .int) (.pair (.sl .int) (.pair (.sl .int) (.sl .int)))))) (.pair .int (.sl .int)))))⟩, ⟨false, .int⟩, ⟨true, (.pair .int (.pair .int (.pair .int (.pair .int (.pair .int .int)))))⟩] x) : tendrillaw16_AskBack x = some true := by
  obtain ⟨c, s, t, k, p, w, r, f, v⟩ := x
  have hr : -9223372036854775808 ≤ r ∧ r ≤ 9223372036854775807 := hx.2.2.2.2.2.2.1
  unfold tendrillaw16_AskBack
  simp only [live16_eq, Option.bind_some, Bool.not_true, cond_false, etaS, fewA_eq]
  by_cases hf : fewB s
  · have hs := hf.fewS
    simp only [hf, decide_true, Bool.not_true, cond_false, etaC, do_eq c s t (4, p, w, r, f, v) hr hs, do_eq c s t (3, p, w, r, f, v) hr hs, Option.bind_some, nec, eqc]
    by_cases ho : okSh c s
    · rw [do_words (a := (4, p, w, r, f, v)) ho (Or.inr rfl), do_words (a := (3, p, w, r, f, v)) ho (Or.inl rfl)]
      have fin : ∀ (i : Nat) (l l' : List Touch), doV c (s.1.set i v, s.2) t (3, p, w, r, f, v) = ((s.1.set i v, s.2), v, l', 0) →
          (l.length = l'.length ∧ (((l.length : Int) == 1) == (w != 0)) = true ∧ (l.length ≠ 0 → (0 : Int) < (l.length : Int) ∧ ((l.getD 0 (0, 0, 0, 0, 0, 0, 0, false)).2.2.2.2.2.2.2 = true ∧ (l'.getD 0 (0, 0, 0, 0, 0, 0, 0, false)).2.2.2.2.2.2.2 = false ∧ (l.getD 0 (0, 0, 0, 0, 0, 0, 0, false)).2.2.1 = (l'.getD 0 (0, 0, 0, 0, 0, 0, 0, false)).2.2.1))) →
          ((ask_Do (c, (s.1.set i v, s.2), t, 3, p, w, r, f, v)).bind fun r4 =>
            if r4.2.2.2 = 0 then if r4.2.1 = v then (tendrilref07_Same ((s.1.set i v, s.2), r4.1)).bind fun r5 => bif !r5 then some false else
              if (l.length : Int) = (r4.2.2.1.length : Int) then bif ((l.length : Int) == 1) == (w != 0) then if (l.length : Int) = 0 then some true else
                bif decide ((0 : Int) < (l.length : Int)) then bif (l.getD (Int.toNat 0) (0, 0, 0, 0, 0, 0, 0, false)).2.2.2.2.2.2.2 then bif decide ((0 : Int) < (r4.2.2.1.length : Int)) then
                  bif !(r4.2.2.1.getD (Int.toNat 0) (0, 0, 0, 0, 0, 0, 0, false)).2.2.2.2.2.2.2 then bif decide ((0 : Int) < (l.length : Int)) then bif decide ((0 : Int) < (r4.2.2.1.length : Int)) then
                    some ((l.getD (Int.toNat 0) (0, 0, 0, 0, 0, 0, 0, false)).2.2.1 == (r4.2.2.1.getD (Int.toNat 0) (0, 0, 0, 0, 0, 0, 0, false)).2.2.1) else none else none else some false else none else some false else none
                else some false else some false else some false else some false : Option Bool) = some true := fun i l l' hd ⟨q1, q2, q3⟩ => by
        have hs' := few_set i v hs
        rw [do_eq c (s.1.set i v, s.2) t (3, p, w, r, f, v) hr hs', hd]
        simp only [Option.bind_some]
        rw [if_pos trivial, if_pos trivial, same_self hs']
        simp only [Option.bind_some, Bool.not_true, cond_false]
        rw [if_pos (by omega), q2, cond_true]
        by_cases z : l.length = 0
        · rw [if_pos (by omega)]
        · obtain ⟨a1, a2, a3, a4⟩ := q3 z
          rw [if_neg (by omega), ct a1, show Int.toNat 0 = 0 from rfl, a2, cond_true, ct (by omega), a3, Bool.not_false, cond_true, ct a1, ct (by omega), a4, beq_self_eq_true]
      have hs4 : ∀ (i : Nat), okSh c (s.1.set i v, s.2) := fun i => okSh_set i v ho
      by_cases hw : w = 0
      · subst hw
        have e4 : wordsV c s (4, p, 0, r, f, v) = (((storeV s.1 p v).1, s.2), 0, (storeV s.1 p v).2) := rfl
        have e3 : wordsV c s (3, p, 0, r, f, v) = (s, loadV s.1 p) := rfl
        rw [e4, e3, if_pos rfl, if_pos rfl]
        by_cases g : 0 ≤ p ∧ p < (s.1.length : Int)
        · have g1 : storeV s.1 p v = (s.1.set p.toNat v, 0) := if_pos g
          rw [g1, endR_ok rfl, if_pos rfl]
          refine fin p.toNat [] [] ?_ ⟨rfl, rfl, fun z => absurd rfl z⟩
          rw [do_words (hs4 _) (Or.inl rfl)]
          have e5 : wordsV c (s.1.set p.toNat v, s.2) (3, p, 0, r, f, v) = ((s.1.set p.toNat v, s.2), loadV (s.1.set p.toNat v) p) := rfl
          rw [e5, load_set _ _ _ g]; rfl
        · have g1 : storeV s.1 p v = ([], 1) := if_neg g
          have g2 : loadV s.1 p = (0, 1) := if_neg g
          rw [g1, g2]; rfl
      · have e4 : wordsV c s (4, p, w, r, f, v) = (((putC c s.1 w r f v).1, s.2), 0, (putC c s.1 w r f v).2) := by unfold wordsV; rw [if_neg (show ¬ (4 : Int) = 3 by decide), if_neg hw]
        have e3 : wordsV c s (3, p, w, r, f, v) = (s, fieldC c s.1 w r f) := by unfold wordsV; rw [if_pos rfl, if_neg hw]
        rw [e4, e3, if_neg hw, if_neg hw]
        by_cases hq : (whereC c s.1 w r f).2 = 0
        · have hp : putC c s.1 w r f v = storeV s.1 (whereC c s.1 w r f).1 v := if_pos hq
          have hg : fieldC c s.1 w r f = loadV s.1 (whereC c s.1 w r f).1 := if_pos hq
          by_cases g : 0 ≤ (whereC c s.1 w r f).1 ∧ (whereC c s.1 w r f).1 < (s.1.length : Int)
          · have g1 : storeV s.1 (whereC c s.1 w r f).1 v = (s.1.set (whereC c s.1 w r f).1.toNat v, 0) := if_pos g
            rw [hp, g1, endR_ok rfl, if_pos rfl]
            refine fin (whereC c s.1 w r f).1.toNat (touchV s t (4, p, w, r, f, v)) (touchV (s.1.set (whereC c s.1 w r f).1.toNat v, s.2) t (3, p, w, r, f, v)) ?_ ⟨rfl, ?_, fun _ => ⟨(by decide : (0 : Int) < ((1 : Nat) : Int)), rfl, rfl, rfl⟩⟩
            · rw [do_words (hs4 _) (Or.inl rfl)]
              have e5 : wordsV c (s.1.set (whereC c s.1 w r f).1.toNat v, s.2) (3, p, w, r, f, v) = ((s.1.set (whereC c s.1 w r f).1.toNat v, s.2), fieldC c (s.1.set (whereC c s.1 w r f).1.toNat v) w r f) := by unfold wordsV; rw [if_pos rfl, if_neg hw]
              have e6 : whereC c (s.1.set (whereC c s.1 w r f).1.toNat v) w r f = whereC c s.1 w r f := whereC_len _ _ _ _ _ _ (by simp)
              have e7 : fieldC c (s.1.set (whereC c s.1 w r f).1.toNat v) w r f = (v, 0) := by
                unfold fieldC; rw [e6, if_pos hq, load_set _ _ _ g]
              rw [e5, e7, if_neg hw]; rfl
            · have : (w != 0) = true := by rw [ne_dec, decide_eq_false hw]; rfl
              rw [this]; rfl
          · have g1 : storeV s.1 (whereC c s.1 w r f).1 v = ([], 1) := if_neg g
            have g2 : loadV s.1 (whereC c s.1 w r f).1 = (0, 1) := if_neg g
            rw [hp, hg, g1, g2]; rfl
        · have hp : putC c s.1 w r f v = ([], (whereC c s.1 w r f).2) := if_neg hq
          have hg : fieldC c s.1 w r f = (0, (whereC c s.1 w r f).2) := if_neg hq
          rw [hp, hg, endR_err hq, endR_err hq]
          simp only [noR]
          rw [if_neg hq]
          first | (rw [if_pos rfl]; rfl) | (rw [if_pos trivial]; rfl) | rfl
    · rw [do_no ho, do_no ho]; rfl
  · simp only [hf, decide_false, Bool.not_false, cond_true]

/-! ### AskLatch -/
theorem okSh_lat {c : Cfg} {s : Sh} (i : Nat) (v : Int) (hv : okL v) (h : okSh c s) : okSh c (s.1, s.2.1.set i v, s.2.2) := by
  obtain ⟨h1, h2, h3, h4, h5, h6⟩ := h
  refine ⟨h1, h2, h3, by simpa using h4, h5, fun m hm => ?_⟩
  rcases List.mem_or_eq_of_mem_set hm with hm | rfl
  · exact h6 m hm
  · exact hv
theorem few_lat {s : Sh} (i : Nat) (v : Int) (h : fewS s) : fewS (s.1, s.2.1.set i v, s.2.2) := by
  obtain ⟨h1, h2, h3, h4⟩ := h
  exact ⟨h1, h2, h3, by simpa using h4⟩
theorem lat_get {s : Sh} {p v : Int} (g : hasV s p) : (s.2.1.set p.toNat v).getD p.toNat 0 = v := by
  rw [getD_set s.2.1 p.toNat p.toNat v 0 (by have := g.1; have := g.2; omega), if_pos rfl]

theorem AskLatch (x : Cfg × Sh × Int × Int × Int) (hx : InRT [⟨true, (.pair .int (.pair .int (.pair .int (.pair .int .int))))⟩, ⟨true, (.pair (.sl .int) (.pair (.sl .int) (.pair (.pair (.pair (.sl .int) (.pair (.sl .int) (.pair (.sl .int) (.sl .int)))) (.pair (.pair (.sl .int) (.pair (.sl .int) (.pair (.sl .int) (.sl .int)))) (.pair (.sl .int) (.pair (.sl .int) (.pair (.sl .int) (.sl .int)))))) (.pair .int (.sl .int)))))⟩, ⟨false, .int⟩, ⟨false, .int⟩, ⟨false, .int⟩] x) : tendrillaw16_AskLatch x = some true := by
  obtain ⟨c, s, t, u, p⟩ := x
  unfold tendrillaw16_AskLatch
  simp only [live16_eq, Option.bind_some, Bool.not_true, cond_false, etaS, fewA_eq]
  by_cases hf : fewB s
  · have hs := hf.fewS
    have hz : (-9223372036854775808 : Int) ≤ 0 ∧ (0 : Int) ≤ 9223372036854775807 := by decide
    simp only [hf, decide_true, Bool.not_true, cond_false, etaC, do_eq c s t (5, p, 0, 0, 0, 0) hz hs, do_eq c s u (7, p, 0, 0, 0, 0) hz hs, shape_eq c s hs, waits_eq, Option.bind_some, nec, eqc, dec]
    by_cases ho : okSh c s
    · rw [chk_pos ho, if_pos rfl]
      have hl := ho.2.2.2.1
      by_cases hw : waitsV s (5, p, 0, 0, 0, 0)
      · rw [do_wait ho hw, if_neg (by decide), if_pos hw]
        split
        · rfl
        · split <;> rfl
      · rw [do_latches ho hw (Or.inl rfl), if_neg hw]
        by_cases g : hasV s p
        · have hv := ho.2.2.2.2.2 (s.2.1.getD p.toNat 0) (by rw [getD_get s.2.1 p.toNat 0 (by have := g.1; have := g.2; omega)]; exact List.getElem_mem _)
          have hn : ¬ heldV (s.2.1.getD p.toNat 0) := fun q => hw ⟨Or.inl rfl, g, q⟩
          obtain ⟨v, hve⟩ : ∃ v, s.2.1.getD p.toNat 0 = v := ⟨_, rfl⟩
          by_cases hm : v = 4611686018427387904
          · have e : latchesV s (5, p, 0, 0, 0, 0) = (s, 0, 1) := by
              unfold latchesV
              simp only [hve]
              rw [if_pos g, if_pos trivial]
              have : tryV v = (v, false) := if_neg (fun q => q.2.2 hm)
              rw [this, if_neg (show ¬ (false = true) by decide)]
            rw [e, endR_err (show (1 : Int) ≠ 0 by decide)]
            rw [show noR ((s, (0 : Int), (1 : Int)) : Sh × Int × Int).2.2 = noR 1 from rfl, if_neg (show ¬ (noR 1).2.2.2 = 0 by decide)]
            rw [if_neg (by have := g.1; omega), if_neg (by have := g.2; omega), if_pos g.1, if_pos g.2, hve, hm]
            rfl
          · rw [hve] at hv hn
            have hev : v % 2 = 0 := by
              have : ¬ v % 2 = 1 := fun z => hn ⟨hv, z⟩
              omega
            have hv1 : okL (v + 1) := ⟨by have := hv.1; omega, by have := hv.2; omega⟩
            have hv2 : okL (v + 2) := ⟨by have := hv.1; omega, by have := hv.2; omega⟩
            have hh1 : heldV (v + 1) := ⟨hv1, by omega⟩
            have hh2 : ¬ heldV (v + 2) := fun q => by have := q.2; omega
            have e : latchesV s (5, p, 0, 0, 0, 0) = ((s.1, s.2.1.set p.toNat (v + 1), s.2.2), 0, 0) := by
              unfold latchesV
              simp only [hve]
              rw [if_pos g, if_pos trivial]
              have : tryV v = (v + 1, true) := if_pos ⟨hv, hn, hm⟩
              rw [this, if_pos rfl]
            rw [e, endR_ok rfl, if_pos rfl]
            have ho1 := okSh_lat p.toNat (v + 1) hv1 ho
            have hs1 := few_lat p.toNat (v + 1) hs
            have g1 : hasV (s.1, s.2.1.set p.toNat (v + 1), s.2.2) p := ⟨g.1, by simpa using g.2⟩
            have gt1 : ((s.1, s.2.1.set p.toNat (v + 1), s.2.2) : Sh).2.1.getD p.toNat 0 = v + 1 := lat_get g
            have w5 : waitsV (s.1, s.2.1.set p.toNat (v + 1), s.2.2) (5, p, 0, 0, 0, 0) := ⟨Or.inl rfl, g1, by rw [gt1]; exact hh1⟩
            have w7 : waitsV (s.1, s.2.1.set p.toNat (v + 1), s.2.2) (7, p, 0, 0, 0, 0) := ⟨Or.inr rfl, g1, by rw [gt1]; exact hh1⟩
            have e6 : latchesV (s.1, s.2.1.set p.toNat (v + 1), s.2.2) (6, p, 0, 0, 0, 0) = ((s.1, s.2.1.set p.toNat (v + 2), s.2.2), 0, 0) := by
              unfold latchesV
              rw [if_pos g1, if_neg (show ¬ (6 : Int) = 5 by decide), if_pos rfl]
              have : freeV (v + 1) = (v + 2, 0) := by
                unfold freeV; rw [if_pos hv1, if_pos hh1, show v + 1 + 1 = v + 2 by omega]
              simp only [gt1, this]
              rw [if_pos trivial, List.set_set]
            have e7 : latchesV s (7, p, 0, 0, 0, 0) = (s, v, 0) := by
              unfold latchesV
              rw [if_pos g, if_neg (show ¬ (7 : Int) = 5 by decide), if_neg (show ¬ (7 : Int) = 6 by decide), hve]
            have w7s : ¬ waitsV s (7, p, 0, 0, 0, 0) := fun q => by have := q.2.2; rw [hve] at this; exact hn this
            have ho2 := okSh_lat p.toNat (v + 2) hv2 ho
            have hs2 := few_lat p.toNat (v + 2) hs
            have g2 : hasV (s.1, s.2.1.set p.toNat (v + 2), s.2.2) p := ⟨g.1, by simpa using g.2⟩
            have gt2 : ((s.1, s.2.1.set p.toNat (v + 2), s.2.2) : Sh).2.1.getD p.toNat 0 = v + 2 := lat_get g
            have w72 : ¬ waitsV (s.1, s.2.1.set p.toNat (v + 2), s.2.2) (7, p, 0, 0, 0, 0) := fun q => by have := q.2.2; rw [gt2] at this; exact hh2 this
            have e72 : latchesV (s.1, s.2.1.set p.toNat (v + 2), s.2.2) (7, p, 0, 0, 0, 0) = ((s.1, s.2.1.set p.toNat (v + 2), s.2.2), v + 2, 0) := by
              unfold latchesV
              rw [if_pos g2, if_neg (show ¬ (7 : Int) = 5 by decide), if_neg (show ¬ (7 : Int) = 6 by decide), gt2]
            simp only [etaS]
            rw [do_eq c (s.1, s.2.1.set p.toNat (v + 1), s.2.2) u (5, p, 0, 0, 0, 0) hz hs1, do_eq c (s.1, s.2.1.set p.toNat (v + 1), s.2.2) u (7, p, 0, 0, 0, 0) hz hs1, do_eq c (s.1, s.2.1.set p.toNat (v + 1), s.2.2) t (6, p, 0, 0, 0, 0) hz hs1]
            rw [do_wait ho1 w5, do_wait ho1 w7, do_latches ho1 (nowait (show ¬ ((6 : Int) = 5 ∨ (6 : Int) = 7) by decide)) (Or.inr (Or.inl rfl)), e6, endR_ok rfl]
            simp only [Option.bind_some]
            rw [do_eq c (s.1, s.2.1.set p.toNat (v + 2), s.2.2) u (7, p, 0, 0, 0, 0) hz hs2, do_latches ho w7s (Or.inr (Or.inr rfl)), do_latches ho2 w72 (Or.inr (Or.inr rfl)), e7, e72, endR_ok rfl, endR_ok rfl]
            simp only [Option.bind_some]
            rw [if_pos (by rfl), if_pos (by rfl), if_pos trivial, if_pos trivial, if_pos trivial, w64 (by have := hv.1; omega) (by have := hv.2; omega), beq_self_eq_true]
        · have e : latchesV s (5, p, 0, 0, 0, 0) = (s, 0, 1) := if_neg g
          rw [e, endR_err (show (1 : Int) ≠ 0 by decide)]
          rw [show noR ((s, (0 : Int), (1 : Int)) : Sh × Int × Int).2.2 = noR 1 from rfl, if_neg (show ¬ (noR 1).2.2.2 = 0 by decide)]
          by_cases a : p < 0
          · rw [if_pos a]
          · rw [if_neg a, if_pos]
            exact Classical.byContradiction fun q => g ⟨by omega, by omega⟩
    · rw [do_no ho, chk_neg ho, if_neg (by decide), if_neg (by decide)]
  · simp only [hf, decide_false, Bool.not_false, cond_true]
end Go.Proofs.Ytcoiboghdmmdcad.Pure
