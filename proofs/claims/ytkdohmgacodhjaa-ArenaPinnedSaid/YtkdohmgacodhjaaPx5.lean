/- Lemmas between typed data and cells; how operands, own rows and written blocks keep the abstract state; no condition. -/
import Derived.Test.YtkdohmgacodhjaaPx4
set_option linter.unusedVariables false
set_option linter.unusedSimpArgs false
namespace Go.Proofs.YtkdohmgacodhjaaPx
open Go.RowKit

section
variable {A A' : Nat → Prop} {w w' : World} {ρ ρ' : Nat → Option Value}

theorem DenC.list : ∀ (t : Ty) (x : t.D) (g : Nat → Option Value), DenC A w t x g → ∃ vs, DenL A w ρ (t.cells x) vs ∧ ∀ j v, vs[j]? = some v → g j = some v
  | .int, n, g, h => ⟨[.int .i64 n], ⟨rfl, trivial⟩, fun j v e => by match j, e with | 0, e => simp at e; subst e; exact h⟩
  | .bool, b, g, h => ⟨[.bool b], ⟨rfl, trivial⟩, fun j v e => by match j, e with | 0, e => simp at e; subst e; exact h⟩
  | .pair a b, x, g, h => by
    obtain ⟨va, ha, ga⟩ := DenC.list a x.1 g h.1
    obtain ⟨vb, hb, gb⟩ := DenC.list b x.2 _ h.2
    have hl : va.length = a.size := by rw [← ha.length, Ty.cells_length]
    refine ⟨va ++ vb, ha.append hb, fun j v e => ?_⟩
    rw [List.getElem?_append] at e
    split at e
    · exact ga j v e
    · have := gb _ v e
      rw [hl] at this
      rwa [show a.size + (j - a.size) = j by omega] at this
  | .sl t, xs, g, h => by
    obtain ⟨p, c, h0, hc, hr⟩ := h
    exact ⟨[.slice p xs.length c], ⟨⟨p, c, rfl, hc, hr⟩, trivial⟩, fun j v e => by match j, e with | 0, e => simp at e; subst e; exact h0⟩
  | .ref t, x, g, h => by
    obtain ⟨b, o, h0, ha, hr⟩ := h
    exact ⟨[.pointer (some (pl b o))], ⟨⟨b, o, rfl, ha, hr⟩, trivial⟩, fun j v e => by match j, e with | 0, e => simp at e; subst e; exact h0⟩
  | .clo f t, x, g, h => by
    obtain ⟨vs, h0, hl, hr⟩ := h
    exact ⟨[.func (.func f) #[] vs.toArray], ⟨⟨vs, rfl, hl, hr⟩, trivial⟩, fun j v e => by match j, e with | 0, e => simp at e; subst e; exact h0⟩
  | .num k, n, g, h => ⟨[.int k n], ⟨rfl, trivial⟩, fun j v e => by match j, e with | 0, e => simp at e; subst e; exact h⟩
  | .fn f, x, g, h => ⟨[.func (.func f) #[] #[]], ⟨⟨[], rfl, rfl, fun i io e => by simp at e⟩, trivial⟩, fun j v e => by match j, e with | 0, e => simp at e; subst e; exact h⟩

theorem DenC.of_list : ∀ (t : Ty) (x : t.D) (vs : List Value), DenL A w ρ (t.cells x) vs → DenC A w t x (fun j => vs[j]?)
  | .int, n, [v], h => by have := h.1; subst this; rfl
  | .bool, b, [v], h => by have := h.1; subst this; rfl
  | .pair a b, x, vs, h => by
    have hl := h.length
    simp only [Ty.cells, List.length_append, Ty.cells_length] at hl
    have h1 : DenL A w ρ (a.cells x.1) (vs.take a.size) := by
      refine DenL.of_get (by rw [Ty.cells_length, List.length_take]; omega) fun i s v e e' => ?_
      have hi : i < a.size := by have := (List.getElem?_eq_some_iff.1 e).1; rwa [Ty.cells_length] at this
      rw [List.getElem?_take_of_lt hi] at e'
      obtain ⟨u, hu, hd⟩ := h.get (i := i) (s := s) (by rw [Ty.cells, List.getElem?_append_left (by rw [Ty.cells_length]; exact hi)]; exact e)
      rw [e'] at hu
      exact (Option.some.inj hu) ▸ hd
    have h2 : DenL A w ρ (b.cells x.2) (vs.drop a.size) := by
      refine DenL.of_get (by rw [Ty.cells_length, List.length_drop]; omega) fun i s v e e' => ?_
      rw [List.getElem?_drop] at e'
      obtain ⟨u, hu, hd⟩ := h.get (i := a.size + i) (s := s) (by rw [Ty.cells, List.getElem?_append_right (by rw [Ty.cells_length]; omega), Ty.cells_length, Nat.add_sub_cancel_left]; exact e)
      rw [e'] at hu
      exact (Option.some.inj hu) ▸ hd
    refine ⟨?_, ?_⟩
    · refine DenC.step (w := w) (w' := w) (A := A) (A' := A) (fun b o v ha hv => ⟨ha, hv⟩) a x.1 _ _ (fun j v hj e => ?_) (DenC.of_list a x.1 _ h1)
      rw [List.getElem?_take_of_lt hj] at e
      exact e
    · refine DenC.step (w := w) (w' := w) (A := A) (A' := A) (fun b o v ha hv => ⟨ha, hv⟩) b x.2 _ _ (fun j v hj e => ?_) (DenC.of_list b x.2 _ h2)
      rw [List.getElem?_drop] at e
      exact e
  | .sl t, xs, [v], h => by
    obtain ⟨p, c, rfl, hc, hr⟩ := RI.shape h.1
    exact ⟨p, c, rfl, hc, hr⟩
  | .int, _, [], h => h.elim
  | .int, _, _ :: _ :: _, h => h.2.elim
  | .bool, _, [], h => h.elim
  | .bool, _, _ :: _ :: _, h => h.2.elim
  | .ref t, x, [v], h => by
    obtain ⟨b, o, rfl, ha, hr⟩ := h.1
    exact ⟨b, o, rfl, ha, hr⟩
  | .clo f t, x, [v], h => by
    obtain ⟨vs, rfl, hl, hr⟩ := h.1
    exact ⟨vs, rfl, hl, hr⟩
  | .fn f, x, [v], h => by
    obtain ⟨vs, rfl, hl, _⟩ := h.1
    have : vs = [] := List.eq_nil_of_length_eq_zero hl
    subst this
    rfl
  | .num k, n, [v], h => by have := h.1; subst this; rfl
  | .num _, _, [], h => h.elim
  | .num _, _, _ :: _ :: _, h => h.2.elim
  | .sl _, _, [], h => h.elim
  | .sl _, _, _ :: _ :: _, h => h.2.elim
  | .ref _, _, [], h => h.elim
  | .ref _, _, _ :: _ :: _, h => h.2.elim
  | .clo _ _, _, [], h => h.elim
  | .clo _ _, _, _ :: _ :: _, h => h.2.elim
  | .fn _, _, [], h => h.elim
  | .fn _, _, _ :: _ :: _, h => h.2.elim

theorem Step.refl : Step A w A w := fun _ _ _ ha hv => ⟨ha, hv⟩

/-- What is read as typed data is the typed data. -/
theorem ofCells_den : ∀ (t : Ty) (cs : List Sc) (vs : List Value) (x : t.D) (r : List Sc), t.ofCells cs = some (x, r) → DenL A w ρ cs vs →
    ∃ v1 v2, vs = v1 ++ v2 ∧ DenL A w ρ (t.cells x) v1 ∧ DenL A w ρ r v2
  | .int, .int .i64 n :: r, v :: vs, x, r', h, hd => by
    simp only [Ty.ofCells, Option.some.injEq, Prod.mk.injEq] at h
    obtain ⟨rfl, rfl⟩ := h
    exact ⟨[v], vs, rfl, ⟨hd.1, trivial⟩, hd.2⟩
  | .bool, .bool b :: r, v :: vs, x, r', h, hd => by
    simp only [Ty.ofCells, Option.some.injEq, Prod.mk.injEq] at h
    obtain ⟨rfl, rfl⟩ := h
    exact ⟨[v], vs, rfl, ⟨hd.1, trivial⟩, hd.2⟩
  | .pair a b, cs, vs, x, r', h, hd => by
    simp only [Ty.ofCells] at h
    split at h
    · rename_i y r1 e1
      split at h
      · rename_i z r2 e2
        simp only [Option.some.injEq, Prod.mk.injEq] at h
        obtain ⟨rfl, rfl⟩ := h
        obtain ⟨v1, v2, rfl, d1, d2⟩ := ofCells_den a cs vs y r1 e1 hd
        obtain ⟨v3, v4, rfl, d3, d4⟩ := ofCells_den b r1 v2 z r2 e2 d2
        exact ⟨v1 ++ v3, v4, by simp, d1.append d3, d4⟩
      · simp at h
    · simp at h
  | .sl t, .sl t' xs :: r, v :: vs, x, r', h, hd => by
    simp only [Ty.ofCells] at h
    split at h
    · rename_i e
      subst e
      simp only [Option.some.injEq, Prod.mk.injEq] at h
      obtain ⟨rfl, rfl⟩ := h
      exact ⟨[v], vs, rfl, ⟨hd.1, trivial⟩, hd.2⟩
    · simp at h
  | .sl t, .nil :: r, v :: vs, x, r', h, hd => by
    simp only [Ty.ofCells, Option.some.injEq, Prod.mk.injEq] at h
    obtain ⟨rfl, rfl⟩ := h
    have : v = .slice none 0 0 := hd.1
    subst this
    exact ⟨[_], vs, rfl, ⟨RI.nil _ _ _ _ _, trivial⟩, hd.2⟩
  | .int, [], _, _, _, h, _ => by simp [Ty.ofCells] at h
  | .bool, [], _, _, _, h, _ => by simp [Ty.ofCells] at h
  | .sl _, [], _, _, _, h, _ => by simp [Ty.ofCells] at h
  | .ref _, [], _, _, _, h, _ => by simp [Ty.ofCells] at h
  | .clo _ _, [], _, _, _, h, _ => by simp [Ty.ofCells] at h
  | .fn _, [], _, _, _, h, _ => by simp [Ty.ofCells] at h
  | .num _, [], _, _, _, h, _ => by simp [Ty.ofCells] at h
  | .int, _ :: _, [], _, _, _, hd => hd.elim
  | .bool, _ :: _, [], _, _, _, hd => hd.elim
  | .sl _, _ :: _, [], _, _, _, hd => hd.elim
  | .ref _, _ :: _, [], _, _, _, hd => hd.elim
  | .clo _ _, _ :: _, [], _, _, _, hd => hd.elim
  | .fn _, _ :: _, [], _, _, _, hd => hd.elim
  | .num _, _ :: _, [], _, _, _, hd => hd.elim
  | .int, s :: _, _ :: _, _, _, h, _ => by
    cases s with
    | int k n => cases k <;> simp [Ty.ofCells] at h <;> (rename_i v vs x r' hd; obtain ⟨rfl, rfl⟩ := h; exact ⟨[v], vs, rfl, ⟨hd.1, trivial⟩, hd.2⟩)
    | _ => simp [Ty.ofCells] at h
  | .bool, s :: _, _ :: _, _, _, h, _ => by
    cases s with
    | bool b => (simp [Ty.ofCells] at h; rename_i v vs x r' hd; obtain ⟨rfl, rfl⟩ := h; exact ⟨[v], vs, rfl, ⟨hd.1, trivial⟩, hd.2⟩)
    | _ => simp [Ty.ofCells] at h
  | .sl t, s :: _, _ :: _, _, _, h, hd => by
    cases s with
    | sl t' xs =>
      simp only [Ty.ofCells] at h
      split at h
      · rename_i e
        subst e
        simp only [Option.some.injEq, Prod.mk.injEq] at h
        obtain ⟨rfl, rfl⟩ := h
        exact ⟨[_], _, rfl, ⟨hd.1, trivial⟩, hd.2⟩
      · simp at h
    | nil =>
      simp only [Ty.ofCells, Option.some.injEq, Prod.mk.injEq] at h
      obtain ⟨rfl, rfl⟩ := h
      have e := hd.1
      simp only [Sc.Den] at e
      subst e
      exact ⟨[_], _, rfl, ⟨RI.nil _ _ _ _ _, trivial⟩, hd.2⟩
    | _ => simp [Ty.ofCells] at h
  | .ref t, s :: _, _ :: _, _, _, h, hd => by
    cases s with
    | ep t' y j =>
      cases j with
      | succ j => simp [Ty.ofCells] at h
      | zero =>
        simp only [Ty.ofCells] at h
        split at h
        · rename_i e
          subst e
          simp only [Option.some.injEq, Prod.mk.injEq] at h
          obtain ⟨rfl, rfl⟩ := h
          exact ⟨[_], _, rfl, ⟨hd.1, trivial⟩, hd.2⟩
        · simp at h
    | _ => simp [Ty.ofCells] at h
  | .clo g t, s :: _, _ :: _, _, _, h, hd => by
    cases s with
    | clo g' t' y =>
      simp only [Ty.ofCells] at h
      split at h
      · rename_i e
        subst e
        split at h
        · rename_i e
          subst e
          simp only [Option.some.injEq, Prod.mk.injEq] at h
          obtain ⟨rfl, rfl⟩ := h
          exact ⟨[_], _, rfl, ⟨hd.1, trivial⟩, hd.2⟩
        · simp at h
      · simp at h
    | _ => simp [Ty.ofCells] at h
  | .fn g, s :: _, _ :: _, _, _, h, hd => by
    cases s with
    | func g' l =>
      cases l with
      | cons => simp [Ty.ofCells] at h
      | nil =>
        simp only [Ty.ofCells] at h
        split at h
        · rename_i e
          subst e
          simp only [Option.some.injEq, Prod.mk.injEq] at h
          obtain ⟨_, rfl⟩ := h
          exact ⟨[_], _, rfl, ⟨hd.1, trivial⟩, hd.2⟩
        · simp at h
    | _ => simp [Ty.ofCells] at h
  | .num k, s :: _, _ :: _, _, _, h, hd => by
    cases s with
    | int k' n =>
      simp only [Ty.ofCells] at h
      split at h
      · rename_i e
        subst e
        simp only [Option.some.injEq, Prod.mk.injEq] at h
        obtain ⟨rfl, rfl⟩ := h
        exact ⟨[_], _, rfl, ⟨hd.1, trivial⟩, hd.2⟩
      · simp at h
    | _ => simp [Ty.ofCells] at h

/-- A constant stands for itself. -/
theorem constSc_den {v : Value} {s : Sc} (h : constSc v = some s) : s.Den A w ρ v ∧ v.oneCell' = true ∧ s.ok = true := by
  unfold constSc at h
  split at h <;> simp at h <;> subst h
  · exact ⟨rfl, rfl, rfl⟩
  · exact ⟨rfl, rfl, rfl⟩
  · exact ⟨rfl, rfl, rfl⟩
  · exact ⟨⟨[], rfl, rfl, fun i io e => by simp at e⟩, rfl, rfl⟩

theorem constScs_den : ∀ {vs : List Value} {ss : List Sc}, constScs vs = some ss → DenL A w ρ ss vs ∧ (∀ v ∈ vs, v.oneCell' = true) ∧ ss.all Sc.ok = true
  | [], ss, h => by simp [constScs] at h; subst h; exact ⟨trivial, by simp, rfl⟩
  | v :: vs, ss, h => by
    simp only [constScs] at h
    split at h
    · rename_i s ss' e1 e2
      simp at h
      subst h
      obtain ⟨d, o, k⟩ := constSc_den (A := A) (w := w) (ρ := ρ) e1
      obtain ⟨d', o', k'⟩ := constScs_den e2
      refine ⟨⟨d, d'⟩, fun u hu => ?_, by simp [k, k']⟩
      rcases List.mem_cons.1 hu with rfl | hu
      · exact o
      · exact o' u hu
    · simp at h

theorem constSV_den {v : Value} {s : SV} (h : constSV v = some s) : s.Den A w ρ v := by
  unfold constSV at h
  split at h
  · obtain ⟨cs, hc, rfl⟩ := Option.map_eq_some_iff.1 h
    exact ⟨_, rfl, (constScs_den hc).1⟩
  · obtain ⟨s, hc, rfl⟩ := Option.map_eq_some_iff.1 h
    exact (constSc_den hc).1

/-- Of a value its cells. -/
theorem V1.Den.cells (hsh : ∀ i v, ρ i = some v → v.oneCell' = true) {x : V1} {v : Value} (h : x.Den A w ρ v) (hok : x.cells.all Sc.ok = true) : DenL A w ρ x.cells v.cells.toList ∧ (∀ u ∈ v.cells.toList, u.oneCell' = true) := by
  have key : ∀ {s : Sc} {u : Value}, s.Den A w ρ u → s.ok = true → u.oneCell' = true := by
    intro s u hs hk
    cases s with
    | int k n => have := hs; simp only [Sc.Den] at this; subst this; rfl
    | bool b => have := hs; simp only [Sc.Den] at this; subst this; rfl
    | ptr i o => obtain ⟨b, _, rfl⟩ := hs; rfl
    | rp i t k j => obtain ⟨b, o, n, c, _, _, rfl⟩ := hs; rfl
    | row i => exact hsh i u hs
    | bsl i o n => obtain ⟨b, _, rfl⟩ := hs; rfl
    | sl t xs => obtain ⟨p, c, rfl, _⟩ := RI.shape hs; rfl
    | sln nn t xs => obtain ⟨p, c, rfl, _⟩ := RI.shape hs.1; rfl
    | ep t x j => obtain ⟨b, o, rfl, _⟩ := hs; rfl
    | nil => have := hs; simp only [Sc.Den] at this; subst this; rfl
    | func f caps => obtain ⟨vs, rfl, _⟩ := hs; rfl
    | clo f t x => obtain ⟨vs, rfl, _⟩ := hs; rfl
    | vw i t l r => obtain ⟨p, n, c, _, _, _, _, rfl⟩ := hs; rfl
    | undef => simp [Sc.ok] at hk
  have keys : ∀ {ss : List Sc} {us : List Value}, DenL A w ρ ss us → ss.all Sc.ok = true → ∀ u ∈ us, u.oneCell' = true := by
    intro ss us hs hk u hu
    obtain ⟨i, hi⟩ := List.getElem?_of_mem hu
    have hlt := (List.getElem?_eq_some_iff.1 hi).1
    rw [← hs.length] at hlt
    obtain ⟨v', e', d'⟩ := hs.get (List.getElem?_eq_getElem hlt)
    rw [hi] at e'
    obtain rfl := Option.some.inj e'
    exact key d' (by simpa using List.all_eq_true.1 hk _ (List.getElem_mem hlt))
  cases x with
  | one s =>
    have h1 : s.ok = true := by simpa [V1.cells] using hok
    have h2 := key h h1
    have : v.cells = #[v] := by cases v <;> first | rfl | simp [Value.oneCell'] at h2
    rw [this]
    exact ⟨⟨h, trivial⟩, by simpa using h2⟩
  | agg cs =>
    obtain ⟨vs, rfl, hd⟩ := h
    exact ⟨by simp only [V1.cells, Value.cells]; exact hd, by simp only [Value.cells]; exact keys hd hok⟩
end
end Go.Proofs.YtkdohmgacodhjaaPx
