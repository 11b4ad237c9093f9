/- Calls of functions whose contract is known; all operations together; no condition. -/
import Derived.Test.YtkdohmgacodhjaaPx13
set_option linter.unusedVariables false
set_option linter.unusedSimpArgs false
namespace Go.Proofs.YtkdohmgacodhjaaPx
open Go.RowKit

def noρ : Nat → Option Value := fun _ => none

/-- Rows by their names. -/
def lkF (l : List (Nat × Blk)) : Nat → Option Blk := applyW (l.map fun p => (p.1, some p.2)) fun _ => none

/-- What a call hands back. -/
def ResOk (S : Nat → Prop) (B : Nat) (w : World) (o : List V1 × List (Nat × Blk)) (v : Value) : Prop :=
  ∃ ρ, (∀ i blk, lkF o.2 i = some blk → ∃ u, ρ i = some u ∧ blk.Ok B (Al S (lkF o.2) ρ) w ρ u) ∧
    (∀ i j bi bj vi vj b, i ≠ j → lkF o.2 i = some bi → lkF o.2 j = some bj → ρ i = some vi → ρ j = some vj → ownB vi = some b → ownB vj ≠ some b) ∧
    (∀ i v, ρ i = some v → v.oneCell' = true ∧ ∃ b, lkF o.2 i = some b) ∧
    (toSV o.1).Den (Al S (lkF o.2) ρ) w ρ v

/-- A function's contract. -/
def SigOk (P : Program) (f : FuncId) (s : Sig) : Prop :=
  ∀ (S : Nat → Prop) (w : World) (x : Tup s.args) (r : Tup s.res) (vs : List Value), s.fn x = some r → (∀ b, w.heap.size ≤ b → S b) → DenVs S w noρ (encTup s.args x) vs →
    Calls P f vs.toArray w fun e w' => ∃ v, e = .returned v ∧ Below w.heap.size w w' ∧ ∀ base, ResOk S w.heap.size w' (s.out base r) v

section
variable {S : Nat → Prop} {w0 : World} {n : Nat} {fr fr' : Nat → Prop} {fE : Nat → Option SV} {fH fH' : Nat → Option Blk} {ρ ρ' : Nat → Option Value} {a : Act} {w w' : World} {P : Program}

/-- Typed cells bear no names. -/
theorem cells_names {A A' : Nat → Prop} (hs : Step A w A' w') (t : Ty) (x : t.D) {vs : List Value} (h : DenL A w ρ (t.cells x) vs) : DenL A' w' ρ' (t.cells x) vs := by
  refine DenL.of_get h.length fun i s v es ev => ?_
  obtain ⟨v', ev', hd⟩ := h.get es
  rw [ev] at ev'
  obtain rfl := Option.some.inj ev'
  rcases Ty.cells_kind t x s (List.mem_of_getElem? es) with ⟨k, m, rfl⟩ | ⟨b, rfl⟩ | ⟨t', ys, rfl⟩ | ⟨t', y, rfl⟩ | ⟨g, t', y, rfl⟩ | ⟨g, rfl⟩
  · exact hd
  · exact hd
  · exact RI.step hs hd
  · obtain ⟨b, o, h1, h2, h3⟩ := hd
    obtain ⟨k, v, hv⟩ := DenC.some_cell _ _ _ h3
    exact ⟨b, o, h1, (hs b _ v h2 hv).1, DenC.step hs _ _ _ _ (fun j v _ e => (hs b _ v h2 e).2) h3⟩
  · obtain ⟨vs, h1, h2, h3⟩ := hd
    exact ⟨vs, h1, h2, DenC.step hs _ _ _ _ (fun _ _ _ e => e) h3⟩
  · obtain ⟨vs, h1, h2, h3⟩ := hd
    exact ⟨vs, h1, h2, fun i io e => by simp at e⟩

theorem cells_noSl {A A' : Nat → Prop} : ∀ (t : Ty) (x : t.D), t.hasSl = false → ∀ {vs : List Value}, DenL A w ρ (t.cells x) vs → DenL A' w' ρ' (t.cells x) vs
  | t, x, ht, vs, h => by
    have key : ∀ (t : Ty) (x : t.D), t.hasSl = false → ∀ s ∈ t.cells x, (∃ k m, s = .int k m) ∨ (∃ b, s = .bool b) ∨ ∃ g, s = .func g [] := by
      intro t
      induction t with
      | int => intro x _ s hs; simp [Ty.cells] at hs; exact .inl ⟨_, _, hs⟩
      | bool => intro x _ s hs; simp [Ty.cells] at hs; exact .inr (.inl ⟨_, hs⟩)
      | pair a b iha ihb =>
        intro x ht s hs
        simp only [Ty.hasSl, Bool.or_eq_false_iff] at ht
        simp only [Ty.cells, List.mem_append] at hs
        rcases hs with hs | hs
        · exact iha _ ht.1 s hs
        · exact ihb _ ht.2 s hs
      | sl t _ => intro x ht; simp [Ty.hasSl] at ht
      | ref t _ => intro x ht; simp [Ty.hasSl] at ht
      | clo g t _ => intro x ht; simp [Ty.hasSl] at ht
      | fn g => intro x ht s hs; simp [Ty.cells] at hs; exact .inr (.inr ⟨_, hs⟩)
      | num k => intro x ht s hs; simp [Ty.cells] at hs; exact .inl ⟨_, _, hs⟩
    refine DenL.of_get h.length fun i s v es ev => ?_
    obtain ⟨v', ev', hd⟩ := h.get es
    rw [ev] at ev'
    obtain rfl := Option.some.inj ev'
    rcases key t x ht s (List.mem_of_getElem? es) with ⟨k, m, rfl⟩ | ⟨b, rfl⟩ | ⟨g, rfl⟩
    · exact hd
    · exact hd
    · obtain ⟨vs, h1, h2, h3⟩ := hd
      exact ⟨vs, h1, h2, fun i io e => by simp at e⟩

theorem enc_cells (v : VT) (x : v.t.D) : (v.enc x).cells = v.t.cells x := by
  unfold VT.enc
  split
  · rfl
  · split
    · rename_i s h; rw [h]; rfl
    · rfl

theorem V1_den_of_cells {A A' : Nat → Prop} (v : VT) (x : v.t.D) (hk : ∀ {vs : List Value}, DenL A w ρ (v.t.cells x) vs → DenL A' w' ρ' (v.t.cells x) vs) {u : Value} (h : (v.enc x).Den A w ρ u) : (v.enc x).Den A' w' ρ' u := by
  unfold VT.enc at h ⊢
  split
  · rename_i ha
    rw [if_pos ha] at h
    obtain ⟨vs, rfl, hd⟩ := h
    exact ⟨vs, rfl, hk hd⟩
  · rename_i ha
    rw [if_neg ha] at h
    split
    · rename_i s hs
      rw [hs] at h
      have : DenL A w ρ (v.t.cells x) [u] := by rw [hs]; exact ⟨h, trivial⟩
      have := hk this
      rw [hs] at this
      exact this.1
    · rename_i cs hs
      split at h
      · rename_i s hs2
        exact absurd hs2 (hs s)
      · obtain ⟨vs, rfl, hd⟩ := h
        exact ⟨vs, rfl, hk hd⟩

theorem encTup_names {A A' : Nat → Prop} (hs : Step A w A' w') : ∀ (l : List VT) (x : Tup l) {vs : List Value}, DenVs A w ρ (encTup l x) vs → DenVs A' w' ρ' (encTup l x) vs
  | [], _, [], _ => trivial
  | [v], x, [u], h => ⟨V1_den_of_cells v x (cells_names hs v.t x) h.1, trivial⟩
  | v :: v' :: l, x, u :: us, h => ⟨V1_den_of_cells v x.1 (cells_names hs v.t x.1) h.1, encTup_names hs (v' :: l) x.2 h.2⟩
  | [], _, _ :: _, h => h.elim
  | [_], _, [], h => h.elim
  | [_], _, _ :: _ :: _, h => h.2.elim
  | _ :: _ :: _, _, [], h => h.elim

theorem encTup_noSl {A A' : Nat → Prop} : ∀ (l : List VT), l.any (·.t.hasSl) = false → ∀ (x : Tup l) {vs : List Value}, DenVs A w ρ (encTup l x) vs → DenVs A' w' ρ' (encTup l x) vs
  | [], _, _, [], _ => trivial
  | [v], hl, x, [u], h => ⟨V1_den_of_cells v x (cells_noSl v.t x (by simpa using hl)) h.1, trivial⟩
  | v :: v' :: l, hl, x, u :: us, h => by
    rw [List.any_cons, Bool.or_eq_false_iff] at hl
    exact ⟨V1_den_of_cells v x.1 (cells_noSl v.t x.1 hl.1) h.1, encTup_noSl (v' :: l) hl.2 x.2 h.2⟩
  | [], _, _, _ :: _, h => h.elim
  | [_], _, _, [], h => h.elim
  | [_], _, _, _ :: _ :: _, h => h.2.elim
  | _ :: _ :: _, _, _, [], h => h.elim

theorem toSV_den {A : Nat → Prop} {xs : List V1} {v : Value} (h : (toSV xs).Den A w ρ v) : (∃ x, xs = [x] ∧ x.Den A w ρ v) ∨ ((∀ x, xs ≠ [x]) ∧ ∃ vs : List Value, v = .tuple vs.toArray ∧ DenVs A w ρ xs vs) := by
  unfold toSV at h
  split at h
  · exact .inl ⟨_, rfl, h⟩
  · rename_i hx; exact .inr ⟨fun x e => hx x e, h⟩

theorem toSV_imp {A A' : Nat → Prop} {xs : List V1} {v : Value} (hk : ∀ {vs : List Value}, DenVs A w ρ xs vs → DenVs A' w' ρ' xs vs) (h : (toSV xs).Den A w ρ v) : (toSV xs).Den A' w' ρ' v := by
  unfold toSV at h ⊢
  split at h
  · rename_i x
    exact (hk (vs := [v]) ⟨h, trivial⟩).1
  · obtain ⟨vs, rfl, hd⟩ := h
    exact ⟨vs, rfl, hk hd⟩

theorem dec_den {A : Nat → Prop} {v : VT} {x : V1} {y : v.t.D} {u : Value} (h : v.dec x = some y) (hd : x.Den A w ρ u) : (v.enc y).Den A w ρ u := by
  unfold VT.dec at h
  unfold VT.enc
  split at h
  · rename_i cs ha
    rw [if_pos ha]
    split at h
    · rename_i z hz
      simp only [Option.some.injEq] at h
      subst h
      obtain ⟨vs, rfl, hd⟩ := hd
      obtain ⟨v1, v2, rfl, d1, d2⟩ := ofCells_den _ _ _ _ _ hz hd
      have : v2 = [] := by cases v2 with | nil => rfl | cons => exact d2.elim
      subst this
      exact ⟨v1, by simp, d1⟩
    · simp at h
  · rename_i s ha
    rw [if_neg (by simp [ha])]
    split at h
    · rename_i z hz
      simp only [Option.some.injEq] at h
      subst h
      obtain ⟨v1, v2, hv, d1, d2⟩ := ofCells_den _ _ [u] _ _ hz ⟨hd, trivial⟩
      have : v2 = [] := by cases v2 with | nil => rfl | cons => exact d2.elim
      subst this
      rw [List.append_nil] at hv
      subst hv
      generalize v.t.cells z = cs at d1
      cases cs with
      | nil => exact d1.elim
      | cons s r =>
        cases r with
        | nil => exact d1.1
        | cons => exact d1.2.elim
    · simp at h
  · simp at h

theorem decTup_den {A : Nat → Prop} : ∀ (l : List VT) (xs : List V1) (x : Tup l) (us : List Value), decTup l xs = some x → DenVs A w ρ xs us → DenVs A w ρ (encTup l x) us
  | [], xs, x, us, h, hd => by
    cases xs with
    | nil =>
      cases us with
      | nil => trivial
      | cons => exact hd.elim
    | cons y ys => exact absurd (show (none : Option (Tup [])) = some x from h) (fun q => by cases q)
  | [v], xs, y, us, h, hd => by
    cases xs with
    | nil => exact absurd (show (none : Option (Tup [v])) = some y from h) (fun q => by cases q)
    | cons x xs =>
      cases xs with
      | cons z zs => exact absurd (show (none : Option (Tup [v])) = some y from h) (fun q => by cases q)
      | nil =>
        cases us with
        | nil => exact hd.elim
        | cons u us =>
          cases us with
          | cons => exact hd.2.elim
          | nil => exact ⟨dec_den h hd.1, trivial⟩
  | v :: v' :: l, xs, y, us, h, hd => by
    cases xs with
    | nil => exact absurd (show (none : Option (Tup (v :: v' :: l))) = some y from h) (fun q => by cases q)
    | cons x xs =>
      cases us with
      | nil => exact hd.elim
      | cons u us =>
        have h' : (match v.dec x, decTup (v' :: l) xs with
          | some y, some z => some ((y, z) : Tup (v :: v' :: l))
          | _, _ => none) = some y := h
        cases hz : v.dec x with
        | none => rw [hz] at h'; cases h'
        | some z =>
          cases hz2 : decTup (v' :: l) xs with
          | none => rw [hz, hz2] at h'; cases h'
          | some z2 =>
            rw [hz, hz2] at h'
            have := Option.some.inj h'
            subst this
            exact ⟨dec_den hz hd.1, decTup_den (v' :: l) xs z2 us hz2 hd.2⟩

theorem DenC_noSl {A A' : Nat → Prop} : ∀ (t : Ty) (x : t.D) (g : Nat → Option Value), t.hasSl = false → DenC A w t x g → DenC A' w t x g
  | .int, _, _, _, h => h
  | .bool, _, _, _, h => h
  | .pair a b, x, g, hs, h => by
    simp only [Ty.hasSl, Bool.or_eq_false_iff] at hs
    exact ⟨DenC_noSl a x.1 g hs.1 h.1, DenC_noSl b x.2 _ hs.2 h.2⟩
  | .fn _, _, _, _, h => h
  | .num _, _, _, _, h => h
  | .sl _, _, _, hs, _ => by simp [Ty.hasSl] at hs
  | .ref _, _, _, hs, _ => by simp [Ty.hasSl] at hs
  | .clo _ _, _, _, hs, _ => by simp [Ty.hasSl] at hs

/-- A cell that is a number, a bool, or a slice whose elements bear no slices. -/
def Sc.pl : Sc → Bool
  | .int _ _ | .bool _ => true
  | .sl t _ => !t.hasSl
  | _ => false
def Sc.fre : Sc → Bool
  | .int _ _ | .bool _ | .row _ => true
  | _ => false
def Blk.pl : Blk → Bool
  | .row t _ => !t.hasSl
  | .box _ => false

theorem cells_pl : ∀ (t : Ty) (x : t.D), t.rowsPlain = true → (t.cells x).all Sc.pl = true
  | .int, _, _ => rfl
  | .bool, _, _ => rfl
  | .pair a b, x, h => by
    simp only [Ty.rowsPlain, Bool.and_eq_true] at h
    rw [Ty.cells, List.all_append, cells_pl a _ h.1, cells_pl b _ h.2]; rfl
  | .sl t, x, h => by simpa [Ty.cells, Sc.pl, Ty.rowsPlain] using h
  | .fn _, _, h => by simp [Ty.rowsPlain] at h
  | .num _, _, _ => rfl
  | .ref _, _, h => by simp [Ty.rowsPlain] at h
  | .clo _ _, _, h => by simp [Ty.rowsPlain] at h

theorem enc_pl (v : VT) (x : v.t.D) (h : v.t.rowsPlain = true) : (v.enc x).cells.all Sc.pl = true := by rw [enc_cells]; exact cells_pl _ _ h
theorem encTup_pl : ∀ (l : List VT) (x : Tup l), l.all (·.t.rowsPlain) = true → (encTup l x).all (fun x => x.cells.all Sc.pl) = true
  | [], _, _ => rfl
  | [v], x, h => by simp only [encTup, List.all_cons, List.all_nil, Bool.and_true] at h ⊢; exact enc_pl v x h
  | v :: v' :: l, x, h => by
    rw [List.all_cons, Bool.and_eq_true] at h
    simp only [encTup, List.all_cons (a := v.enc x.1), Bool.and_eq_true]; exact ⟨enc_pl v x.1 h.1, encTup_pl (v' :: l) x.2 h.2⟩

theorem ownL_pl : ∀ (ss : List Sc) (i : Nat), ss.all Sc.pl = true → (ownL i ss).1.all Sc.fre = true ∧ (ownL i ss).2.1.all (fun p => p.2.pl) = true
  | [], _, _ => ⟨rfl, rfl⟩
  | s :: ss, i, h => by
    rw [List.all_cons, Bool.and_eq_true] at h
    cases s with
    | int k n => have := ownL_pl ss i h.2; simpa [ownL, Sc.fre] using this
    | bool b => have := ownL_pl ss i h.2; simpa [ownL, Sc.fre] using this
    | sl t xs => have := ownL_pl ss (i + 1) h.2; have h1 := h.1; simp only [Sc.pl] at h1; simp [ownL, Sc.fre, Blk.pl] at this ⊢; exact ⟨this.1, by simpa using h1, this.2⟩
    | _ => simp [Sc.pl] at h

theorem ownVs_pl : ∀ (xs : List V1) (i : Nat), xs.all (fun x => x.cells.all Sc.pl) = true → (ownVs i xs).1.all (fun x => x.cells.all Sc.fre) = true ∧ (ownVs i xs).2.1.all (fun p => p.2.pl) = true
  | [], _, _ => ⟨rfl, rfl⟩
  | .one s :: xs, i, h => by
    rw [List.all_cons, Bool.and_eq_true] at h
    obtain ⟨h1, h2⟩ := ownL_pl [s] i (by simpa [V1.cells] using h.1)
    obtain ⟨h3, h4⟩ := ownVs_pl xs (ownL i [s]).2.2 h.2
    simp only [ownVs, List.all_cons, List.all_append, Bool.and_eq_true]
    refine ⟨⟨?_, h3⟩, h2, h4⟩
    generalize (ownL i [s]).1 = l at h1
    split
    · rename_i s' ; simpa [V1.cells] using h1
    · simpa [V1.cells] using h1
  | .agg cs :: xs, i, h => by
    rw [List.all_cons, Bool.and_eq_true] at h
    obtain ⟨h1, h2⟩ := ownL_pl cs i (by simpa [V1.cells] using h.1)
    obtain ⟨h3, h4⟩ := ownVs_pl xs (ownL i cs).2.2 h.2
    simp only [ownVs, List.all_cons, List.all_append, Bool.and_eq_true]
    exact ⟨⟨by simpa [V1.cells] using h1, h3⟩, h2, h4⟩

theorem Sc.Den.fre {A A' : Nat → Prop} {s : Sc} {v : Value} (h : s.fre = true) (hd : s.Den A w ρ v) : s.Den A' w ρ v := by
  cases s with
  | int k n => exact hd
  | bool b => exact hd
  | row i => exact hd
  | _ => simp [Sc.fre] at h
theorem DenL.fre {A A' : Nat → Prop} : ∀ {ss : List Sc} {vs : List Value}, ss.all Sc.fre = true → DenL A w ρ ss vs → DenL A' w ρ ss vs
  | [], [], _, _ => trivial
  | _ :: _, _ :: _, h, hd => by
    rw [List.all_cons, Bool.and_eq_true] at h
    exact ⟨hd.1.fre h.1, DenL.fre h.2 hd.2⟩
  | [], _ :: _, _, hd => hd.elim
  | _ :: _, [], _, hd => hd.elim
theorem DenVs.fre {A A' : Nat → Prop} : ∀ {xs : List V1} {vs : List Value}, xs.all (fun x => x.cells.all Sc.fre) = true → DenVs A w ρ xs vs → DenVs A' w ρ xs vs
  | [], [], _, _ => trivial
  | .one s :: _, _ :: _, h, hd => by
    rw [List.all_cons, Bool.and_eq_true] at h
    exact ⟨Sc.Den.fre (by simpa [V1.cells] using h.1) hd.1, DenVs.fre h.2 hd.2⟩
  | .agg cs :: _, _ :: _, h, hd => by
    rw [List.all_cons, Bool.and_eq_true] at h
    obtain ⟨us, hv, hc⟩ := hd.1
    exact ⟨⟨us, hv, DenL.fre (by simpa [V1.cells] using h.1) hc⟩, DenVs.fre h.2 hd.2⟩
  | [], _ :: _, _, hd => hd.elim
  | .one _ :: _, [], _, hd => hd.elim
  | .agg _ :: _, [], _, hd => hd.elim

theorem lkF_all {l : List (Nat × Blk)} (hl : l.all (fun p => p.2.pl) = true) {j : Nat} {b : Blk} (h : lkF l j = some b) : b.pl = true := by
  have key : ∀ (l : List (Nat × Blk)) (f : Nat → Option Blk), l.all (fun p => p.2.pl) = true → (∀ j b, f j = some b → b.pl = true) → ∀ j b, applyW (l.map fun p => (p.1, some p.2)) f j = some b → b.pl = true := by
    intro l
    induction l with
    | nil => intro f _ hf j b h; exact hf j b h
    | cons p l ih =>
      intro f hl hf j b h
      rw [List.all_cons, Bool.and_eq_true] at hl
      refine ih (upd f p.1 (some p.2)) hl.2 (fun j b e => ?_) j b h
      by_cases hj : j = p.1
      · subst hj; rw [upd_same] at e; obtain rfl := Option.some.inj e; exact hl.1
      · rw [upd_other _ _ hj] at e; exact hf j b e
  exact key l _ hl (fun j b e => by cases e) j b h

/-- Own rows that bear no slices hang on nothing. -/
theorem resOk_any {S S' : Nat → Prop} {B : Nat} {xs : List V1} {bs : List (Nat × Blk)} {v : Value} (h1 : xs.all (fun x => x.cells.all Sc.fre) = true) (h2 : bs.all (fun p => p.2.pl) = true) (h : ResOk S B w (xs, bs) v) : ResOk S' B w (xs, bs) v := by
  obtain ⟨ρ, hb, hi, hs, hd⟩ := h
  refine ⟨ρ, fun i blk e => ?_, hi, hs, toSV_imp (fun q => DenVs.fre h1 q) hd⟩
  obtain ⟨u, g1, g2⟩ := hb i blk e
  refine ⟨u, g1, ?_⟩
  have hp := lkF_all h2 e
  cases blk with
  | box cs => simp [Blk.pl] at hp
  | row t ys =>
    have ht : t.hasSl = false := by simpa [Blk.pl] using hp
    rcases g2 with g | ⟨b, o, c, arr, e, a1, a2, a3, a4, a5, a6⟩
    · exact .inl g
    · exact .inr ⟨b, o, c, arr, e, a1, a2, a3, a4, a5, fun i hi => DenC_noSl t _ _ ht (a6 i hi)⟩

theorem out_any {S S' : Nat → Prop} {B base : Nat} {s : Sig} {r : Tup s.res} {v : Value} (hown : s.own = true) (hp : s.res.all (·.t.rowsPlain) = true) (h : ResOk S B w (s.out base r) v) : ResOk S' B w (s.out base r) v := by
  have e : s.out base r = ((ownVs base (encTup s.res r)).1, (ownVs base (encTup s.res r)).2.1) := by simp [Sig.out, hown]
  rw [e] at h ⊢
  obtain ⟨h1, h2⟩ := ownVs_pl (encTup s.res r) base (encTup_pl s.res r hp)
  exact resOk_any h1 h2 h

theorem applyW_some (l : List (Nat × Blk)) (f : Nat → Option Blk) : applyW (l.map fun p => (p.1, some p.2)) f = fun j => match lkF l j with | some b => some b | none => f j := by
  induction l generalizing f with
  | nil => rfl
  | cons p l ih =>
    funext j
    show applyW (l.map fun p => (p.1, some p.2)) (upd f p.1 (some p.2)) j = match applyW (l.map fun p => (p.1, some p.2)) (upd (fun _ => none) p.1 (some p.2)) j with | some b => some b | none => f j
    rw [ih, ih]
    show (match lkF l j with | some b => some b | none => _) = match (match lkF l j with | some b => some b | none => _) with | some b => some b | none => f j
    cases lkF l j with
    | some b => rfl
    | none =>
      simp only [upd]
      split <;> rfl

theorem lkF_keys {l : List (Nat × Blk)} {j : Nat} {b : Blk} (h : lkF l j = some b) : ∃ p ∈ l, p.1 = j := by
  induction l with
  | nil => simp [lkF, applyW] at h
  | cons p l ih =>
    have h : applyW (l.map fun p => (p.1, some p.2)) (upd (fun _ => none) p.1 (some p.2)) j = some b := h
    rw [applyW_some] at h
    replace h : (match lkF l j with | some b => some b | none => upd (fun _ => none) p.1 (some p.2) j) = some b := h
    cases e : lkF l j with
    | some b' =>
      rw [e] at h
      simp only [Option.some.injEq] at h
      subst h
      obtain ⟨q, hq, e⟩ := ih e
      exact ⟨q, by simp [hq], e⟩
    | none =>
      rw [e] at h
      simp only [upd] at h
      split at h
      · rename_i e; exact ⟨p, by simp, e.symm⟩
      · simp at h

def over (fR fH : Nat → Option Blk) : Nat → Option Blk := fun j => match fR j with | some b => some b | none => fH j
theorem over_some {fR : Nat → Option Blk} {j : Nat} {b : Blk} (h : fR j = some b) : over fR fH j = some b := by simp [over, h]
theorem over_none {fR : Nat → Option Blk} {j : Nat} (h : fR j = none) : over fR fH j = fH j := by simp [over, h]

/-- The blocks that a call has handed over become ours. -/
theorem Holds.merge (h : Holds S w0 n fr fE fH ρ a w) (hbel : Below w.heap.size w w') {fR : Nat → Option Blk} {ρr : Nat → Option Value} (hk : ∀ i blk, fR i = some blk → fr i)
    (hb : ∀ i blk, fR i = some blk → ∃ u, ρr i = some u ∧ blk.Ok w.heap.size (Al (Al S fH ρ) fR ρr) w' ρr u)
    (hi : ∀ i j bi bj vi vj b, i ≠ j → fR i = some bi → fR j = some bj → ρr i = some vi → ρr j = some vj → ownB vi = some b → ownB vj ≠ some b)
    (hsh : ∀ i v, ρr i = some v → v.oneCell' = true ∧ ∃ b, fR i = some b) :
    ∃ ρ', Holds S w0 n (fun j => fr j ∧ fR j = none) fE (over fR fH) ρ' a w' ∧ Ext ρr ρ' ∧ (∀ b, Al (Al S fH ρ) fR ρr b → Al S (over fR fH) ρ' b) := by
  have hrm : ∀ {i}, fR i = none → (if (fR i).isSome then ρr i else ρ i) = ρ i := fun e => by simp [e]
  have hrs : ∀ {i b}, fR i = some b → (if (fR i).isSome then ρr i else ρ i) = ρr i := fun e => by simp [e]
  have he : Ext ρ (fun i => if (fR i).isSome then ρr i else ρ i) := by
    intro i v e
    cases hf : fR i with
    | none => simp only [hf, Option.isSome_none, Bool.false_eq_true, if_false]; exact e
    | some b => rw [(h.fresh i (hk i b hf)).1] at e; simp at e
  have he2 : Ext ρr (fun i => if (fR i).isSome then ρr i else ρ i) := by
    intro i v e
    obtain ⟨b, hf⟩ := (hsh i v e).2
    simp only [hf, Option.isSome_some, if_true]; exact e
  have hAl : ∀ b, Al (Al S fH ρ) fR ρr b → Al S (over fR fH) (fun i => if (fR i).isSome then ρr i else ρ i) b := by
    intro b hb2
    refine ⟨hb2.1.1, fun i blk v e1 e2 => ?_⟩
    cases hf : fR i with
    | none =>
      rw [over_none hf] at e1
      simp only [hf, Option.isSome_none, Bool.false_eq_true, if_false] at e2
      exact hb2.1.2 i blk v e1 e2
    | some b' =>
      simp only [hf, Option.isSome_some, if_true] at e2
      exact hb2.2 i b' v hf e2
  have hs : Step (Al S fH ρ) w (Al S (over fR fH) (fun i => if (fR i).isSome then ρr i else ρ i)) w' := by
    intro b o v ha hv
    have hlt := cell_lt hv
    refine ⟨⟨ha.1, fun i blk u e1 e2 => ?_⟩, by rw [cell_eq (hbel.block b hlt)]; exact hv⟩
    cases hf : fR i with
    | none =>
      rw [over_none hf] at e1
      simp only [hf, Option.isSome_none, Bool.false_eq_true, if_false] at e2
      exact ha.2 i blk u e1 e2
    | some b' =>
      simp only [hf, Option.isSome_some, if_true] at e2
      obtain ⟨u', hu1, hu2⟩ := hb i b' hf
      rw [e2] at hu1
      obtain rfl := Option.some.inj hu1
      intro hcon
      have := (hu2.lt hcon).2
      omega
  have hs2 : Step (Al (Al S fH ρ) fR ρr) w' (Al S (over fR fH) (fun i => if (fR i).isSome then ρr i else ρ i)) w' := fun b o v ha hv => ⟨hAl b ha, hv⟩
  refine ⟨fun i => if (fR i).isSome then ρr i else ρ i, ⟨h.size, h.defers, fun t sv e => ⟨(h.tmps t sv e).1, (h.tmps t sv e).2.step hs he⟩, fun i blk e => ?_, fun i j bi bj vi vj b hne e1 e2 e3 e4 e5 => ?_, fun j ⟨e1, e2⟩ => ?_, h.below.trans (hbel.mono h.base), h.new, fun i v e => ?_⟩, he2, hAl⟩
  · cases hf : fR i with
    | none =>
      rw [over_none hf] at e
      obtain ⟨v, h1, h2⟩ := h.blks i blk e
      exact ⟨v, by simp only [Option.isSome_none, Bool.false_eq_true, if_false]; exact h1, h2.step hs he fun b e' => hbel.block b (h2.lt e').1⟩
    | some b' =>
      rw [over_some hf] at e
      obtain rfl := Option.some.inj e
      obtain ⟨u, hu1, hu2⟩ := hb i _ hf
      refine ⟨u, by simp only [Option.isSome_some, if_true]; exact hu1, ?_⟩
      have h3 := hu2.step hs2 he2 fun _ _ => rfl
      cases b' with
      | box cs =>
        obtain ⟨b, arr, t, e1, e2, e3⟩ := h3
        exact ⟨b, arr, t, e1, Nat.le_trans h.base e2, e3⟩
      | row t xs =>
        rcases h3 with h3 | ⟨b, o, c, arr, e, e1, e2, e3⟩
        · exact .inl h3
        · exact .inr ⟨b, o, c, arr, e, e1, Nat.le_trans h.base e2, e3⟩
  · have old : ∀ {i blk v b}, fR i = none → over fR fH i = some blk → (if (fR i).isSome then ρr i else ρ i) = some v → ownB v = some b → fH i = some blk ∧ ρ i = some v ∧ b < w.heap.size := by
      intro i blk v b hf e1 e2 e3
      rw [over_none hf] at e1
      rw [hrm hf] at e2
      obtain ⟨u, h1, h2⟩ := h.blks i blk e1
      rw [e2] at h1
      obtain rfl := Option.some.inj h1
      exact ⟨e1, e2, (h2.lt e3).1⟩
    have new : ∀ {i b' v b}, fR i = some b' → (if (fR i).isSome then ρr i else ρ i) = some v → ownB v = some b → ρr i = some v ∧ w.heap.size ≤ b := by
      intro i b' v b hf e2 e3
      rw [hrs hf] at e2
      obtain ⟨u, h1, h2⟩ := hb i b' hf
      rw [e2] at h1
      obtain rfl := Option.some.inj h1
      exact ⟨e2, (h2.lt e3).2⟩
    intro e6
    cases hfi : fR i with
    | none =>
      obtain ⟨a1, a2, a3⟩ := old hfi e1 e3 e5
      cases hfj : fR j with
      | none =>
        obtain ⟨b1, b2, b3⟩ := old hfj e2 e4 e6
        exact h.inj i j bi bj vi vj b hne a1 b1 a2 b2 e5 e6
      | some b' =>
        obtain ⟨b1, b2⟩ := new hfj e4 e6
        omega
    | some b'' =>
      obtain ⟨a1, a2⟩ := new hfi e3 e5
      cases hfj : fR j with
      | none =>
        obtain ⟨b1, b2, b3⟩ := old hfj e2 e4 e6
        omega
      | some b' =>
        obtain ⟨b1, b2⟩ := new hfj e4 e6
        exact hi i j b'' b' vi vj b hne hfi hfj a1 b1 e5 e6
  · refine ⟨?_, by rw [over_none e2]; exact (h.fresh j e1).2⟩
    show (if (fR j).isSome then ρr j else ρ j) = none
    rw [hrm e2]
    exact (h.fresh j e1).1
  · replace e : (if (fR i).isSome then ρr i else ρ i) = some v := e
    cases hf : fR i with
    | none => rw [hrm hf] at e; exact h.shape i v e
    | some b => rw [hrs hf] at e; exact (hsh i v e).1
end
end Go.Proofs.YtkdohmgacodhjaaPx
