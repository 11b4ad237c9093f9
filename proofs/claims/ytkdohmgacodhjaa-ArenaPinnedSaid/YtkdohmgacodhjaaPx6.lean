/- Own rows let go, own blocks written, and what an operand is; no condition. -/
import Derived.Test.YtkdohmgacodhjaaPx5
set_option linter.unusedVariables false
set_option linter.unusedSimpArgs false
namespace Go.Proofs.YtkdohmgacodhjaaPx
open Go.RowKit

def dropsF (ds : List Nat) (fH : Nat → Option Blk) : Nat → Option Blk := fun i => if i ∈ ds then none else fH i

def applyW : List (Nat × Option Blk) → (Nat → Option Blk) → Nat → Option Blk
  | [], f => f
  | (i, x) :: r, f => applyW r (upd f i x)

theorem applyW_append (l l' : List (Nat × Option Blk)) (f : Nat → Option Blk) : applyW (l ++ l') f = applyW l' (applyW l f) := by
  induction l generalizing f with
  | nil => rfl
  | cons p l ih => obtain ⟨i, x⟩ := p; exact ih _

theorem applyW_drops (ds : List Nat) (f : Nat → Option Blk) : applyW (ds.map fun d => (d, none)) f = dropsF ds f := by
  induction ds generalizing f with
  | nil => funext i; simp [applyW, dropsF]
  | cons d ds ih =>
    simp only [List.map_cons, applyW]
    rw [ih]
    funext i
    simp only [dropsF, upd, List.mem_cons]
    by_cases h1 : i ∈ ds
    · simp [h1]
    · by_cases h2 : i = d <;> simp [h1, h2]

theorem dropsF_cons (d : Nat) (ds : List Nat) (f : Nat → Option Blk) : dropsF (d :: ds) f = dropsF ds (upd f d none) := by
  rw [← applyW_drops, ← applyW_drops]; rfl

theorem dropsF_append (ds es : List Nat) (f : Nat → Option Blk) : dropsF (ds ++ es) f = dropsF es (dropsF ds f) := by
  funext i
  simp only [dropsF, List.mem_append]
  by_cases h1 : i ∈ es <;> by_cases h2 : i ∈ ds <;> simp [h1, h2]

section
variable {S : Nat → Prop} {w0 : World} {n : Nat} {fr fr' : Nat → Prop} {fE : Nat → Option SV} {fH fH' : Nat → Option Blk} {ρ : Nat → Option Value} {a : Act} {w w' : World} {P : Program}

theorem Holds.drops (h : Holds S w0 n fr fE fH ρ a w) (ds : List Nat) : Holds S w0 n fr fE (dropsF ds fH) ρ a w := by
  induction ds generalizing fH with
  | nil =>
    have : dropsF [] fH = fH := by funext i; simp [dropsF]
    rw [this]; exact h
  | cons d ds ih => rw [dropsF_cons]; exact ih (h.drop d)

theorem Al.drops (ds : List Nat) {b : Nat} (h : Al S fH ρ b) : Al S (dropsF ds fH) ρ b :=
  ⟨h.1, fun i blk v e e' => by
    simp only [dropsF] at e
    split at e
    · simp at e
    · exact h.2 i blk v e e'⟩

theorem Step.drops (ds : List Nat) : Step (Al S fH ρ) w (Al S (dropsF ds fH) ρ) w := fun _ _ _ ha hv => ⟨ha.drops ds, hv⟩

/-- An own row that is let go is a slice that is read. -/
theorem Holds.seal_row (h : Holds S w0 n fr fE fH ρ a w) {i : Nat} {t : Ty} {xs : List t.D} {v : Value} (hi : fH i = some (.row t xs)) (hv : ρ i = some v) {ds : List Nat} (hd : i ∈ ds) :
    RI (Al S (dropsF ds fH) ρ) w t v xs := by
  obtain ⟨v', h1, h2⟩ := h.blks i _ hi
  rw [hv] at h1
  obtain rfl := Option.some.inj h1
  rcases h2 with ⟨rfl, rfl⟩ | ⟨b, o, c, arr, e, rfl, hB, hc, hb, hs, hr⟩
  · exact RI.nil _ _ _ _ _
  · refine ⟨_, c, rfl, hc, fun hp => ⟨b, o, rfl, ?_, fun k hk => ?_⟩⟩
    · refine ⟨h.new b hB, fun j bj vj ej eρ => ?_⟩
      simp only [dropsF] at ej
      split at ej
      · simp at ej
      · rename_i hj
        exact h.inj i j _ bj _ vj b (fun e => hj (e ▸ hd)) hi ej hv eρ rfl
    · exact DenC.step (Step.drops ds) t _ _ _ (fun j v _ e => by rw [cell_of hb]; exact e) (hr k hk)

theorem RI.cut {A : Nat → Prop} {t : Ty} {p : Option Addr} {m c : Nat} {xs : List t.D} {l r : Nat} (h : RI A w t (.slice p m c) xs) (hl : l ≤ r) (hr : r ≤ xs.length) : RI A w t (.slice (if c = l then p else p.map (·.add (l * t.size))) (r - l) (c - l)) (cut xs l r) := by
  obtain ⟨p', c', e, hc, hd⟩ := RI.shape h
  simp only [Value.slice.injEq] at e
  obtain ⟨rfl, rfl, rfl⟩ := e
  have hlen : (Go.Proofs.YtkdohmgacodhjaaPx.cut xs l r).length = r - l := by simp only [Go.Proofs.YtkdohmgacodhjaaPx.cut, List.length_drop, List.length_take]; omega
  refine ⟨_, c - l, by rw [hlen], by rw [hlen]; omega, fun hp => ?_⟩
  rw [hlen] at hp
  obtain ⟨b, o, rfl, hA, hd⟩ := hd (by omega)
  rw [if_neg (by omega)]
  refine ⟨b, o + l * t.size, by simp [add_pl], hA, fun i hi => ?_⟩
  have hi' : i < r - l := by rw [hlen] at hi; exact hi
  have e1 : (Go.Proofs.YtkdohmgacodhjaaPx.cut xs l r)[i]'hi = xs[l + i]'(by omega) := by simp [Go.Proofs.YtkdohmgacodhjaaPx.cut]
  rw [e1]
  have := hd (l + i) (by omega)
  simpa [Nat.add_mul, Nat.add_assoc] using this

theorem sealS_sound {α : Type} {k : Sc → List Nat → RM α} {e : α} (h : Holds S w0 n fr fE fH ρ a w) {s : Sc} {v : Value} (hs : s.Den (Al S fH ρ) w ρ v) (he : (sealS s k).Ev fE fH e) :
    ∃ s' ds, (k s' ds).Ev fE fH e ∧ ∀ es, (∀ d ∈ ds, d ∈ es) → s'.Den (Al S (dropsF es fH) ρ) w ρ v := by
  unfold sealS at he
  cases s with
  | row i =>
    obtain ⟨b, hb, he⟩ := he
    cases b with
    | row t xs => exact ⟨_, _, he, fun es hd => h.seal_row hb hs (hd i (by simp))⟩
    | box cs => exact he.elim
  | vw i t l r =>
    obtain ⟨b, hb, he⟩ := he
    cases b with
    | box cs => exact he.elim
    | row t' xs =>
      simp only [] at he
      split at he
      · rename_i e1
        subst e1
        obtain ⟨p, n', c, h1, h2, h3, h4, rfl⟩ := hs
        refine ⟨_, _, he, fun es hd => ?_⟩
        have := h.seal_row hb h1 (hd i (by simp))
        obtain ⟨p', c', e, _⟩ := RI.shape this
        simp only [Value.slice.injEq] at e
        exact RI.cut this h2 (by rw [← e.2.1]; exact h3)
      · exact he.elim
  | int p q => exact ⟨_, _, he, fun es _ => hs.step (Step.drops es) (Ext.refl _)⟩
  | bool p => exact ⟨_, _, he, fun es _ => hs.step (Step.drops es) (Ext.refl _)⟩
  | sl t xs => exact ⟨_, _, he, fun es _ => hs.step (Step.drops es) (Ext.refl _)⟩
  | nil => exact ⟨_, _, he, fun es _ => hs.step (Step.drops es) (Ext.refl _)⟩
  | _ => exact he.elim

theorem sealL_sound {α : Type} {e : α} (h : Holds S w0 n fr fE fH ρ a w) : ∀ {ss : List Sc} {vs : List Value} {k : List Sc → List Nat → RM α}, DenL (Al S fH ρ) w ρ ss vs → (sealL ss k).Ev fE fH e →
    ∃ ss' ds, (k ss' ds).Ev fE fH e ∧ ∀ es, (∀ d ∈ ds, d ∈ es) → DenL (Al S (dropsF es fH) ρ) w ρ ss' vs
  | [], [], k, _, he => ⟨[], [], he, fun _ _ => trivial⟩
  | s :: ss, v :: vs, k, hd, he => by
    obtain ⟨s', ds, he, h1⟩ := sealS_sound h hd.1 he
    obtain ⟨ss', es, he, h2⟩ := sealL_sound h hd.2 he
    exact ⟨_, _, he, fun fs hf => ⟨h1 fs fun d q => hf d (by simp [q]), h2 fs fun d q => hf d (by simp [q])⟩⟩
  | [], _ :: _, _, hd, _ => hd.elim
  | _ :: _, [], _, hd, _ => hd.elim

theorem sealVs_sound {α : Type} {e : α} (h : Holds S w0 n fr fE fH ρ a w) : ∀ {ss : List V1} {vs : List Value} {k : List V1 → List Nat → RM α}, DenVs (Al S fH ρ) w ρ ss vs → (sealVs ss k).Ev fE fH e →
    ∃ ss' ds, (k ss' ds).Ev fE fH e ∧ ∀ es, (∀ d ∈ ds, d ∈ es) → DenVs (Al S (dropsF es fH) ρ) w ρ ss' vs
  | [], [], k, _, he => ⟨[], [], he, fun _ _ => trivial⟩
  | .one s :: ss, v :: vs, k, hd, he => by
    obtain ⟨s', ds, he, h1⟩ := sealS_sound h hd.1 he
    obtain ⟨ss', es, he, h2⟩ := sealVs_sound h hd.2 he
    exact ⟨_, _, he, fun fs hf => ⟨h1 fs fun d q => hf d (by simp [q]), h2 fs fun d q => hf d (by simp [q])⟩⟩
  | .agg cs :: ss, v :: vs, k, hd, he => by
    obtain ⟨us, rfl, hc⟩ := hd.1
    obtain ⟨s', ds, he, h1⟩ := sealL_sound h hc he
    obtain ⟨ss', es, he, h2⟩ := sealVs_sound h hd.2 he
    exact ⟨_, _, he, fun fs hf => ⟨⟨us, rfl, h1 fs fun d q => hf d (by simp [q])⟩, h2 fs fun d q => hf d (by simp [q])⟩⟩
  | [], _ :: _, _, hd, _ => hd.elim
  | _ :: _, [], _, hd, _ => hd.elim

theorem DenL.drop : ∀ {A : Nat → Prop} {ss : List Sc} {vs : List Value} (k : Nat), DenL A w ρ ss vs → DenL A w ρ (ss.drop k) (vs.drop k)
  | _, _, _, 0, h => h
  | _, [], [], _ + 1, _ => trivial
  | _, _ :: _, _ :: _, k + 1, h => DenL.drop k h.2
  | _, [], _ :: _, _ + 1, h => h.elim
  | _, _ :: _, [], _ + 1, h => h.elim
theorem DenL.take : ∀ {A : Nat → Prop} {ss : List Sc} {vs : List Value} (k : Nat), DenL A w ρ ss vs → DenL A w ρ (ss.take k) (vs.take k)
  | _, _, _, 0, _ => trivial
  | _, [], [], _ + 1, _ => trivial
  | _, _ :: _, _ :: _, k + 1, h => ⟨h.1, DenL.take k h.2⟩
  | _, [], _ :: _, _ + 1, h => h.elim
  | _, _ :: _, [], _ + 1, h => h.elim

theorem take_drop_get {β : Type} {l : List β} {o m j : Nat} {u : β} (h : ((l.drop o).take m)[j]? = some u) : l[o + j]? = some u := by
  rw [List.getElem?_take] at h
  split at h
  · rwa [List.getElem?_drop] at h
  · simp at h

/-- A box that is let go is a datum that is read. -/
theorem sealRef_sound {α : Type} {e : α} (h : Holds S w0 n fr fE fH ρ a w) {t : Ty} {i o b : Nat} {k : t.D → List Nat → RM α} (hρ : ρ i = some (.pointer (some (pl b 0)))) (he : (sealRef t i o k).Ev fE fH e) :
    ∃ y ds, (k y ds).Ev fE fH e ∧ ∀ es, (∀ d ∈ ds, d ∈ es) → Al S (dropsF es fH) ρ b ∧ DenC (Al S (dropsF es fH) ρ) w t y (fun j => w.cell? (pl b (o + j))) := by
  obtain ⟨blk, hb, he⟩ := he
  cases blk with
  | row _ _ => exact he.elim
  | box cs =>
    obtain ⟨v', e1, b', arr, et, rfl, hB, hh, hd⟩ := h.blks i _ hb
    rw [hρ] at e1
    simp only [Option.some.injEq, Value.pointer.injEq, Addr.mk.injEq, and_true] at e1
    subst e1
    obtain ⟨ys, ds, he, hys⟩ := sealL_sound h ((hd.drop o).take t.size) he
    split at he
    · rename_i y hy
      refine ⟨y, i :: ds, he, fun es hes => ⟨⟨h.new b hB, fun j bj vj ej eρ => ?_⟩, ?_⟩⟩
      · simp only [dropsF] at ej
        split at ej
        · simp at ej
        · rename_i hj
          exact h.inj i j _ bj _ vj b (fun e => hj (e ▸ hes i (by simp))) hb ej hρ eρ rfl
      · obtain ⟨v1, v2, hv12, d1, d2⟩ := ofCells_den _ _ _ _ _ hy (hys es fun d q => hes d (by simp [q]))
        have : v2 = [] := by cases v2 with | nil => rfl | cons => exact d2.elim
        subst this
        simp only [List.append_nil] at hv12
        refine DenC.step (w := w) (fun b o v ha hv => ⟨ha, hv⟩) t y _ _ (fun j u _ e => ?_) (DenC.of_list t y v1 d1)
        rw [← hv12] at e
        have : arr.toList[o + j]? = some u := take_drop_get e
        rw [cell_of hh]
        simpa using this
    · exact he.elim

theorem DenC.pair_list {A : Nat → Prop} {s t : Ty} {x : s.D} {y : t.D} {us vs : List Value} (hx : DenC A w s x (fun j => us[j]?)) (hl : us.length = s.size) (hy : DenC A w t y (fun j => vs[j]?)) : DenC A w (.pair s t) (x, y) (fun j => (us ++ vs)[j]?) := by
  refine ⟨DenC.step Step.refl s x _ _ (fun j v hj e => ?_) hx, DenC.step Step.refl t y _ _ (fun j v _ e => ?_) hy⟩
  · show (us ++ vs)[j]? = some v
    rw [List.getElem?_append_left (by omega)]; exact e
  · show (us ++ vs)[s.size + j]? = some v
    rw [List.getElem?_append_right (by omega), hl, Nat.add_sub_cancel_left]; exact e

theorem sealCaps_sound {α : Type} {e : α} (h : Holds S w0 n fr fE fH ρ a w) : ∀ {t : Ty} {caps : List (Nat × Nat)} {vs : List Value} {k : t.D → List Nat → RM α}, vs.length = caps.length →
    (∀ (i : Nat) (io : Nat × Nat), caps[i]? = some io → ∃ b, ρ io.1 = some (Value.pointer (some (pl b 0))) ∧ vs[i]? = some (Value.pointer (some (pl b io.2)))) → (sealCaps t caps k).Ev fE fH e →
    ∃ y ds, (k y ds).Ev fE fH e ∧ vs.length = t.size ∧ ∀ es, (∀ d ∈ ds, d ∈ es) → DenC (Al S (dropsF es fH) ρ) w t y (fun j => vs[j]?)
  | .ref t, (i, o) :: [], vs, k, hl, hc, he => by
    obtain ⟨b, h1, h2⟩ := hc 0 (i, o) rfl
    simp only [sealCaps] at he
    obtain ⟨y, ds, he, hd⟩ := sealRef_sound h h1 he
    refine ⟨y, ds, he, hl, fun es hes => ?_⟩
    obtain ⟨g1, g2⟩ := hd es hes
    exact ⟨b, o, h2, g1, g2⟩
  | .pair (.ref t) b, (i, o) :: l, vs, k, hl, hc, he => by
    obtain ⟨bb, h1, h2⟩ := hc 0 (i, o) rfl
    simp only [sealCaps] at he
    obtain ⟨y, ds, he, hd⟩ := sealRef_sound h h1 he
    match vs, hl, hc, h2 with
    | v :: vs, hl, hc, h2 =>
      obtain ⟨z, es, he, hl2, hz⟩ := sealCaps_sound h (t := b) (caps := l) (vs := vs) (by simpa using hl) (fun j io e => hc (j + 1) io (by simpa using e)) he
      refine ⟨(y, z), _, he, by simp [Ty.size, hl2]; omega, fun fs hfs => ?_⟩
      obtain ⟨g1, g2⟩ := hd fs fun d q => hfs d (by simp [q])
      have g3 := hz fs fun d q => hfs d (by simp [q])
      refine DenC.pair_list (us := [v]) (s := .ref t) (t := b) (x := y) (y := z) ⟨bb, o, by simpa using h2, g1, g2⟩ rfl g3
  | .int, _, _, _, _, _, he => by simp [sealCaps] at he; exact he.elim
  | .bool, _, _, _, _, _, he => by simp [sealCaps] at he; exact he.elim
  | .sl _, _, _, _, _, _, he => by simp [sealCaps] at he; exact he.elim
  | .clo _ _, _, _, _, _, _, he => by simp [sealCaps] at he; exact he.elim
  | .fn _, _, _, _, _, _, he => by simp [sealCaps] at he; exact he.elim
  | .num _, _, _, _, _, _, he => by simp [sealCaps] at he; exact he.elim
  | .ref _, [], _, _, _, _, he => by simp [sealCaps] at he; exact he.elim
  | .ref _, _ :: _ :: _, _, _, _, _, he => by simp [sealCaps] at he; exact he.elim
  | .pair (.ref _) _, [], _, _, _, _, he => by simp [sealCaps] at he; exact he.elim
  | .pair .int _, _, _, _, _, _, he => by simp [sealCaps] at he; exact he.elim
  | .pair .bool _, _, _, _, _, _, he => by simp [sealCaps] at he; exact he.elim
  | .pair (.pair _ _) _, _, _, _, _, _, he => by simp [sealCaps] at he; exact he.elim
  | .pair (.sl _) _, _, _, _, _, _, he => by simp [sealCaps] at he; exact he.elim
  | .pair (.clo _ _) _, _, _, _, _, _, he => by simp [sealCaps] at he; exact he.elim
  | .pair (.fn _) _, _, _, _, _, _, he => by simp [sealCaps] at he; exact he.elim
  | .pair (.num _) _, _, _, _, _, _, he => by simp [sealCaps] at he; exact he.elim

theorem sealA_sound {α : Type} {e : α} (h : Holds S w0 n fr fE fH ρ a w) {vt : VT} {x : V1} {v : Value} {k : V1 → List Nat → RM α} (hx : x.Den (Al S fH ρ) w ρ v) (he : (sealA vt x k).Ev fE fH e) :
    ∃ x' ds, (k x' ds).Ev fE fH e ∧ ∀ es, (∀ d ∈ ds, d ∈ es) → x'.Den (Al S (dropsF es fH) ρ) w ρ v := by
  unfold sealA at he
  split at he
  · rename_i t i o _
    obtain ⟨b, h1, h2⟩ := hx
    obtain ⟨y, ds, he, hd⟩ := sealRef_sound h h1 he
    exact ⟨_, _, he, fun es hes => ⟨b, o, h2, hd es hes⟩⟩
  · exact ⟨_, _, he, fun es _ => hx.step (Step.drops es) (Ext.refl _)⟩
  · rename_i g t f caps _
    obtain ⟨vs, h1, h2, h3⟩ := hx
    obtain ⟨y, ds, he, hl, hd⟩ := sealCaps_sound h h2 h3 he
    exact ⟨_, _, he, fun es hes => ⟨vs, h1, hl, hd es hes⟩⟩
  · exact ⟨_, _, he, fun es _ => hx.step (Step.drops es) (Ext.refl _)⟩
  · exact ⟨_, _, he, fun es _ => hx.step (Step.drops es) (Ext.refl _)⟩
  · obtain ⟨s', ds, he, h1⟩ := sealS_sound h hx he
    exact ⟨_, _, he, fun es hes => h1 es hes⟩
  · obtain ⟨us, hv, hc⟩ := hx
    obtain ⟨s', ds, he, h1⟩ := sealL_sound h hc he
    exact ⟨_, _, he, fun es hes => ⟨us, hv, h1 es hes⟩⟩

theorem sealAs_sound {α : Type} {e : α} (h : Holds S w0 n fr fE fH ρ a w) : ∀ {l : List VT} {ss : List V1} {vs : List Value} {k : List V1 → List Nat → RM α}, DenVs (Al S fH ρ) w ρ ss vs → (sealAs l ss k).Ev fE fH e →
    ∃ ss' ds, (k ss' ds).Ev fE fH e ∧ ∀ es, (∀ d ∈ ds, d ∈ es) → DenVs (Al S (dropsF es fH) ρ) w ρ ss' vs
  | [], [], [], k, _, he => ⟨[], [], he, fun _ _ => trivial⟩
  | t :: l, s :: ss, v :: vs, k, hd, he => by
    obtain ⟨s', ds, he, h1⟩ := sealA_sound h hd.1 he
    obtain ⟨ss', es, he, h2⟩ := sealAs_sound h hd.2 he
    exact ⟨_, _, he, fun fs hf => ⟨h1 fs fun d q => hf d (by simp [q]), h2 fs fun d q => hf d (by simp [q])⟩⟩
  | [], _ :: _, _, _, _, he => he.elim
  | _ :: _, [], _, _, _, he => he.elim
  | _, [], _ :: _, _, hd, _ => hd.elim
  | _, _ :: _, [], _, hd, _ => hd.elim

/-! ### Operands -/
theorem ev_sound {α : Type} {e : α} (h : Holds S w0 n fr fE fH ρ a w) {o : Operand} {k : SV → RM α} (he : (ev o k).Ev fE fH e) :
    ∃ sv, sv.Den (Al S fH ρ) w ρ (a.eval o) ∧ (k sv).Ev fE fH e := by
  unfold ev at he
  cases o with
  | tmp t => obtain ⟨sv, h1, h2⟩ := he; exact ⟨sv, (h.tmps t sv h1).2, h2⟩
  | const v =>
    simp only [] at he
    split at he
    · rename_i s hs; exact ⟨s, constSV_den hs, he⟩
    · exact he.elim
  | func f => exact ⟨.val (.one (.func f [])), ⟨[], rfl, rfl, fun i io e => by simp at e⟩, he⟩
  | global g => exact he.elim

theorem evS_sound {α : Type} {e : α} (h : Holds S w0 n fr fE fH ρ a w) {o : Operand} {k : Sc → RM α} (he : (evS o k).Ev fE fH e) :
    ∃ s, s.Den (Al S fH ρ) w ρ (a.eval o) ∧ (k s).Ev fE fH e := by
  obtain ⟨sv, hd, he⟩ := ev_sound h he
  split at he
  · exact ⟨_, hd, he⟩
  · exact he.elim

theorem evI_sound {α : Type} {e : α} (h : Holds S w0 n fr fE fH ρ a w) {o : Operand} {k : IntKind → Int → RM α} (he : (evI o k).Ev fE fH e) :
    ∃ q m, a.eval o = .int q m ∧ (k q m).Ev fE fH e := by
  obtain ⟨s, hd, he⟩ := evS_sound h he
  split at he
  · exact ⟨_, _, hd, he⟩
  · exact he.elim

theorem evV_sound {α : Type} {e : α} (h : Holds S w0 n fr fE fH ρ a w) {o : Operand} {k : V1 → RM α} (he : (evV o k).Ev fE fH e) :
    ∃ s, s.Den (Al S fH ρ) w ρ (a.eval o) ∧ (k s).Ev fE fH e := by
  obtain ⟨sv, hd, he⟩ := ev_sound h he
  split at he
  · exact ⟨_, hd, he⟩
  · exact he.elim

theorem evL_sound {α : Type} {e : α} (h : Holds S w0 n fr fE fH ρ a w) : ∀ {os : List Operand} {k : List V1 → RM α}, (evL os k).Ev fE fH e →
    ∃ ss, DenVs (Al S fH ρ) w ρ ss (os.map a.eval) ∧ (k ss).Ev fE fH e
  | [], k, he => ⟨[], trivial, he⟩
  | o :: os, k, he => by
    obtain ⟨s, hd, he⟩ := evV_sound h he
    obtain ⟨ss, hds, he⟩ := evL_sound h he
    exact ⟨s :: ss, ⟨hd, hds⟩, he⟩

theorem pick_sound {α : Type} {e : α} {i : Int} : ∀ {len : Nat} {k : Nat → RM α}, (pick i len k).Ev fE fH e → ∃ m, m < len ∧ i = m ∧ (k m).Ev fE fH e
  | 0, _, h => h.elim
  | n + 1, k, h => by
    rcases h with ⟨h1, h2⟩ | ⟨h1, h2⟩
    · exact ⟨n, by omega, of_decide_eq_true h1, h2⟩
    · obtain ⟨m, hm, e, h⟩ := pick_sound h2
      exact ⟨m, by omega, e, h⟩

/-! ### What an operation leaves -/
/-- Behind an operation: a value, a world, and names for what is new. -/
def After (S : Nat → Prop) (w0 : World) (n : Nat) (fr : Nat → Prop) (fE : Nat → Option SV) (fH : Nat → Option Blk) (a : Act) (sv : SV) (v : Value) (w : World) : Prop :=
  ∃ ρ, Holds S w0 n fr fE fH ρ a w ∧ sv.Den (Al S fH ρ) w ρ v

/-- The names that operation 'id' may give are taken. -/
def lessF (fr : Nat → Prop) (id : Nat) : Nat → Prop := fun j => fr j ∧ ¬ (id ≤ j ∧ j < id + 32)

theorem mkVal_sound {α : Type} {e : α} {A : Nat → Prop} {ag : Bool} {m : Nat} {cs : List Sc} {k : SV → RM α} {vs : List Value} (hd : DenL A w ρ cs vs) (he : (mkVal ag m cs k).Ev fE fH e) (hm : ag = false → m = 1) :
    ∃ sv, sv.Den A w ρ (valOf ag vs) ∧ vs.length = m ∧ (k sv).Ev fE fH e := by
  unfold mkVal at he
  split at he
  · rename_i hl
    cases ag with
    | true => exact ⟨.val (.agg cs), ⟨vs, rfl, hd⟩, by rw [← hd.length, hl], he⟩
    | false =>
      simp only [Bool.false_eq_true, if_false] at he
      match cs, vs, hd, he with
      | [s], [v], hd, he => exact ⟨.val (.one s), hd.1, by simpa using hl, he⟩
  · exact he.elim

theorem aLoad_sound {α : Type} {e : α} (h : Holds S w0 n fr fE fH ρ a w) {t : TypeId} {p : Sc} {v : Value} {k : SV → RM α} (hp : p.Den (Al S fH ρ) w ρ v) (he : (aLoad P t p k).Ev fE fH e) :
    ∃ sv u, (Instr.loadAt t v).run P w = .ok u w ∧ sv.Den (Al S fH ρ) w ρ u ∧ (k sv).Ev fE fH e := by
  unfold aLoad at he
  split at he
  · rename_i ag sz h1 h2
    have fin : ∀ (b q : Nat) (cs : List Sc) (vs : List Value), v = .pointer (some (pl b q)) → DenL (Al S fH ρ) w ρ cs vs → (∀ j u, vs[j]? = some u → w.cell? (pl b (q + j)) = some u) →
        (mkVal ag (if ag then sz else 1) cs k).Ev fE fH e → ∃ sv u, (Instr.loadAt t v).run P w = .ok u w ∧ sv.Den (Al S fH ρ) w ρ u ∧ (k sv).Ev fE fH e := by
      intro b q cs vs hv hd hc he
      obtain ⟨sv, hsv, hl, he⟩ := mkVal_sound hd he (by intro e; simp [e])
      refine ⟨sv, _, ?_, hsv, he⟩
      subst hv
      simp only [Instr.loadAt, Instr.sureAddr, Sem.run_bind, Sem.run_pure, Result.andThen_ok]
      exact run_loadVar h1 h2 b q vs hl hc
    cases p with
    | ptr i o =>
      obtain ⟨blk, hb, he⟩ := he
      cases blk with
      | row _ _ => exact he.elim
      | box cs =>
        obtain ⟨b, hρ, hv⟩ := hp
        obtain ⟨v', e1, b', arr, et, rfl, hB, hh, hd⟩ := h.blks i _ hb
        rw [hρ] at e1
        simp only [Option.some.injEq, Value.pointer.injEq, Addr.mk.injEq, and_true] at e1
        subst e1
        refine fin b o _ _ hv ((hd.drop o).take _) (fun j u hu => ?_) he
        have : arr.toList[o + j]? = some u := take_drop_get hu
        rw [cell_of hh]
        simpa using this
    | rp i t' q j =>
      obtain ⟨blk, hb, he⟩ := he
      cases blk with
      | box _ => exact he.elim
      | row t'' xs =>
        simp only [] at he
        split at he
        · rename_i et
          subst et
          obtain ⟨b, o, m, c, hρ, hq, hv⟩ := hp
          obtain ⟨v', e1, e2⟩ := h.blks i _ hb
          rw [hρ] at e1
          obtain rfl := Option.some.inj e1
          rcases e2 with ⟨e2, _⟩ | ⟨b', o', c', arr, et, e2, hB, hc, hh, hs, hr⟩
          · simp at e2
          · simp only [Value.slice.injEq, Option.some.injEq, Addr.mk.injEq, and_true] at e2
            obtain ⟨⟨rfl, rfl⟩, rfl, rfl⟩ := e2
            obtain ⟨vs, hd, hg⟩ := DenC.list (ρ := ρ) _ _ _ (hr q hq)
            rw [show xs.getD q t'.dflt = xs[q]'hq by simp [List.getD_eq_getElem?_getD, hq]] at he
            refine fin b _ _ _ hv ((hd.drop j).take _) (fun j' u hu => ?_) he
            have : vs[j + j']? = some u := take_drop_get hu
            rw [cell_of hh]
            have := hg _ _ this
            rw [show o + (q * t'.size + j) + j' = o + (q * t'.size + (j + j')) by omega]
            exact this
        · exact he.elim
    | ep t' x j =>
      obtain ⟨b, o, hv, hA, hr⟩ := hp
      obtain ⟨vs, hd, hg⟩ := DenC.list (ρ := ρ) _ _ _ hr
      refine fin b _ _ _ hv ((hd.drop j).take _) (fun j' u hu => ?_) he
      have : vs[j + j']? = some u := take_drop_get hu
      have := hg _ _ this
      rw [show o + j + j' = o + (j + j') by omega]
      exact this
    | _ => exact he.elim
  · exact he.elim

theorem setL_get (cs xs : List Sc) (o : Nat) (h : o + xs.length ≤ cs.length) (j : Nat) : (setL cs o xs)[j]? = if o ≤ j ∧ j < o + xs.length then xs[j - o]? else cs[j]? := by
  unfold setL
  have hl : (cs.take o).length = o := by rw [List.length_take]; omega
  rw [List.append_assoc, List.getElem?_append]
  split
  · rename_i hj
    rw [hl] at hj
    rw [List.getElem?_take_of_lt hj, if_neg (by omega)]
  · rename_i hj
    rw [hl] at hj ⊢
    rw [List.getElem?_append]
    split
    · rename_i hj2
      rw [if_pos (by omega)]
    · rename_i hj2
      rw [if_neg (by omega), List.getElem?_drop]
      congr 1
      omega

theorem setL_length (cs xs : List Sc) (o : Nat) (h : o + xs.length ≤ cs.length) : (setL cs o xs).length = cs.length := by
  unfold setL
  simp only [List.length_append, List.length_take, List.length_drop]
  omega

theorem DenL.set {A A' : Nat → Prop} {w' : World} {cs xs : List Sc} {vs : List Value} {arr : Array Value} {o : Nat} (hs : Step A w A' w') (hc : DenL A w ρ cs arr.toList) (hx : DenL A w ρ xs vs) (h : o + xs.length ≤ cs.length) :
    DenL A' w' ρ (setL cs o xs) (putA arr o vs).toList := by
  have hl : cs.length = arr.size := by have := hc.length; simpa using this
  have hl2 := hx.length
  refine DenL.of_get (by rw [setL_length _ _ _ h]; simp [putA_size, hl]) fun i s v e e' => ?_
  rw [setL_get _ _ _ h] at e
  rw [Array.getElem?_toList, putA_get _ _ _ (by omega)] at e'
  rw [hl2] at e
  split at e
  · rename_i hi
    rw [if_pos hi] at e'
    obtain ⟨u, hu, hd⟩ := hx.get e
    rw [e'] at hu
    exact (Option.some.inj hu) ▸ hd.step hs (Ext.refl _)
  · rename_i hi
    rw [if_neg hi] at e'
    obtain ⟨u, hu, hd⟩ := hc.get e
    rw [Array.getElem?_toList, e'] at hu
    exact (Option.some.inj hu) ▸ hd.step hs (Ext.refl _)
end
end Go.Proofs.YtkdohmgacodhjaaPx
