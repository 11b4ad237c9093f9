/- Slices cut, appended to, measured: each operation leaves what 'aop' says; no condition. -/
import Derived.Test.YtkdohmgacodhjaaPx9
set_option linter.unusedVariables false
set_option linter.unusedSimpArgs false
namespace Go.Proofs.YtkdohmgacodhjaaPx
open Go.RowKit

section
variable {S : Nat → Prop} {w0 : World} {n : Nat} {fr fr' : Nat → Prop} {fE : Nat → Option SV} {fH fH' : Nat → Option Blk} {ρ : Nat → Option Value} {a : Act} {w w' : World} {P : Program}

theorem bound_sound {α : Type} {e : α} {i : Int} {lo hi : Nat} {x : RM α} (h : (bound i lo hi x).Ev fE fH e) : (lo : Int) ≤ i ∧ i ≤ hi ∧ x.Ev fE fH e := by
  rcases h with ⟨h0, h⟩ | ⟨_, h⟩
  · rcases h with ⟨h1, h⟩ | ⟨_, h⟩
    · exact ⟨of_decide_eq_true h0, of_decide_eq_true h1, h⟩
    · exact h.elim
  · exact h.elim

theorem bounds_sound {α : Type} {e : α} (h : Holds S w0 n fr fE fH ρ a w) {len cap : Nat} {lo hi : Option Operand} {k : Nat → Nat → RM α} (hlc : len ≤ cap) (he : (bounds len lo hi k).Ev fE fH e) :
    ∃ l t, l ≤ t ∧ t ≤ len ∧ (Instr.sliceBounds true len cap (lo.map a.eval) (hi.map a.eval) none).run P w = .ok (l, t, cap) w ∧ (k l t).Ev fE fH e := by
  have low : ∀ t, t ≤ len → (lowB lo t k).Ev fE fH e →
      ∃ l, l ≤ t ∧ (k l t).Ev fE fH e ∧ (match lo.map a.eval with | some v => Instr.sliceBound v t .sliceB | none => pure 0 : Sem Nat).run P w = .ok l w := by
    intro t ht he
    cases lo with
    | none => exact ⟨0, Nat.zero_le _, he, rfl⟩
    | some o =>
      obtain ⟨q, m, hm, he⟩ := evI_sound h he
      obtain ⟨h0, h1, he⟩ := bound_sound he
      refine ⟨m.toNat, by omega, he, ?_⟩
      simp only [Option.map_some, hm, Instr.sliceBound, asIntOf, Sem.run_bind, Sem.run_pure, Result.andThen_ok]
      rw [if_pos ⟨by omega, h1⟩]
      rfl
  unfold bounds at he
  cases hi with
  | none =>
    obtain ⟨l, hl, he, hr⟩ := low len (Nat.le_refl _) he
    refine ⟨l, len, hl, Nat.le_refl _, ?_, he⟩
    cases lo with
    | none =>
      simp only [Option.map_none, Sem.run_pure] at hr
      obtain rfl : (0 : Nat) = l := by injection hr
      rfl
    | some o =>
      simp only [Option.map_some] at hr
      simp only [Instr.sliceBounds, Option.map_none, Option.map_some, Sem.run_bind, Sem.run_pure, Result.andThen_ok, Option.isSome_none, Bool.false_eq_true, if_false, hr]
  | some o =>
    obtain ⟨q, m, hm, he⟩ := evI_sound h he
    obtain ⟨h0, h1, he⟩ := bound_sound he
    obtain ⟨l, hl, he, hr⟩ := low m.toNat (by omega) he
    refine ⟨l, m.toNat, hl, by omega, ?_, he⟩
    have hh : ∀ code, (Instr.sliceBound (.int q m) cap code).run P w = .ok m.toNat w := by
      intro code
      simp only [Instr.sliceBound, asIntOf, Sem.run_bind, Sem.run_pure, Result.andThen_ok]
      rw [if_pos ⟨by omega, by omega⟩]
      rfl
    cases lo with
    | none =>
      simp only [Option.map_none, Sem.run_pure] at hr
      obtain rfl : (0 : Nat) = l := by injection hr
      simp only [Instr.sliceBounds, Option.map_none, Option.map_some, hm, Sem.run_bind, Sem.run_pure, Result.andThen_ok, if_true, hh]
    | some o' =>
      simp only [Option.map_some] at hr
      simp only [Instr.sliceBounds, Option.map_none, Option.map_some, hm, Sem.run_bind, Sem.run_pure, Result.andThen_ok, Option.isSome_none, Bool.false_eq_true, if_true, if_false, hh, hr]

theorem cut_length {t : Ty} (xs : List t.D) {l h : Nat} (hl : l ≤ h) (hh : h ≤ xs.length) : (cut xs l h).length = h - l := by
  simp only [cut, List.length_drop, List.length_take]
  omega
theorem cut_get {t : Ty} (xs : List t.D) {l h i : Nat} (hl : l ≤ h) (hh : h ≤ xs.length) (hi : i < (cut xs l h).length) : (cut xs l h)[i]'hi = xs[l + i]'(by rw [cut_length xs hl hh] at hi; omega) := by
  simp [cut]

theorem run_sliceAt {t el : TypeId} {len cap l h sz : Nat} {p : Option Addr} {lo hi : Option Value} (hu : P.underlying t = some (.slice el)) (hs : szOf P el = some sz)
    (hb : (Instr.sliceBounds true len cap lo hi none).run P w = .ok (l, h, cap) w) :
    (Instr.sliceAt t (.slice p len cap) lo hi none).run P w = .ok (.slice (if cap = l then p else p.map (·.add (l * sz))) (h - l) (cap - l)) w := by
  simp only [Instr.sliceAt, Instr.slice, Sem.run_bind, run_underlying hu, Result.andThen_ok, hb, run_sizeOf hs, Sem.run_pure]

theorem aSlice_sound (h : Holds S w0 n fr fE fH ρ a w) {id : Nat} (hid : fr id) {t : TypeId} {p : Sc} {v : Value} {lo hi : Option Operand} {e : Eff} (hp : p.Den (Al S fH ρ) w ρ v) {vwm : Bool} (he : (aSlice P vwm id t p lo hi).Ev fE fH e) :
    Out P S w0 n fr fE fH a w id (nv (Instr.sliceAt t v (lo.map a.eval) (hi.map a.eval) none)) e := by
  unfold aSlice at he
  split at he
  · rename_i el hu
    split at he
    · rename_i sz t' xs hs
      split at he
      · rename_i hts
        obtain ⟨pa, c, rfl, hc, hr⟩ := RI.shape hp
        obtain ⟨l, q, hlq, hq, hb, he⟩ := bounds_sound (P := P) h hc he
        refine out_one h id (run_v (run_sliceAt hu hs hb)) he ?_
        refine ⟨_, c - l, by rw [cut_length xs hlq hq], by rw [cut_length xs hlq hq]; omega, fun hpos => ?_⟩
        rw [cut_length xs hlq hq] at hpos
        obtain ⟨b, o, rfl, hA, hr⟩ := hr (by omega)
        rw [if_neg (by omega)]
        refine ⟨b, o + l * sz, by simp [add_pl], hA, fun i hi => ?_⟩
        rw [cut_get xs hlq hq hi]
        have := hr (l + i) (by rw [cut_length xs hlq hq] at hi; omega)
        rw [← hts]
        simpa [Nat.add_mul, Nat.add_assoc] using this
      · exact he.elim
    · rename_i sz i hs
      obtain ⟨blk, hb, he⟩ := he
      cases blk with
      | box _ => exact he.elim
      | row t' xs =>
        simp only [] at he
        split at he
        · rename_i hts
          have hp' : ρ i = some v := hp
          obtain ⟨v', e1, e2⟩ := h.blks i _ hb
          rw [hp'] at e1
          obtain rfl := Option.some.inj e1
          cases vwm with
          | true =>
            have shp : ∃ pa c, v = .slice pa xs.length c ∧ xs.length ≤ c := by
              rcases e2 with ⟨rfl, rfl⟩ | ⟨b, o, c, arr, et, rfl, hB, hc, _⟩
              · exact ⟨none, 0, rfl, Nat.le_refl _⟩
              · exact ⟨_, c, rfl, hc⟩
            obtain ⟨pa, c, rfl, hc⟩ := shp
            obtain ⟨l, q, hlq, hq, hbb, he⟩ := bounds_sound (P := P) h hc he
            exact out_one h id (run_v (run_sliceAt hu hs hbb)) he ⟨pa, xs.length, c, hp', hlq, hq, hc, by rw [hts]⟩
          | false =>
          rcases e2 with ⟨rfl, rfl⟩ | ⟨b, o, c, arr, et, rfl, hB, hc, hh, hsz, hr⟩
          · obtain ⟨l, q, hlq, hq, hbb, he⟩ := bounds_sound (P := P) (cap := 0) h (Nat.le_refl 0) he
            obtain rfl := he
            simp only [List.length_nil, Nat.le_zero_eq] at hq
            subst hq
            simp only [Nat.le_zero_eq] at hlq
            subst hlq
            refine ⟨.slice none 0 0, w, .inl (run_v (run_sliceAt hu hs hbb)), upd ρ id (some (.slice none 0 0)), ((h.drop i).alloc_nil id hid t').fewer fun _ q => lessF_of q, upd_same _ _ _⟩
          · obtain ⟨l, q, hlq, hq, hbb, he⟩ := bounds_sound (P := P) h hc he
            obtain rfl := he
            have hlen := cut_length xs hlq hq
            have hmul : l * t'.size ≤ c * t'.size := Nat.mul_le_mul_right _ (by omega)
            refine ⟨_, w, .inl (run_v (run_sliceAt hu hs hbb)), upd ρ id _, (Holds.rename (w' := w) h hb hp' hid rfl ?_ (fun _ _ => rfl) rfl rfl rfl rfl fun hstep => ?_).fewer fun _ q => lessF_of q, upd_same _ _ _⟩
            · by_cases hcl : c = l <;> simp [hcl, ownB, add_pl]
            · refine .inr ⟨b, if c = l then o else o + l * sz, c - l, arr, et, ?_, hB, by rw [hlen]; omega, hh, ?_, fun k hk => ?_⟩
              · rw [hlen]
                by_cases hcl : c = l <;> simp [hcl, add_pl]
              · rw [Nat.sub_mul, hts]
                rw [hts] at hsz hmul
                split <;> omega
              · rw [cut_get xs hlq hq hk]
                rw [hlen] at hk
                refine DenC.step hstep t' _ _ _ (fun j u _ e => ?_) (hr (l + k) (by omega))
                rw [if_neg (by omega), ← hts, show o + l * t'.size + (k * t'.size + j) = o + ((l + k) * t'.size + j) by rw [Nat.add_mul]; omega]
                exact e
        · exact he.elim
    · exact he.elim
  · exact he.elim

theorem lenOf_sound {α : Type} {e : α} (h : Holds S w0 n fr fE fH ρ a w) {s : Sc} {v : Value} {k : Nat → RM α} (hs : s.Den (Al S fH ρ) w ρ v) (he : (lenOf s k).Ev fE fH e) : ∃ p m c, v = .slice p m c ∧ (k m).Ev fE fH e := by
  cases s with
  | nil => exact ⟨none, 0, 0, hs, he⟩
  | sl t xs => obtain ⟨p, c, rfl, _⟩ := RI.shape hs; exact ⟨_, _, _, rfl, he⟩
  | bsl i o m => obtain ⟨b, _, rfl⟩ := hs; exact ⟨_, _, _, rfl, he⟩
  | vw i t l r => obtain ⟨p, n', c, _, _, _, _, rfl⟩ := hs; exact ⟨_, _, _, rfl, he⟩
  | row i =>
    obtain ⟨blk, hb, he⟩ := he
    cases blk with
    | box _ => exact he.elim
    | row t xs =>
      have hp' : ρ i = some v := hs
      obtain ⟨v', e1, e2⟩ := h.blks i _ hb
      rw [hp'] at e1
      obtain rfl := Option.some.inj e1
      rcases e2 with ⟨rfl, rfl⟩ | ⟨b, o, c, arr, et, rfl, _⟩
      · exact ⟨_, _, _, rfl, he⟩
      · exact ⟨_, _, _, rfl, he⟩
  | _ => exact he.elim

theorem Ty.cells_kind : ∀ (t : Ty) (x : t.D), ∀ s ∈ t.cells x, (∃ k m, s = .int k m) ∨ (∃ b, s = .bool b) ∨ (∃ t' ys, s = .sl t' ys) ∨ (∃ t' y, s = .ep t' y 0) ∨ (∃ g t' y, s = .clo g t' y) ∨ ∃ g, s = .func g []
  | .int, x, s, h => by simp [Ty.cells] at h; exact .inl ⟨_, _, h⟩
  | .bool, x, s, h => by simp [Ty.cells] at h; exact .inr (.inl ⟨_, h⟩)
  | .pair a b, x, s, h => by
    simp only [Ty.cells, List.mem_append] at h
    rcases h with h | h
    · exact Ty.cells_kind a _ s h
    · exact Ty.cells_kind b _ s h
  | .sl t, xs, s, h => by simp [Ty.cells] at h; exact .inr (.inr (.inl ⟨_, _, h⟩))
  | .ref t, xs, s, h => by simp [Ty.cells] at h; exact .inr (.inr (.inr (.inl ⟨_, _, h⟩)))
  | .clo g t, xs, s, h => by simp [Ty.cells] at h; exact .inr (.inr (.inr (.inr (.inl ⟨_, _, _, h⟩))))
  | .fn g, xs, s, h => by simp [Ty.cells] at h; exact .inr (.inr (.inr (.inr (.inr ⟨_, h⟩))))
  | .num k, n, s, h => by simp [Ty.cells] at h; exact .inl ⟨_, _, h⟩

theorem cells_one {A : Nat → Prop} {t : Ty} {x : t.D} {vs : List Value} (h : DenL A w ρ (t.cells x) vs) : ∀ u ∈ vs, u.oneCell' = true := by
  intro u hu
  obtain ⟨i, hi⟩ := List.getElem?_of_mem hu
  have hlt := (List.getElem?_eq_some_iff.1 hi).1
  rw [← h.length] at hlt
  obtain ⟨v', e', d'⟩ := h.get (List.getElem?_eq_getElem hlt)
  rw [hi] at e'
  obtain rfl := Option.some.inj e'
  rcases Ty.cells_kind t x _ (List.getElem_mem hlt) with ⟨k, m, e⟩ | ⟨b, e⟩ | ⟨t', ys, e⟩ | ⟨t', y, e⟩ | ⟨g, t', y, e⟩ | ⟨g, e⟩ <;> rw [e] at d'
  · simp only [Sc.Den] at d'; subst d'; rfl
  · simp only [Sc.Den] at d'; subst d'; rfl
  · obtain ⟨p, c, rfl, _⟩ := RI.shape d'; rfl
  · obtain ⟨b, o, rfl, _⟩ := d'; rfl
  · obtain ⟨vs, rfl, _⟩ := d'; rfl
  · obtain ⟨vs, rfl, _⟩ := d'; rfl

/-- Elements' cells, one after the other. -/
theorem rows_list {A : Nat → Prop} {t : Ty} : ∀ (xs : List t.D) (g : Nat → Option Value), (∀ q (hq : q < xs.length), DenC A w t (xs[q]'hq) (fun j => g (q * t.size + j))) →
    ∃ vs : List Value, vs.length = xs.length * t.size ∧ (∀ j u, vs[j]? = some u → g j = some u ∧ u.oneCell' = true) ∧ ∀ q (hq : q < xs.length), DenC A w t (xs[q]'hq) (fun j => vs[q * t.size + j]?)
  | [], g, _ => ⟨[], by simp, by simp, fun q hq => absurd hq (by simp)⟩
  | x :: xs, g, hr => by
    obtain ⟨v0, d0, g0⟩ := DenC.list (ρ := fun _ => none) t x _ (hr 0 (by simp))
    have hl0 : v0.length = t.size := by rw [← d0.length, Ty.cells_length]
    obtain ⟨vs, hl, hv, hd⟩ := rows_list xs (fun j => g (t.size + j)) (fun q hq => by
      have := hr (q + 1) (by simpa using hq)
      simp only [List.getElem_cons_succ] at this
      refine DenC.step Step.refl t _ _ _ (fun j u _ e => ?_) this
      rw [← Nat.add_assoc, Nat.add_comm t.size, ← Nat.succ_mul]
      exact e)
    refine ⟨v0 ++ vs, by rw [List.length_append, hl0, hl, List.length_cons, Nat.succ_mul]; omega, fun j u e => ?_, fun q hq => ?_⟩
    · rw [List.getElem?_append] at e
      split at e
      · have := g0 j u e
        simp only [Nat.zero_mul, Nat.zero_add] at this
        exact ⟨this, cells_one d0 u (List.mem_of_getElem? e)⟩
      · rename_i hj
        have := hv _ u e
        rw [hl0] at this
        rw [show t.size + (j - t.size) = j by omega] at this
        exact this
    · cases q with
      | zero =>
        refine DenC.step Step.refl t _ _ _ (fun j u hj e => ?_) (DenC.of_list t x v0 d0)
        rw [Nat.zero_mul, Nat.zero_add, List.getElem?_append_left (by omega)]
        exact e
      | succ q =>
        have := hd q (by simpa using hq)
        simp only [List.getElem_cons_succ]
        refine DenC.step Step.refl t _ _ _ (fun j u hj e => ?_) this
        rw [List.getElem?_append_right (by rw [hl0, Nat.succ_mul]; omega), hl0, show (q + 1) * t.size + j - t.size = q * t.size + j by rw [Nat.succ_mul]; omega]
        exact e

/-- What is appended: its cells, read. -/
theorem rowsOf_sound {α : Type} {e : α} (h : Holds S w0 n fr fE fH ρ a w) {t : Ty} {s : Sc} {v : Value} {k : List t.D → List Nat → RM α} (hs : s.Den (Al S fH ρ) w ρ v) (he : (rowsOf t s k).Ev fE fH e) :
    ∃ xs ds, (k xs ds).Ev fE fH e ∧ ((ds = [] ∧ ((s = .nil ∧ v = .slice none 0 0 ∧ xs = []) ∨ (∃ t' ys, s = .sl t' ys) ∨ ∃ nn t' ys, s = .sln nn t' ys)) ∨ (∃ i, s = .row i ∧ ds = [i] ∧ fH i = some (.row t xs)) ∨ ∃ i t1 l r, s = .vw i t1 l r ∧ ds = [i]) ∧
      ∃ p c, v = .slice p xs.length c ∧ xs.length ≤ c ∧ (0 < xs.length → ∃ (b o : Nat) (vs : List Value), p = some (pl b o) ∧ vs.length = xs.length * t.size ∧ (∀ j u, vs[j]? = some u → w.cell? (pl b (o + j)) = some u ∧ u.oneCell' = true) ∧
        ∀ q (hq : q < xs.length), DenC (Al S fH ρ) w t (xs[q]'hq) (fun j => vs[q * t.size + j]?)) := by
  unfold rowsOf at he
  cases s with
  | nil =>
    have : v = .slice none 0 0 := hs
    exact ⟨_, _, he, .inl ⟨rfl, .inl ⟨rfl, this, rfl⟩⟩, none, 0, this, Nat.le_refl _, fun h => absurd h (by simp)⟩
  | sl t' ys =>
    simp only [] at he
    split at he
    · rename_i e1
      subst e1
      obtain ⟨p, c, rfl, hc, hr⟩ := RI.shape hs
      refine ⟨_, _, he, .inl ⟨rfl, .inr (.inl ⟨_, _, rfl⟩)⟩, p, c, rfl, hc, fun hp => ?_⟩
      obtain ⟨b, o, rfl, _, hr⟩ := hr hp
      obtain ⟨vs, h1, h2, h3⟩ := rows_list ys (fun j => w.cell? (pl b (o + j))) hr
      exact ⟨b, o, vs, rfl, h1, h2, h3⟩
    · exact he.elim
  | sln nn t' ys =>
    replace hs := hs.1
    simp only [] at he
    split at he
    · rename_i e1
      subst e1
      obtain ⟨p, c, rfl, hc, hr⟩ := RI.shape hs
      refine ⟨_, _, he, .inl ⟨rfl, .inr (.inr ⟨_, _, _, rfl⟩)⟩, p, c, rfl, hc, fun hp => ?_⟩
      obtain ⟨b, o, rfl, _, hr⟩ := hr hp
      obtain ⟨vs, h1, h2, h3⟩ := rows_list ys (fun j => w.cell? (pl b (o + j))) hr
      exact ⟨b, o, vs, rfl, h1, h2, h3⟩
    · exact he.elim
  | row i =>
    obtain ⟨blk, hb, he⟩ := he
    cases blk with
    | box _ => exact he.elim
    | row t' ys =>
      simp only [] at he
      split at he
      · rename_i e1
        subst e1
        have hp' : ρ i = some v := hs
        obtain ⟨v', e1, e2⟩ := h.blks i _ hb
        rw [hp'] at e1
        obtain rfl := Option.some.inj e1
        refine ⟨ys, [i], he, .inr (.inl ⟨i, rfl, rfl, hb⟩), ?_⟩
        rcases e2 with ⟨rfl, rfl⟩ | ⟨b, o, c, arr, et, rfl, hB, hc, hh, hsz, hr⟩
        · exact ⟨none, 0, rfl, Nat.le_refl _, fun h => absurd h (by simp)⟩
        · refine ⟨_, c, rfl, hc, fun hp => ?_⟩
          obtain ⟨vs, h1, h2, h3⟩ := rows_list ys (fun j => arr[o + j]?) hr
          exact ⟨b, o, vs, rfl, h1, fun j u e => ⟨by rw [cell_of hh]; exact (h2 j u e).1, (h2 j u e).2⟩, h3⟩
      · exact he.elim
  | vw i t1 l r =>
    simp only [] at he
    split at he
    · rename_i et1
      subst et1
      obtain ⟨blk, hb, he⟩ := he
      cases blk with
      | box _ => exact he.elim
      | row t' ys =>
        simp only [] at he
        split at he
        · rename_i e1
          subst e1
          obtain ⟨p, n', c, h1, hlr, hrn, hnc, rfl⟩ := hs
          obtain ⟨v', e1, e2⟩ := h.blks i _ hb
          rw [h1] at e1
          obtain rfl := Option.some.inj e1
          rcases e2 with ⟨e2, rfl⟩ | ⟨b, o, c', arr, et, e2, hB, hc, hh, hsz, hr⟩
          · simp only [Value.slice.injEq] at e2
            obtain ⟨rfl, rfl, rfl⟩ := e2
            have hr0 : r = 0 := by omega
            subst hr0
            have hl0 : l = 0 := by omega
            subst hl0
            exact ⟨[], [i], he, .inr (.inr ⟨i, _, _, _, rfl, rfl⟩), none, 0, rfl, Nat.le_refl _, fun h => absurd h (by simp)⟩
          · simp only [Value.slice.injEq] at e2
            obtain ⟨rfl, rfl, rfl⟩ := e2
            have hlen := cut_length ys hlr hrn
            refine ⟨cut ys l r, [i], he, .inr (.inr ⟨i, _, _, _, rfl, rfl⟩), _, c - l, by rw [hlen], by rw [hlen]; omega, fun hp => ?_⟩
            rw [hlen] at hp
            obtain ⟨vs, g1, g2, g3⟩ := rows_list (cut ys l r) (fun j => arr[o + l * t'.size + j]?) (fun q hq => by
              rw [cut_get ys hlr hrn hq]
              have := hr (l + q) (by rw [hlen] at hq; omega)
              simpa [Nat.add_mul, Nat.add_assoc] using this)
            exact ⟨b, o + l * t'.size, vs, by rw [if_neg (by omega)]; simp [add_pl], g1, fun j u e => ⟨by rw [cell_of hh]; exact (g2 j u e).1, (g2 j u e).2⟩, g3⟩
        · exact he.elim
    · exact he.elim
  | _ => exact he.elim
end
end Go.Proofs.YtkdohmgacodhjaaPx
