/- How the abstract state is kept over each turn of memory: a new block, a block written, one let go, a call, a draw; no condition. -/
import Derived.Test.YtkdohmgacodhjaaPx1
set_option linter.unusedVariables false
set_option linter.unusedSimpArgs false
namespace Go.Proofs.YtkdohmgacodhjaaPx
open Go.RowKit

def upd {α : Type} (f : Nat → Option α) (i : Nat) (x : Option α) : Nat → Option α := fun j => if j = i then x else f j
theorem upd_same {α : Type} (f : Nat → Option α) (i : Nat) (x : Option α) : upd f i x i = x := by simp [upd]
theorem upd_other {α : Type} (f : Nat → Option α) {i j : Nat} (x : Option α) (h : j ≠ i) : upd f i x j = f j := by simp [upd, h]

theorem cell_lt {w : World} {b o : Nat} {v : Value} (h : w.cell? (pl b o) = some v) : b < w.heap.size := by
  simp only [World.cell?, pl] at h
  split at h
  · rename_i e
    exact (Array.getElem?_eq_some_iff.1 e).1
  · simp at h

theorem cell_eq {w w' : World} {b : Nat} (h : w'.heap[b]? = w.heap[b]?) (o : Nat) : w'.cell? (pl b o) = w.cell? (pl b o) := by
  simp [World.cell?, pl, h]

theorem cell_of {w : World} {b : Nat} {arr : Array Value} {t : TypeId} {fz : Nat × Nat} (h : w.heap[b]? = some (.cells arr t fz)) (o : Nat) : w.cell? (pl b o) = arr[o]? := by
  simp [World.cell?, pl, h]

section
variable {S : Nat → Prop} {w0 : World} {n : Nat} {fr fr' : Nat → Prop} {fE : Nat → Option SV} {fH fH' : Nat → Option Blk} {ρ : Nat → Option Value} {a : Act} {w w' : World}

theorem Blk.Ok.step {B : Nat} {A A' : Nat → Prop} {ρ' : Nat → Option Value} (hs : Step A w A' w') (he : Ext ρ ρ') {v : Value} {blk : Blk} (h : blk.Ok B A w ρ v) (hb : ∀ b, ownB v = some b → w'.heap[b]? = w.heap[b]?) : blk.Ok B A' w' ρ' v := by
  cases blk with
  | box cs =>
    obtain ⟨b, arr, t, rfl, h1, h2, h3⟩ := h
    exact ⟨b, arr, t, rfl, h1, by rw [hb b rfl]; exact h2, h3.step hs he⟩
  | row t xs =>
    rcases h with h | ⟨b, o, c, arr, e, rfl, h1, h2, h3, h4, h5⟩
    · exact .inl h
    · exact .inr ⟨b, o, c, arr, e, rfl, h1, h2, by rw [hb b rfl]; exact h3, h4, fun i hi => DenC.step hs t _ _ _ (fun _ _ _ e => e) (h5 i hi)⟩

/-- A name's block lies in memory. -/
theorem Blk.Ok.lt {B : Nat} {A : Nat → Prop} {v : Value} {blk : Blk} (h : blk.Ok B A w ρ v) {b : Nat} (hb : ownB v = some b) : b < w.heap.size ∧ B ≤ b := by
  cases blk with
  | box cs =>
    obtain ⟨b', arr, t, rfl, h1, h2, h3⟩ := h
    have : b' = b := by simpa [ownB] using hb
    subst this
    exact ⟨(Array.getElem?_eq_some_iff.1 h2).1, h1⟩
  | row t xs =>
    rcases h with ⟨rfl, _⟩ | ⟨b', o, c, arr, e, rfl, h1, h2, h3, _⟩
    · simp [ownB] at hb
    · have : b' = b := by simpa [ownB] using hb
      subst this
      exact ⟨(Array.getElem?_eq_some_iff.1 h3).1, h1⟩

theorem Holds.base (h : Holds S w0 n fr fE fH ρ a w) : w0.heap.size ≤ w.heap.size := h.below.size

/-- Whatever leaves our own blocks and what is allowed as they were. -/
theorem Holds.world (h : Holds S w0 n fr fE fH ρ a w) (hb : Below w.heap.size w w') : Holds S w0 n fr fE fH ρ a w' := by
  have hs : Step (Al S fH ρ) w (Al S fH ρ) w' := fun b o v ha hv => ⟨ha, by rw [cell_eq (hb.block b (cell_lt hv))]; exact hv⟩
  refine ⟨h.size, h.defers, fun t sv e => ⟨(h.tmps t sv e).1, (h.tmps t sv e).2.step hs (Ext.refl _)⟩, fun i blk e => ?_, h.inj, h.fresh, h.below.trans (hb.mono h.base), h.new, h.shape⟩
  obtain ⟨v, h1, h2⟩ := h.blks i blk e
  exact ⟨v, h1, h2.step hs (Ext.refl _) fun b e' => hb.block b (h2.lt e').1⟩

theorem Holds.fewer (h : Holds S w0 n fr fE fH ρ a w) (hf : ∀ i, fr' i → fr i) : Holds S w0 n fr' fE fH ρ a w :=
  ⟨h.size, h.defers, h.tmps, h.blks, h.inj, fun i e => h.fresh i (hf i e), h.below, h.new, h.shape⟩

/-- A name is let go: its block is nobody's own any more. -/
theorem Holds.drop (h : Holds S w0 n fr fE fH ρ a w) (i : Nat) : Holds S w0 n fr fE (upd fH i none) ρ a w := by
  have hs : Step (Al S fH ρ) w (Al S (upd fH i none) ρ) w := fun b o v ha hv => ⟨⟨ha.1, fun j blk v' e e' => by
    by_cases hj : j = i
    · subst hj; simp [upd] at e
    · rw [upd_other _ _ hj] at e; exact ha.2 j blk v' e e'⟩, hv⟩
  refine ⟨h.size, h.defers, fun t sv e => ⟨(h.tmps t sv e).1, (h.tmps t sv e).2.step hs (Ext.refl _)⟩, fun j blk e => ?_, fun j k bj bk vj vk b hne ej ek => ?_, fun j e => ⟨(h.fresh j e).1, ?_⟩, h.below, h.new, h.shape⟩
  · by_cases hj : j = i
    · subst hj; simp [upd] at e
    · rw [upd_other _ _ hj] at e
      obtain ⟨v, h1, h2⟩ := h.blks j blk e
      exact ⟨v, h1, h2.step hs (Ext.refl _) fun _ _ => rfl⟩
  · by_cases hj : j = i
    · subst hj; simp [upd] at ej
    · by_cases hk : k = i
      · subst hk; simp [upd] at ek
      · rw [upd_other _ _ hj] at ej; rw [upd_other _ _ hk] at ek
        exact h.inj j k bj bk vj vk b hne ej ek
  · by_cases hj : j = i
    · subst hj; simp [upd]
    · rw [upd_other _ _ hj]; exact (h.fresh j e).2

/-- A name whose block is let go leads to what is allowed. -/
theorem Holds.drop_allowed (h : Holds S w0 n fr fE fH ρ a w) {i : Nat} {blk : Blk} {v : Value} {b : Nat} (hi : fH i = some blk) (hv : ρ i = some v) (hb : ownB v = some b) : Al S (upd fH i none) ρ b := by
  obtain ⟨v', h1, h2⟩ := h.blks i blk hi
  rw [hv] at h1
  obtain rfl := Option.some.inj h1
  refine ⟨h.new b (h2.lt hb).2, fun j bj vj ej eρ => ?_⟩
  by_cases hj : j = i
  · subst hj; simp [upd] at ej
  · rw [upd_other _ _ hj] at ej
    exact h.inj i j blk bj v vj b (fun e => hj e.symm) hi ej hv eρ hb

theorem Step.alloc (h : Holds S w0 n fr fE fH ρ a w) (i : Nat) (hi : fr i) (o : Obj) (blk : Blk) (v : Value) (hv : ownB v = some w.heap.size ∨ ownB v = none) :
    Step (Al S fH ρ) w (Al S (upd fH i (some blk)) (upd ρ i (some v))) (w.alloc o) := by
  intro b q u ha hu
  have hlt := cell_lt hu
  refine ⟨⟨ha.1, fun j bj vj ej eρ => ?_⟩, by rw [cell_eq (Below.heap_alloc w o b hlt)]; exact hu⟩
  by_cases hj : j = i
  · subst hj
    rw [upd_same] at eρ
    obtain rfl := Option.some.inj eρ
    rcases hv with hv | hv <;> rw [hv] <;> simp
    omega
  · rw [upd_other _ _ hj] at ej eρ
    exact ha.2 j bj vj ej eρ

theorem Ext.upd_fresh {i : Nat} (h : ρ i = none) (v : Value) : Ext ρ (upd ρ i (some v)) := by
  intro j u e
  by_cases hj : j = i
  · subst hj; rw [h] at e; simp at e
  · rw [upd_other _ _ hj]; exact e

/-- A new block of our own. -/
theorem Holds.alloc (h : Holds S w0 n fr fE fH ρ a w) (i : Nat) (hi : fr i) (o : Obj) (blk : Blk) (v : Value) (hv : ownB v = some w.heap.size)
    (hok : blk.Ok w0.heap.size (Al S (upd fH i (some blk)) (upd ρ i (some v))) (w.alloc o) (upd ρ i (some v)) v) :
    Holds S w0 n (fun j => fr j ∧ j ≠ i) fE (upd fH i (some blk)) (upd ρ i (some v)) a (w.alloc o) := by
  have hs := Step.alloc h i hi o blk v (.inl hv)
  have he : Ext ρ (upd ρ i (some v)) := Ext.upd_fresh (h.fresh i hi).1 v
  refine ⟨h.size, h.defers, fun t sv e => ⟨(h.tmps t sv e).1, (h.tmps t sv e).2.step hs he⟩, fun j bj e => ?_, fun j k bj bk vj vk b hne ej ek eρj eρk hbj => ?_, fun j ⟨e, hj⟩ => ?_, h.below.alloc h.base _, h.new, fun j u e => ?_⟩
  · by_cases hj : j = i
    · subst hj
      rw [upd_same] at e
      obtain rfl := Option.some.inj e
      exact ⟨v, upd_same _ _ _, hok⟩
    · rw [upd_other _ _ hj] at e
      obtain ⟨u, h1, h2⟩ := h.blks j bj e
      exact ⟨u, he _ _ h1, h2.step hs he fun b e' => Below.heap_alloc w o b (h2.lt e').1⟩
  · by_cases hj : j = i
    · by_cases hk : k = i
      · exact absurd (hj.trans hk.symm) hne
      · subst hj
        rw [upd_same] at eρj
        obtain rfl := Option.some.inj eρj
        rw [upd_other _ _ hk] at ek eρk
        obtain ⟨u, h1, h2⟩ := h.blks k bk ek
        rw [h1] at eρk
        obtain rfl := Option.some.inj eρk
        rw [hv] at hbj
        obtain rfl := Option.some.inj hbj
        intro e
        have := (h2.lt e).1
        omega
    · rw [upd_other _ _ hj] at ej eρj
      by_cases hk : k = i
      · subst hk
        rw [upd_same] at eρk
        obtain rfl := Option.some.inj eρk
        obtain ⟨u, h1, h2⟩ := h.blks j bj ej
        rw [h1] at eρj
        obtain rfl := Option.some.inj eρj
        have := (h2.lt hbj).1
        rw [hv]
        intro e
        have := Option.some.inj e
        omega
      · rw [upd_other _ _ hk] at ek eρk
        exact h.inj j k bj bk vj vk b hne ej ek eρj eρk hbj
  · rw [upd_other _ _ hj, upd_other _ _ hj]
    exact h.fresh j e
  · by_cases hj : j = i
    · subst hj
      rw [upd_same] at e
      obtain rfl := Option.some.inj e
      cases v <;> first | rfl | simp [ownB] at hv
    · rw [upd_other _ _ hj] at e
      exact h.shape j u e

/-- A new name for a nil slice. -/
theorem Holds.alloc_nil (h : Holds S w0 n fr fE fH ρ a w) (i : Nat) (hi : fr i) (t : Ty) :
    Holds S w0 n (fun j => fr j ∧ j ≠ i) fE (upd fH i (some (.row t []))) (upd ρ i (some (.slice none 0 0))) a w := by
  have he : Ext ρ (upd ρ i (some (.slice none 0 0))) := Ext.upd_fresh (h.fresh i hi).1 _
  have hs : Step (Al S fH ρ) w (Al S (upd fH i (some (.row t []))) (upd ρ i (some (.slice none 0 0)))) w := by
    intro b q u ha hu
    refine ⟨⟨ha.1, fun j bj vj ej eρ => ?_⟩, hu⟩
    by_cases hj : j = i
    · subst hj
      rw [upd_same] at eρ
      obtain rfl := Option.some.inj eρ
      simp [ownB]
    · rw [upd_other _ _ hj] at ej eρ
      exact ha.2 j bj vj ej eρ
  refine ⟨h.size, h.defers, fun t sv e => ⟨(h.tmps t sv e).1, (h.tmps t sv e).2.step hs he⟩, fun j bj e => ?_, fun j k bj bk vj vk b hne ej ek eρj eρk hbj => ?_, fun j ⟨e, hj⟩ => ?_, h.below, h.new, fun j u e => ?_⟩
  · by_cases hj : j = i
    · subst hj
      rw [upd_same] at e
      obtain rfl := Option.some.inj e
      exact ⟨_, upd_same _ _ _, .inl ⟨rfl, rfl⟩⟩
    · rw [upd_other _ _ hj] at e
      obtain ⟨u, h1, h2⟩ := h.blks j bj e
      exact ⟨u, he _ _ h1, h2.step hs he fun b e' => rfl⟩
  · by_cases hj : j = i
    · subst hj
      rw [upd_same] at eρj
      obtain rfl := Option.some.inj eρj
      simp [ownB] at hbj
    · rw [upd_other _ _ hj] at ej eρj
      by_cases hk : k = i
      · subst hk
        rw [upd_same] at eρk
        obtain rfl := Option.some.inj eρk
        simp [ownB]
      · rw [upd_other _ _ hk] at ek eρk
        exact h.inj j k bj bk vj vk b hne ej ek eρj eρk hbj
  · rw [upd_other _ _ hj, upd_other _ _ hj]
    exact h.fresh j e
  · by_cases hj : j = i
    · subst hj
      rw [upd_same] at e
      obtain rfl := Option.some.inj e
      rfl
    · rw [upd_other _ _ hj] at e
      exact h.shape j u e

/-- An own block is written. -/
theorem Step.write (h : Holds S w0 n fr fE fH ρ a w) {i : Nat} {blk blk' : Blk} {v : Value} {b : Nat} (hi : fH i = some blk) (hv : ρ i = some v) (hb : ownB v = some b)
    (hw : ∀ k, k ≠ b → w'.heap[k]? = w.heap[k]?) : Step (Al S fH ρ) w (Al S (upd fH i (some blk')) ρ) w' := by
  intro c q u ha hu
  have hne : c ≠ b := fun e => ha.2 i blk v hi hv (by rw [hb, e])
  refine ⟨⟨ha.1, fun j bj vj ej eρ => ?_⟩, by rw [cell_eq (hw c hne)]; exact hu⟩
  by_cases hj : j = i
  · subst hj
    rw [hv] at eρ
    obtain rfl := Option.some.inj eρ
    exact ha.2 j blk v hi hv
  · rw [upd_other _ _ hj] at ej
    exact ha.2 j bj vj ej eρ

theorem Holds.write (h : Holds S w0 n fr fE fH ρ a w) {i : Nat} {blk blk' : Blk} {v : Value} {b : Nat} (hi : fH i = some blk) (hv : ρ i = some v) (hb : ownB v = some b)
    (hw : ∀ k, k ≠ b → w'.heap[k]? = w.heap[k]?) (hos : w'.os = w.os) (ht : w'.tape = w.tape) (ho : w'.output = w.output) (hsz : w'.heap.size = w.heap.size)
    (hok : blk'.Ok w0.heap.size (Al S (upd fH i (some blk')) ρ) w' ρ v) : Holds S w0 n fr fE (upd fH i (some blk')) ρ a w' := by
  have hs := Step.write (blk' := blk') h hi hv hb hw
  obtain ⟨v', hv', hok0⟩ := h.blks i blk hi
  rw [hv] at hv'
  obtain rfl := Option.some.inj hv'
  have hB := (hok0.lt hb).2
  refine ⟨h.size, h.defers, fun t sv e => ⟨(h.tmps t sv e).1, (h.tmps t sv e).2.step hs (Ext.refl _)⟩, fun j bj e => ?_, fun j k bj bk vj vk c hne ej ek eρj eρk hbj => ?_, fun j e => ⟨(h.fresh j e).1, ?_⟩, ⟨hos.trans h.below.os, ht.trans h.below.tape, ho.trans h.below.output, by rw [hsz]; exact h.base, fun k hk => by rw [hw k (by omega)]; exact h.below.block k hk⟩, h.new, h.shape⟩
  · by_cases hj : j = i
    · subst hj
      rw [upd_same] at e
      obtain rfl := Option.some.inj e
      exact ⟨v, hv, hok⟩
    · rw [upd_other _ _ hj] at e
      obtain ⟨u, h1, h2⟩ := h.blks j bj e
      exact ⟨u, h1, h2.step hs (Ext.refl _) fun c e' => hw c fun e'' => h.inj i j blk bj v u b (fun q => hj q.symm) hi e hv h1 hb (by rw [e', e''])⟩
  · have ej' : ∃ x, fH j = some x := by
      by_cases hj : j = i
      · exact ⟨blk, hj ▸ hi⟩
      · exact ⟨bj, by rw [upd_other _ _ hj] at ej; exact ej⟩
    have ek' : ∃ x, fH k = some x := by
      by_cases hk : k = i
      · exact ⟨blk, hk ▸ hi⟩
      · exact ⟨bk, by rw [upd_other _ _ hk] at ek; exact ek⟩
    obtain ⟨x, ej'⟩ := ej'
    obtain ⟨y, ek'⟩ := ek'
    exact h.inj j k x y vj vk c hne ej' ek' eρj eρk hbj
  · by_cases hj : j = i
    · subst hj
      rw [(h.fresh j e).2] at hi
      simp at hi
    · rw [upd_other _ _ hj]; exact (h.fresh j e).2

/-- A slot is filled. -/
theorem Holds.put (h : Holds S w0 n fr fE fH ρ a w) (d : Nat) (sv : SV) (v : Value) (hd : d < n) (hv : sv.Den (Al S fH ρ) w ρ v) : Holds S w0 n fr (upd fE d (some sv)) fH ρ (a.put (some d) v) w := by
  refine ⟨by simp [Act.put, h.size], h.defers, fun t s e => ?_, h.blks, h.inj, h.fresh, h.below, h.new, h.shape⟩
  by_cases ht : t = d
  · subst ht
    rw [upd_same] at e
    obtain rfl := Option.some.inj e
    refine ⟨hd, ?_⟩
    have : (a.put (some t) v).tmps.getD t undef = v := by simp [Act.put, Array.getD, h.size, hd]
    rw [this]; exact hv
  · rw [upd_other _ _ ht] at e
    refine ⟨(h.tmps t s e).1, ?_⟩
    have : (a.put (some d) v).tmps.getD t undef = a.tmps.getD t undef := by
      have hq : ¬ d = t := fun q => ht q.symm
      simp [Act.put, Array.getD_eq_getD_getElem?, Array.getElem?_setIfInBounds, hq]
    rw [this]; exact (h.tmps t s e).2

theorem Holds.put_none (h : Holds S w0 n fr fE fH ρ a w) (v : Value) : Holds S w0 n fr fE fH ρ (a.put none v) w := h

/-- Less may be said of the slots. -/
theorem Holds.less (h : Holds S w0 n fr fE fH ρ a w) {fE' : Nat → Option SV} (hl : ∀ t sv, fE' t = some sv → fE t = some sv) : Holds S w0 n fr fE' fH ρ a w :=
  ⟨h.size, h.defers, fun t sv e => h.tmps t sv (hl t sv e), h.blks, h.inj, h.fresh, h.below, h.new, h.shape⟩

theorem below_drew {B : Nat} : Below B w w.drew := ⟨rfl, rfl, rfl, Nat.le_refl _, fun _ _ => rfl⟩
end
end Go.Proofs.YtkdohmgacodhjaaPx
