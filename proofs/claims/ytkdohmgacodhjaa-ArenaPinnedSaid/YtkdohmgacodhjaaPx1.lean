/- The words of an abstract evaluator: values, blocks, states, and how they stand for the machine's values and memory; no condition. -/
import Derived.Below
import Derived.Calls
import Derived.Tactics
import Derived.Laws.World
import Derived.Deep.Draws
set_option linter.unusedVariables false
set_option linter.unusedSimpArgs false
namespace Go.Proofs.YtkdohmgacodhjaaPx
open Go.RowKit

/-! ### Types of plain data -/
inductive Ty where
  | int | bool
  | pair (a b : Ty)
  | sl (t : Ty)
  | ref (t : Ty)
  | clo (g : Nat) (t : Ty)
  | fn (g : Nat)
  | num (k : IntKind)
  deriving DecidableEq

@[reducible] def Ty.D : Ty → Type
  | .int => Int
  | .bool => Bool
  | .pair a b => a.D × b.D
  | .sl t => List t.D
  | .ref t => t.D
  | .clo _ t => t.D
  | .fn _ => Unit
  | .num _ => Int

def Ty.size : Ty → Nat
  | .int | .bool | .sl _ | .ref _ | .clo _ _ | .fn _ | .num _ => 1
  | .pair a b => a.size + b.size

def Ty.dflt : (t : Ty) → t.D
  | .int => (0 : Int)
  | .bool => false
  | .pair a b => (a.dflt, b.dflt)
  | .sl _ => []
  | .ref t => t.dflt
  | .clo _ t => t.dflt
  | .fn _ => ()
  | .num _ => (0 : Int)

/-- One cell's value. -/
inductive Sc where
  | int (k : IntKind) (n : Int)
  | bool (b : Bool)
  | ptr (i o : Nat)
  | rp (i : Nat) (t : Ty) (k j : Nat)
  | row (i : Nat)
  | bsl (i o n : Nat)
  | sl (t : Ty) (xs : List t.D)
  | ep (t : Ty) (x : t.D) (j : Nat)
  | sln (nn : Bool) (t : Ty) (xs : List t.D)
  | nil
  | func (f : FuncId) (caps : List (Nat × Nat))
  | clo (g : Nat) (t : Ty) (x : t.D)
  | vw (i : Nat) (t : Ty) (l h : Nat)
  | undef

inductive V1 where
  | one (s : Sc)
  | agg (cs : List Sc)

inductive SV where
  | val (x : V1)
  | tup (xs : List V1)

inductive Blk where
  | box (cs : List Sc)
  | row (t : Ty) (xs : List t.D)

def Ty.cells : (t : Ty) → t.D → List Sc
  | .int, n => [.int .i64 n]
  | .bool, b => [.bool b]
  | .pair a b, x => a.cells x.1 ++ b.cells x.2
  | .sl t, xs => [.sl t xs]
  | .ref t, x => [.ep t x 0]
  | .clo g t, x => [.clo g t x]
  | .fn g, _ => [.func g []]
  | .num k, n => [.int k n]

theorem Ty.cells_length : ∀ (t : Ty) (x : t.D), (t.cells x).length = t.size
  | .int, _ => rfl
  | .bool, _ => rfl
  | .pair a b, x => by simp [Ty.cells, Ty.size, Ty.cells_length a, Ty.cells_length b]
  | .sl _, _ => rfl
  | .ref _, _ => rfl
  | .clo _ _, _ => rfl
  | .fn _, _ => rfl
  | .num _, _ => rfl

/-! ### What memory holds -/
/-- A cell's place. -/
@[reducible] def pl (b o : Nat) : Addr := ⟨b, o, none⟩

/-- Cells 'g 0', 'g 1', .. hold the datum x; slices in it lie in blocks of A. -/
def DenC (A : Nat → Prop) (w : World) : (t : Ty) → t.D → (Nat → Option Value) → Prop
  | .int, n, g => g 0 = some (.int .i64 n)
  | .bool, b, g => g 0 = some (.bool b)
  | .pair a b, x, g => DenC A w a x.1 g ∧ DenC A w b x.2 (fun j => g (a.size + j))
  | .sl t, xs, g => ∃ p c, g 0 = some (.slice p xs.length c) ∧ xs.length ≤ c ∧
      (0 < xs.length → ∃ b o, p = some (pl b o) ∧ A b ∧ ∀ i (h : i < xs.length), DenC A w t (xs[i]'h) (fun j => w.cell? (pl b (o + (i * t.size + j)))))
  | .ref t, x, g => ∃ b o, g 0 = some (.pointer (some (pl b o))) ∧ A b ∧ DenC A w t x (fun j => w.cell? (pl b (o + j)))
  | .clo f t, x, g => ∃ vs : List Value, g 0 = some (.func (.func f) #[] vs.toArray) ∧ vs.length = t.size ∧ DenC A w t x (fun j => vs[j]?)
  | .fn f, _, g => g 0 = some (.func (.func f) #[] #[])
  | .num k, n, g => g 0 = some (.int k n)

/-- A slice that is read. -/
def RI (A : Nat → Prop) (w : World) (t : Ty) (v : Value) (xs : List t.D) : Prop := DenC A w (.sl t) xs (fun _ => some v)

/-- What lies in A stays, and stays in A'. -/
def Step (A : Nat → Prop) (w : World) (A' : Nat → Prop) (w' : World) : Prop :=
  ∀ b o v, A b → w.cell? (pl b o) = some v → A' b ∧ w'.cell? (pl b o) = some v

theorem DenC.some_cell {A : Nat → Prop} {w : World} : ∀ (t : Ty) (x : t.D) (g : Nat → Option Value), DenC A w t x g → ∃ j v, g j = some v
  | .int, _, _, h => ⟨_, _, h⟩
  | .bool, _, _, h => ⟨_, _, h⟩
  | .pair a _, x, g, h => DenC.some_cell a x.1 g h.1
  | .sl _, _, _, ⟨_, _, h0, _⟩ => ⟨_, _, h0⟩
  | .ref _, _, _, ⟨_, _, h0, _⟩ => ⟨_, _, h0⟩
  | .clo _ _, _, _, ⟨_, h0, _⟩ => ⟨_, _, h0⟩
  | .fn _, _, _, h => ⟨_, _, h⟩
  | .num _, _, _, h => ⟨_, _, h⟩

theorem DenC.step {A A' : Nat → Prop} {w w' : World} (hs : Step A w A' w') : ∀ (t : Ty) (x : t.D) (g g' : Nat → Option Value),
    (∀ j v, j < t.size → g j = some v → g' j = some v) → DenC A w t x g → DenC A' w' t x g'
  | .int, _, _, _, hg, h => hg 0 _ (by simp [Ty.size]) h
  | .bool, _, _, _, hg, h => hg 0 _ (by simp [Ty.size]) h
  | .pair a b, x, g, g', hg, h => ⟨DenC.step hs a x.1 g g' (fun j v hj e => hg j v (by simp only [Ty.size]; omega) e) h.1, DenC.step hs b x.2 _ _ (fun j v hj e => hg _ _ (by simp only [Ty.size]; omega) e) h.2⟩
  | .sl t, xs, g, g', hg, ⟨p, c, h0, hc, h⟩ => ⟨p, c, hg 0 _ (by simp [Ty.size]) h0, hc, fun hp => by
      obtain ⟨b, o, e, ha, hr⟩ := h hp
      have hA : A' b := by
        have h1 := hr 0 hp
        obtain ⟨j, v, hv⟩ : ∃ j v, w.cell? (pl b (o + (0 * t.size + j))) = some v := DenC.some_cell t _ _ h1
        exact (hs b _ v ha hv).1
      exact ⟨b, o, e, hA, fun i hi => DenC.step hs t _ _ _ (fun j v _ e => (hs b _ v ha e).2) (hr i hi)⟩⟩
  | .ref t, x, g, g', hg, ⟨b, o, h0, ha, h⟩ => by
      obtain ⟨j, v, hv⟩ := DenC.some_cell t _ _ h
      exact ⟨b, o, hg 0 _ (by simp [Ty.size]) h0, (hs b _ v ha hv).1, DenC.step hs t _ _ _ (fun j v _ e => (hs b _ v ha e).2) h⟩
  | .clo f t, x, g, g', hg, ⟨vs, h0, hl, h⟩ => ⟨vs, hg 0 _ (by simp [Ty.size]) h0, hl, DenC.step hs t _ _ _ (fun _ _ _ e => e) h⟩
  | .fn f, _, _, _, hg, h => hg 0 _ (by simp [Ty.size]) h
  | .num k, _, _, _, hg, h => hg 0 _ (by simp [Ty.size]) h
theorem RI.step {A A' : Nat → Prop} {w w' : World} (hs : Step A w A' w') {t : Ty} {v : Value} {xs : List t.D} (h : RI A w t v xs) : RI A' w' t v xs :=
  DenC.step hs (.sl t) xs _ _ (fun _ _ _ e => e) h

theorem RI.nil (A : Nat → Prop) (w : World) (t : Ty) (c : Nat) (p : Option Addr) : RI A w t (.slice p 0 c) [] :=
  ⟨p, c, rfl, Nat.zero_le _, fun h => absurd h (by simp)⟩

theorem RI.shape {A : Nat → Prop} {w : World} {t : Ty} {v : Value} {xs : List t.D} (h : RI A w t v xs) : ∃ p c, v = .slice p xs.length c ∧ xs.length ≤ c ∧
    (0 < xs.length → ∃ b o, p = some (pl b o) ∧ A b ∧ ∀ i (h : i < xs.length), DenC A w t (xs[i]'h) (fun j => w.cell? (pl b (o + (i * t.size + j))))) := by
  obtain ⟨p, c, h0, hc, h⟩ := h
  exact ⟨p, c, by simpa using h0, hc, h⟩

/-- What one cell's value stands for. -/
def Sc.Den (A : Nat → Prop) (w : World) (ρ : Nat → Option Value) : Sc → Value → Prop
  | .int k n, v => v = .int k n
  | .bool b, v => v = .bool b
  | .ptr i o, v => ∃ b, ρ i = some (.pointer (some (pl b 0))) ∧ v = .pointer (some (pl b o))
  | .rp i t k j, v => ∃ b o n c, ρ i = some (.slice (some (pl b o)) n c) ∧ k < n ∧ v = .pointer (some (pl b (o + (k * t.size + j))))
  | .row i, v => ρ i = some v
  | .bsl i o n, v => ∃ b, ρ i = some (.pointer (some (pl b 0))) ∧ v = .slice (some (pl b o)) n n
  | .sl t xs, v => RI A w t v xs
  | .ep t x j, v => ∃ b o, v = .pointer (some (pl b (o + j))) ∧ A b ∧ DenC A w t x (fun j => w.cell? (pl b (o + j)))
  | .sln nn t xs, v => RI A w t v xs ∧ ∃ p m c, v = .slice p m c ∧ p.isSome = nn
  | .nil, v => v = .slice none 0 0
  | .func f caps, v => ∃ vs : List Value, v = .func (.func f) #[] vs.toArray ∧ vs.length = caps.length ∧
      ∀ (i : Nat) (io : Nat × Nat), caps[i]? = some io → ∃ b, ρ io.1 = some (Value.pointer (some (pl b 0))) ∧ vs[i]? = some (Value.pointer (some (pl b io.2)))
  | .clo f t x, v => ∃ vs : List Value, v = .func (.func f) #[] vs.toArray ∧ vs.length = t.size ∧ DenC A w t x (fun j => vs[j]?)
  | .vw i t l h, v => ∃ p n c, ρ i = some (.slice p n c) ∧ l ≤ h ∧ h ≤ n ∧ n ≤ c ∧ v = .slice (if c = l then p else p.map (·.add (l * t.size))) (h - l) (c - l)
  | .undef, v => v = Go.undef

/-- Pointwise. -/
def DenL (A : Nat → Prop) (w : World) (ρ : Nat → Option Value) : List Sc → List Value → Prop
  | [], [] => True
  | s :: ss, v :: vs => s.Den A w ρ v ∧ DenL A w ρ ss vs
  | _, _ => False

def V1.Den (A : Nat → Prop) (w : World) (ρ : Nat → Option Value) : V1 → Value → Prop
  | .one s, v => s.Den A w ρ v
  | .agg cs, v => ∃ vs : List Value, v = .agg vs.toArray ∧ DenL A w ρ cs vs

def DenVs (A : Nat → Prop) (w : World) (ρ : Nat → Option Value) : List V1 → List Value → Prop
  | [], [] => True
  | s :: ss, v :: vs => s.Den A w ρ v ∧ DenVs A w ρ ss vs
  | _, _ => False

def SV.Den (A : Nat → Prop) (w : World) (ρ : Nat → Option Value) : SV → Value → Prop
  | .val x, v => x.Den A w ρ v
  | .tup xs, v => ∃ vs : List Value, v = .tuple vs.toArray ∧ DenVs A w ρ xs vs

/-- ρ' says of each name what ρ says. -/
def Ext (ρ ρ' : Nat → Option Value) : Prop := ∀ i v, ρ i = some v → ρ' i = some v

theorem Ext.refl (ρ : Nat → Option Value) : Ext ρ ρ := fun _ _ h => h

section
variable {A A' : Nat → Prop} {w w' : World} {ρ ρ' : Nat → Option Value}

theorem Sc.Den.step (hs : Step A w A' w') (he : Ext ρ ρ') {s : Sc} {v : Value} (h : s.Den A w ρ v) : s.Den A' w' ρ' v := by
  cases s with
  | int k n => exact h
  | bool b => exact h
  | ptr i o => obtain ⟨b, h1, h2⟩ := h; exact ⟨b, he _ _ h1, h2⟩
  | rp i t k j => obtain ⟨b, o, n, c, h1, h2, h3⟩ := h; exact ⟨b, o, n, c, he _ _ h1, h2, h3⟩
  | row i => exact he _ _ h
  | bsl i o n => obtain ⟨b, h1, h2⟩ := h; exact ⟨b, he _ _ h1, h2⟩
  | sl t xs => exact RI.step hs h
  | sln nn t xs => exact ⟨RI.step hs h.1, h.2⟩
  | ep t x j =>
    obtain ⟨b, o, h1, h2, h3⟩ := h
    obtain ⟨k, v, hv⟩ := DenC.some_cell t _ _ h3
    exact ⟨b, o, h1, (hs b _ v h2 hv).1, DenC.step hs t x _ _ (fun j v _ e => (hs b _ v h2 e).2) h3⟩
  | nil => exact h
  | func f caps =>
    obtain ⟨vs, h1, h2, h3⟩ := h
    exact ⟨vs, h1, h2, fun i io e => let ⟨b, q, r⟩ := h3 i io e; ⟨b, he _ _ q, r⟩⟩
  | clo f t x => obtain ⟨vs, h1, h2, h3⟩ := h; exact ⟨vs, h1, h2, DenC.step hs t x _ _ (fun _ _ _ e => e) h3⟩
  | vw i t l r => obtain ⟨p, n, c, h1, h2⟩ := h; exact ⟨p, n, c, he _ _ h1, h2⟩
  | undef => exact h

theorem DenL.step (hs : Step A w A' w') (he : Ext ρ ρ') : ∀ {ss : List Sc} {vs : List Value}, DenL A w ρ ss vs → DenL A' w' ρ' ss vs
  | [], [], _ => trivial
  | _ :: _, _ :: _, h => ⟨h.1.step hs he, DenL.step hs he h.2⟩
  | [], _ :: _, h => h.elim
  | _ :: _, [], h => h.elim

theorem V1.Den.step (hs : Step A w A' w') (he : Ext ρ ρ') {s : V1} {v : Value} (h : s.Den A w ρ v) : s.Den A' w' ρ' v := by
  cases s with
  | one s => exact Sc.Den.step hs he h
  | agg cs => obtain ⟨vs, h1, h2⟩ := h; exact ⟨vs, h1, h2.step hs he⟩

theorem DenVs.step (hs : Step A w A' w') (he : Ext ρ ρ') : ∀ {ss : List V1} {vs : List Value}, DenVs A w ρ ss vs → DenVs A' w' ρ' ss vs
  | [], [], _ => trivial
  | _ :: _, _ :: _, h => ⟨h.1.step hs he, DenVs.step hs he h.2⟩
  | [], _ :: _, h => h.elim
  | _ :: _, [], h => h.elim

theorem SV.Den.step (hs : Step A w A' w') (he : Ext ρ ρ') {s : SV} {v : Value} (h : s.Den A w ρ v) : s.Den A' w' ρ' v := by
  cases s with
  | val x => exact V1.Den.step hs he h
  | tup xs => obtain ⟨vs, h1, h2⟩ := h; exact ⟨vs, h1, h2.step hs he⟩

theorem DenL.length : ∀ {ss : List Sc} {vs : List Value}, DenL A w ρ ss vs → ss.length = vs.length
  | [], [], _ => rfl
  | _ :: _, _ :: _, h => congrArg (· + 1) (DenL.length h.2)
  | [], _ :: _, h => h.elim
  | _ :: _, [], h => h.elim

theorem DenL.get : ∀ {ss : List Sc} {vs : List Value}, DenL A w ρ ss vs → ∀ {i : Nat} {s : Sc}, ss[i]? = some s → ∃ v, vs[i]? = some v ∧ s.Den A w ρ v
  | [], [], _, _, _, e => by simp at e
  | _ :: _, v :: _, h, 0, _, e => ⟨v, rfl, by simp at e; exact e ▸ h.1⟩
  | _ :: _, _ :: _, h, i + 1, _, e => DenL.get h.2 (by simpa using e)
  | [], _ :: _, h, _, _, _ => h.elim
  | _ :: _, [], h, _, _, _ => h.elim

theorem DenL.of_get : ∀ {ss : List Sc} {vs : List Value}, ss.length = vs.length → (∀ (i : Nat) (s : Sc) (v : Value), ss[i]? = some s → vs[i]? = some v → s.Den A w ρ v) → DenL A w ρ ss vs
  | [], [], _, _ => trivial
  | s :: ss, v :: vs, hl, h => ⟨h 0 s v rfl rfl, DenL.of_get (by simpa using hl) fun i s v e e' => h (i + 1) s v (by simpa using e) (by simpa using e')⟩
  | [], _ :: _, hl, _ => by simp at hl
  | _ :: _, [], hl, _ => by simp at hl

theorem DenL.append : ∀ {ss : List Sc} {vs : List Value} {ss' : List Sc} {vs' : List Value}, DenL A w ρ ss vs → DenL A w ρ ss' vs' → DenL A w ρ (ss ++ ss') (vs ++ vs')
  | [], [], _, _, _, h' => h'
  | _ :: _, _ :: _, _, _, h, h' => ⟨h.1, DenL.append h.2 h'⟩
  | [], _ :: _, _, _, h, _ => h.elim
  | _ :: _, [], _, _, h, _ => h.elim
end

/-- The block that a value leads to. -/
def ownB : Value → Option Nat
  | .pointer (some a) => some a.block
  | .slice (some a) _ _ => some a.block
  | _ => none

/-- What an own block holds. -/
def Blk.Ok (B : Nat) (A : Nat → Prop) (w : World) (ρ : Nat → Option Value) (v : Value) : Blk → Prop
  | .box cs => ∃ b arr t, v = .pointer (some (pl b 0)) ∧ B ≤ b ∧ w.heap[b]? = some (.cells arr t (0, 0)) ∧ DenL A w ρ cs arr.toList
  | .row t xs => (v = .slice none 0 0 ∧ xs = []) ∨ ∃ b o c arr e, v = .slice (some (pl b o)) xs.length c ∧ B ≤ b ∧ xs.length ≤ c ∧
      w.heap[b]? = some (.cells arr e (0, 0)) ∧ o + c * t.size ≤ arr.size ∧ ∀ i (h : i < xs.length), DenC A w t (xs[i]'h) (fun j => arr[o + (i * t.size + j)]?)

/-- The blocks that are nobody's own: those of S that no name of ours leads to. -/
def Al (S : Nat → Prop) (fH : Nat → Option Blk) (ρ : Nat → Option Value) (b : Nat) : Prop :=
  S b ∧ ∀ i blk v, fH i = some blk → ρ i = some v → ownB v ≠ some b

/-- The abstract state stands for the frame and the world. -/
structure Holds (S : Nat → Prop) (w0 : World) (n : Nat) (fr : Nat → Prop) (fE : Nat → Option SV) (fH : Nat → Option Blk) (ρ : Nat → Option Value) (a : Act) (w : World) : Prop where
  size : a.tmps.size = n
  defers : a.defers = []
  tmps : ∀ t sv, fE t = some sv → t < n ∧ sv.Den (Al S fH ρ) w ρ (a.tmps.getD t undef)
  blks : ∀ i blk, fH i = some blk → ∃ v, ρ i = some v ∧ blk.Ok w0.heap.size (Al S fH ρ) w ρ v
  inj : ∀ i j bi bj vi vj b, i ≠ j → fH i = some bi → fH j = some bj → ρ i = some vi → ρ j = some vj → ownB vi = some b → ownB vj ≠ some b
  fresh : ∀ i, fr i → ρ i = none ∧ fH i = none
  below : Below w0.heap.size w0 w
  new : ∀ b, w0.heap.size ≤ b → S b
  shape : ∀ i v, ρ i = some v → v.oneCell' = true

end Go.Proofs.YtkdohmgacodhjaaPx
