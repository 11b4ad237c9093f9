/- Structs, arrays and slice literals built: each operation leaves what 'aop' says; no condition. -/
import Derived.Test.YtkdohmgacodhjaaPx11
set_option linter.unusedVariables false
set_option linter.unusedSimpArgs false
namespace Go.Proofs.YtkdohmgacodhjaaPx
open Go.RowKit

section
variable {S : Nat → Prop} {w0 : World} {n : Nat} {fr fr' : Nat → Prop} {fE : Nat → Option SV} {fH fH' : Nat → Option Blk} {ρ : Nat → Option Value} {a : Act} {w w' : World} {P : Program}

def All2 {α β : Type} (R : α → β → Prop) : List α → List β → Prop
  | [], [] => True
  | x :: xs, y :: ys => R x y ∧ All2 R xs ys
  | _, _ => False
theorem All2.imp {α β : Type} {R R' : α → β → Prop} (h : ∀ x y, R x y → R' x y) : ∀ {xs : List α} {ys : List β}, All2 R xs ys → All2 R' xs ys
  | [], [], _ => trivial
  | _ :: _, _ :: _, q => ⟨h _ _ q.1, All2.imp h q.2⟩
  | [], _ :: _, q => q.elim
  | _ :: _, [], q => q.elim

theorem foldl_putA (off : Nat) : ∀ (l : List Value) (k : Nat) (cs : Array Value), (l.zipIdx k).foldl (fun cs x => cs.setIfInBounds (off + x.2) x.1) cs = putA cs (off + k) l
  | [], _, _ => rfl
  | v :: l, k, cs => by
    simp only [List.zipIdx_cons, List.foldl_cons, putA]
    rw [foldl_putA off l (k + 1)]
    rfl

theorem fill_cons {place : Nat → Option (Nat × Nat)} {cells : Array Value} {i off size : Nat} {v : Value} {rest : List (Nat × Value)} (hp : place i = some (off, size)) (hs : v.cells.size = size) (hl : off + size ≤ cells.size) :
    Instr.fill place cells ((i, v) :: rest) = Instr.fill place (putA cells off v.cells.toList) rest := by
  simp only [Instr.fill, hp]
  rw [if_neg (by simp [hs]; omega)]
  congr 1
  rw [← Array.foldl_toList, Array.toList_zipIdx]
  exact foldl_putA off _ 0 cells

/-- What 'fill' does, in abstract cells. -/
theorem fill_den {A : Nat → Prop} {place : Nat → Option (Nat × Nat)} (hsh : ∀ i v, ρ i = some v → v.oneCell' = true) : ∀ (is : List Nat) (xs : List V1) (vs : List Value) (l : List (Nat × List Sc)) (cs cs' : List Sc) (cells : Array Value),
    DenVs A w ρ xs vs → DenL A w ρ cs cells.toList → fillL cs l = some cs' →
    All2 (fun (p : Nat × V1) (q : Nat × List Sc) => place p.1 = some (q.1, q.2.length) ∧ q.2 = p.2.cells ∧ p.2.cells.all Sc.ok = true) (is.zip xs) l → is.length = xs.length →
    ∃ cells', Instr.fill place cells (is.zip vs) = some cells' ∧ DenL A w ρ cs' cells'.toList
  | [], [], [], [], cs, cs', cells, _, hc, hf, _, _ => by
    simp only [fillL, Option.some.injEq] at hf
    subst hf
    exact ⟨cells, rfl, hc⟩
  | i :: is, x :: xs, v :: vs, (o, q) :: l, cs, cs', cells, hd, hc, hf, hl, hlen => by
    obtain ⟨⟨hp, e0, hok⟩, hl⟩ := hl
    simp only [] at hp e0 hok
    subst e0
    simp only [fillL] at hf
    split at hf
    · rename_i hfit
      obtain ⟨h1, h2⟩ := hd.1.cells hsh hok
      have hcl := hc.length
      have hxl := h1.length
      have hset := hc.set (Step.refl) h1 hfit
      obtain ⟨cells', hr, hd'⟩ := fill_den hsh is xs vs l _ cs' _ hd.2 hset hf hl (by simpa using hlen)
      refine ⟨cells', ?_, hd'⟩
      rw [List.zip_cons_cons, fill_cons hp (by simpa using hxl.symm) (by simp at hcl; omega)]
      exact hr
    · simp at hf
  | [], _ :: _, _, _, _, _, _, _, _, _, _, h => by simp at h
  | _ :: _, [], _, _, _, _, _, _, _, _, _, h => by simp at h
  | _ :: _, _ :: _, [], _, _, _, _, hd, _, _, _, _ => hd.elim
  | [], [], _ :: _, _, _, _, _, hd, _, _, _, _ => hd.elim
  | [], [], [], _ :: _, _, _, _, _, _, _, hl, _ => hl.elim
  | _ :: _, _ :: _, _ :: _, [], _, _, _, _, _, _, hl, _ => hl.elim

theorem partsL_forall {t : TypeId} : ∀ {is : List Nat} {xs : List V1} {l : List (Nat × List Sc)}, partsL P t is xs = some l →
    is.length = xs.length ∧ All2 (fun (p : Nat × V1) (q : Nat × List Sc) => placeOf P t p.1 = some (q.1, q.2.length) ∧ q.2 = p.2.cells ∧ p.2.cells.all Sc.ok = true) (is.zip xs) l
  | [], [], l, h => by simp [partsL] at h; subst h; exact ⟨rfl, trivial⟩
  | i :: is, v :: vs, l, h => by
    simp only [partsL] at h
    split at h
    · rename_i o s r hp hr
      split at h
      · rename_i hc
        simp only [Option.some.injEq] at h
        subst h
        obtain ⟨h1, h2⟩ := partsL_forall hr
        exact ⟨by simp [h1], ⟨by rw [hp, hc.1], rfl, hc.2⟩, h2⟩
      · simp at h
    · simp at h
  | [], _ :: _, _, h => by simp [partsL] at h
  | _ :: _, [], _, h => by simp [partsL] at h

theorem run_places : ∀ (fs : List Field), (∀ f ∈ fs, (szOf P f.type).isSome = true) →
    (fs.mapM fun f => (do pure (f.offset, ← sizeOf f.type) : Sem (Nat × Nat))).run P w = .ok (fs.map fun f => (f.offset, (szOf P f.type).getD 0)) w
  | [], _ => rfl
  | f :: fs, h => by
    obtain ⟨s, hs⟩ := Option.isSome_iff_exists.1 (h f (by simp))
    rw [List.mapM_cons]
    simp only [Sem.run_bind, run_sizeOf hs, Result.andThen_ok, Sem.run_pure]
    rw [run_places fs (fun f hf => h f (by simp [hf]))]
    simp [hs]

theorem zip_map_eval (parts : List (Nat × Operand)) (f : Operand → Value) : parts.map (fun p => (p.1, f p.2)) = (parts.map (·.1)).zip ((parts.map (·.2)).map f) := by
  induction parts with
  | nil => rfl
  | cons p ps ih => simp [ih]

theorem aBuild_sound (h : Holds S w0 n fr fE fH ρ a w) {id : Nat} {t : TypeId} {parts : Array (Nat × Operand)} {xs : List V1} {e : Eff} (hx : DenVs (Al S fH ρ) w ρ xs ((parts.toList.map (·.2)).map a.eval))
    (he : (aBuild P t (parts.toList.map (·.1)) xs).Ev fE fH e) : Out P S w0 n fr fE fH a w id (nv (Instr.build t (parts.map fun (i, x) => (i, a.eval x)))) e := by
  unfold aBuild at he
  split at he
  · rename_i z l hz hl
    split at he
    · rename_i cs hf
      obtain rfl := he
      split at hl
      · rename_i hall
        obtain ⟨i, v, hi, hzv, hzd, _⟩ := zeroOf_den (A := Al S fH ρ) (w := w) (ρ := ρ) hz
        obtain ⟨hlen, hfa⟩ := partsL_forall hl
        have hparts : (parts.map fun (i, x) => (i, a.eval x)).toList = (parts.toList.map (·.1)).zip ((parts.toList.map (·.2)).map a.eval) := by
          rw [Array.toList_map]
          exact zip_map_eval parts.toList a.eval
        unfold allSz at hall
        split at hall
        · rename_i fs hu
          have hpl : ∀ j, (fs.toList.map fun f => (f.offset, (szOf P f.type).getD 0))[j]? = placeOf P t j := by
            intro j
            simp only [placeOf, hu]
            rw [List.getElem?_map, Array.getElem?_toList]
            cases hj : fs[j]? with
            | none => rfl
            | some f =>
              have hm : f ∈ fs.toList := by
                rw [← Array.getElem?_toList] at hj
                exact List.mem_of_getElem? hj
              obtain ⟨s, hs⟩ := Option.isSome_iff_exists.1 (List.all_eq_true.1 hall f hm)
              simp [hs]
          obtain ⟨cells', hfill, hd⟩ := fill_den (place := fun (j : Nat) => (fs.toList.map fun f => (f.offset, (szOf P f.type).getD 0))[j]?) h.shape (parts.toList.map (·.1)) xs _ l z cs v.cells hx hzd hf
            (by simpa only [hpl] using hfa) hlen
          refine out_same h id (run_v (v := .agg cells') ?_) ⟨cells'.toList, by simp, hd⟩
          have hmm : (fs.mapM fun f => (do pure (f.offset, ← sizeOf f.type) : Sem (Nat × Nat))).run P w = .ok (fs.toList.map fun f => (f.offset, (szOf P f.type).getD 0)).toArray w := by
            rw [Array.mapM_eq_mapM_toList, Sem.run_map, run_places fs.toList (fun f hf => List.all_eq_true.1 hall f hf)]
            rfl
          simp only [Instr.build, Sem.run_bind, run_zeroValue hi hzv, Result.andThen_ok, run_underlying hu, hmm, Sem.run_pure]
          rw [hparts]
          have : (fun (x : Nat) => ((fs.toList.map fun f => (f.offset, (szOf P f.type).getD 0)).toArray)[x]?) = fun (j : Nat) => (fs.toList.map fun f => (f.offset, (szOf P f.type).getD 0))[j]? := by
            funext j; simp
          rw [this, hfill]
          rfl
        · rename_i len el hu
          obtain ⟨s, hs⟩ := Option.isSome_iff_exists.1 hall
          obtain ⟨cells', hfill, hd⟩ := fill_den (place := fun j => some (j * s, s)) h.shape (parts.toList.map (·.1)) xs _ l z cs v.cells hx hzd hf
            (by
              refine hfa.imp fun p q hpq => ?_
              obtain ⟨h1, h2, h3⟩ := hpq
              simp only [placeOf, hu, hs, Option.map_some, Option.some.injEq, Prod.mk.injEq] at h1
              exact ⟨by rw [h1.1, h1.2], h2, h3⟩) hlen
          refine out_same h id (run_v (v := .agg cells') ?_) ⟨cells'.toList, by simp, hd⟩
          simp only [Instr.build, Sem.run_bind, run_zeroValue hi hzv, Result.andThen_ok, run_underlying hu, run_sizeOf hs, Sem.run_pure]
          rw [hparts, hfill]
          rfl
        · simp at hall
      · simp at hl
    · exact he.elim
  · exact he.elim
end
end Go.Proofs.YtkdohmgacodhjaaPx
