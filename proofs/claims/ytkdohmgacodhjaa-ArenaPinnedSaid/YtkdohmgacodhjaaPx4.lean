/- What single operations of the machine come to, in the words of cells; no condition. -/
import Derived.Test.YtkdohmgacodhjaaPx3
import Derived.Laws.Sem
set_option linter.unusedVariables false
set_option linter.unusedSimpArgs false
namespace Go.Proofs.YtkdohmgacodhjaaPx
open Go.RowKit

section
variable {P : Program} {w : World}

theorem run_underlying {t : TypeId} {d : TypeDesc} (h : P.underlying t = some d) : (underlying t).run P w = .ok d w := by simp [underlying, h]
theorem run_typeInfo {t : TypeId} {i : TypeInfo} (h : P.info? t = some i) : (typeInfo t).run P w = .ok i w := by simp [typeInfo, h]
theorem run_sizeOf {t : TypeId} {s : Nat} (h : szOf P t = some s) : (sizeOf t).run P w = .ok s w := by
  obtain ⟨i, hi, rfl⟩ := Option.map_eq_some_iff.1 h
  simp [sizeOf, run_typeInfo hi]
theorem run_isAgg {t : TypeId} {b : Bool} (h : isAggT P t = some b) : (isAgg t).run P w = .ok b w := by
  obtain ⟨d, hd, rfl⟩ := Option.map_eq_some_iff.1 h
  simp only [isAgg, Sem.run_bind, run_underlying hd, Result.andThen_ok]
  cases d <;> rfl

theorem add_pl (b o k : Nat) : (pl b o).add k = pl b (o + k) := by
  unfold Addr.add pl
  split <;> simp_all

theorem run_loadCellsFrom (b o : Nat) : ∀ (vs : List Value) (i : Nat) (acc : Array Value), (∀ j v, vs[j]? = some v → w.cell? (pl b (o + (i + j))) = some v) →
    (loadCellsFrom (pl b o) i vs.length acc).run P w = .ok (acc ++ vs.toArray) w
  | [], i, acc, _ => by simp [loadCellsFrom]
  | v :: vs, i, acc, h => by
    have h0 := h 0 v rfl
    simp only [List.length_cons, loadCellsFrom, Sem.run_bind, run_load, add_pl]
    rw [show o + i = o + (i + 0) from rfl, h0]
    simp only [Result.andThen_ok]
    rw [run_loadCellsFrom b o vs (i + 1) (acc.push v) (fun j u e => by have := h (j + 1) u (by simpa using e); rw [show i + 1 + j = i + (j + 1) by omega]; exact this)]
    simp

/-- A value of a type, out of cells. -/
def valOf (ag : Bool) (vs : List Value) : Value := if ag then .agg vs.toArray else vs.headD undef

theorem run_loadVar {t : TypeId} {ag : Bool} {sz : Nat} (h1 : isAggT P t = some ag) (h2 : szOf P t = some sz) (b o : Nat) (vs : List Value)
    (hl : vs.length = if ag then sz else 1) (hc : ∀ j v, vs[j]? = some v → w.cell? (pl b (o + j)) = some v) : (loadVar t (pl b o)).run P w = .ok (valOf ag vs) w := by
  simp only [loadVar, Sem.run_bind, run_isAgg h1, Result.andThen_ok]
  cases ag with
  | true =>
    simp only [if_true] at hl ⊢
    simp only [Sem.run_bind, run_sizeOf h2, Result.andThen_ok, loadCells]
    rw [← hl, run_loadCellsFrom b o vs 0 #[] (fun j v e => by rw [Nat.zero_add]; exact hc j v e)]
    simp [valOf]
  | false =>
    match vs, hl with
    | [v], _ =>
      have := hc 0 v rfl
      simp only [Bool.false_eq_true, if_false, run_load]
      rw [show pl b o = pl b (o + 0) from rfl, this]
      rfl

/-! ### Writing into a block of cells -/
def putA (arr : Array Value) : Nat → List Value → Array Value
  | _, [] => arr
  | o, v :: vs => putA (arr.setIfInBounds o v) (o + 1) vs

theorem putA_size (arr : Array Value) (o : Nat) (vs : List Value) : (putA arr o vs).size = arr.size := by
  induction vs generalizing arr o with
  | nil => rfl
  | cons v vs ih => simp [putA, ih]

theorem putA_get (arr : Array Value) (o : Nat) (vs : List Value) (h : o + vs.length ≤ arr.size) (j : Nat) :
    (putA arr o vs)[j]? = if o ≤ j ∧ j < o + vs.length then vs[j - o]? else arr[j]? := by
  induction vs generalizing arr o with
  | nil => simp [putA]; omega
  | cons v vs ih =>
    simp only [putA, List.length_cons] at h ⊢
    rw [ih _ _ (by simp; omega)]
    simp only [Array.getElem?_setIfInBounds]
    by_cases h1 : o = j
    · subst h1
      rw [if_neg (by omega), if_pos rfl, if_pos (by omega), if_pos (by omega)]
      simp
    · by_cases h2 : o + 1 ≤ j ∧ j < o + 1 + vs.length
      · rw [if_pos h2, if_pos (by omega), show j - o = (j - (o + 1)) + 1 by omega]
        simp
      · rw [if_neg h2, if_neg h1, if_neg (by omega)]

/-- The world with another row of cells in block b. -/
def _root_.Go.World.setArr (w : World) (b : Nat) (arr : Array Value) (t : TypeId) : World := { w with heap := w.heap.setIfInBounds b (.cells arr t (0, 0)) }

theorem setArr_same {w : World} {b : Nat} (h : b < w.heap.size) (arr : Array Value) (t : TypeId) : (w.setArr b arr t).heap[b]? = some (.cells arr t (0, 0)) := by
  simp [World.setArr, h]
theorem setArr_other {w : World} {b k : Nat} (h : k ≠ b) (arr : Array Value) (t : TypeId) : (w.setArr b arr t).heap[k]? = w.heap[k]? := by
  unfold World.setArr
  rw [Array.getElem?_setIfInBounds, if_neg (fun q => h q.symm)]
theorem setArr_size {w : World} {b : Nat} (arr : Array Value) (t : TypeId) : (w.setArr b arr t).heap.size = w.heap.size := by simp [World.setArr]
theorem setArr_setArr {w : World} {b : Nat} (arr arr' : Array Value) (t t' : TypeId) : (w.setArr b arr t).setArr b arr' t' = w.setArr b arr' t' := by
  simp [World.setArr]

theorem setArr_id {w : World} {b : Nat} {arr : Array Value} {t : TypeId} (h : w.heap[b]? = some (.cells arr t (0, 0))) : w.setArr b arr t = w := by
  have : w.heap.setIfInBounds b (.cells arr t (0, 0)) = w.heap := by
    apply Array.ext_getElem?
    intro i
    rw [Array.getElem?_setIfInBounds]
    split
    · rename_i e
      subst e
      rw [if_pos (Array.getElem?_eq_some_iff.1 h).1, h]
    · rfl
  simp [World.setArr, this]

theorem setCell_setArr {w : World} {b : Nat} {arr : Array Value} {t : TypeId} (h : w.heap[b]? = some (.cells arr t (0, 0))) (o : Nat) (v : Value) :
    w.setCell (pl b o) v = w.setArr b (arr.setIfInBounds o v) t := by
  simp only [World.setCell, World.setArr]
  congr 1
  apply Array.ext_getElem?
  intro i
  rw [Array.getElem?_modify, Array.getElem?_setIfInBounds]
  split
  · rename_i e
    subst e
    rw [if_pos (Array.getElem?_eq_some_iff.1 h).1, h]
    rfl
  · rfl

theorem run_store_arr {b : Nat} {arr : Array Value} {t : TypeId} (h : w.heap[b]? = some (.cells arr t (0, 0))) (o : Nat) (ho : o < arr.size) (v : Value) (hv : v.oneCell' = true) :
    (store (pl b o) v).run P w = .ok () (w.setArr b (arr.setIfInBounds o v) t) := by
  rw [run_store _ _ _ _ _ hv, cell_of h, Array.getElem?_eq_getElem ho]
  simp only []
  have hz : w.frozen? (pl b o) = false := by simp [World.frozen?, h]
  rw [hz, setCell_setArr h]
  rfl

theorem run_storeCells {b : Nat} {t : TypeId} (o : Nat) : ∀ (vs : List Value) (i : Nat) (arr : Array Value) (w : World), w.heap[b]? = some (.cells arr t (0, 0)) →
    o + i + vs.length ≤ arr.size → (∀ v ∈ vs, v.oneCell' = true) → (storeCells (pl b o) vs i).run P w = .ok () (w.setArr b (putA arr (o + i) vs) t)
  | [], i, arr, w, h, _, _ => by simp [storeCells, putA, setArr_id h]
  | v :: vs, i, arr, w, h, hl, hv => by
    simp only [List.length_cons] at hl
    simp only [storeCells, Sem.run_bind, add_pl]
    rw [run_store_arr h (o + i) (by omega) v (hv v (by simp))]
    simp only [Result.andThen_ok]
    have hb := (Array.getElem?_eq_some_iff.1 h).1
    rw [run_storeCells o vs (i + 1) _ _ (setArr_same hb _ _) (by simp; omega) (fun u hu => hv u (by simp [hu])), setArr_setArr]
    simp [putA, Nat.add_assoc]

theorem run_storeVar {t : TypeId} {v : Value} {b : Nat} {arr : Array Value} {e : TypeId} (h : w.heap[b]? = some (.cells arr e (0, 0))) (o : Nat) (vs : List Value)
    (hv : v.cells = vs.toArray) (hs : szOf P t = some vs.length) (hl : o + vs.length ≤ arr.size) (h1 : ∀ v ∈ vs, v.oneCell' = true) :
    (storeVar t (pl b o) v).run P w = .ok () (w.setArr b (putA arr o vs) e) := by
  simp only [storeVar, Sem.run_bind, run_sizeOf hs, Result.andThen_ok]
  rw [hv]
  simp only [List.size_toArray, ne_eq, not_true_eq_false, if_false, Sem.run_pure, Result.andThen_ok]
  rw [run_storeCells o vs 0 arr w h (by omega) h1]
  rfl

end
end Go.Proofs.YtkdohmgacodhjaaPx
