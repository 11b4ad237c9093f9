/- Plain facts about numbers, tests and lists; no condition. -/
import Derived.Test.YthnbleblmpnfhaaFns
import Derived.IntWalk
import Derived.Laws.BitsLemmas
set_option linter.unusedVariables false
set_option linter.unusedSimpArgs false
namespace Go.Proofs.Ythnbleblmpnfhaa.Pure
open Go Go.RowKit Go.Proofs.YthnbleblmpnfhaaFn Go.Proofs.YthnbleblmpnfhaaPx

theorem ne_dec (a b : Int) : (a != b) = !decide (a = b) := rfl
theorem eq_dec (a b : Int) : (a == b) = decide (a = b) := rfl
theorem nec (a b : Int) {α : Type} (x y : α) : (bif a != b then x else y) = if a = b then y else x := by by_cases h : a = b <;> simp [h, ne_dec]
theorem eqc (a b : Int) {α : Type} (x y : α) : (bif a == b then x else y) = if a = b then x else y := by by_cases h : a = b <;> simp [h, eq_dec]
theorem dec {p : Prop} [Decidable p] {α : Type} (x y : α) : (bif decide p then x else y) = if p then x else y := by by_cases h : p <;> simp [h]
theorem w64 {n : Int} (h1 : -9223372036854775808 ≤ n) (h2 : n ≤ 9223372036854775807) : wrap64 n = n := IntWalk.wrap64_in n ⟨h1, h2⟩
theorem wi {i : Nat} (h : i ≤ 1000000) : wrap64 ((i : Int) + 1) = ((i + 1 : Nat) : Int) := by rw [w64 (by omega) (by omega)]; omega

theorem getD_set {α : Type} (l : List α) (i j : Nat) (v d : α) (h : i < l.length) : (l.set i v).getD j d = if i = j then v else l.getD j d := by
  simp only [List.getD_eq_getElem?_getD, List.getElem?_set]
  by_cases e : i = j
  · subst e; simp [h]
  · simp [e]
theorem getD_get {α : Type} (l : List α) (i : Nat) (d : α) (h : i < l.length) : l.getD i d = l[i] := by simp [List.getD_eq_getElem?_getD, h]
theorem getD_rep {α : Type} (n i : Nat) (v d : α) (h : i < n) : (List.replicate n v).getD i d = v := by simp [List.getD_eq_getElem?_getD, h]
theorem ext_getD {α : Type} (d : α) {a b : List α} (h : a.length = b.length) (he : ∀ i, i < a.length → a.getD i d = b.getD i d) : a = b := by
  apply List.ext_getElem h
  intro i h1 h2
  have := he i h1
  rwa [getD_get a i d h1, getD_get b i d h2] at this
theorem drop_cons {α : Type} (l : List α) (i : Nat) (d : α) (h : i < l.length) : l.drop i = l.getD i d :: l.drop (i + 1) := by
  rw [getD_get l i d h]; exact List.drop_eq_getElem_cons h

theorem and1023 (n : Int) (h0 : 0 ≤ n) (h1 : n < 9223372036854775808) : Go.bits .and .i64 n 1023 = n % 1024 :=
  bits_mask .i64 63 (by decide) (fun m a b => by rw [IntKind.wrap_i64]; omega) 10 (by decide) n h0 h1
theorem and1 (n : Int) (h0 : 0 ≤ n) (h1 : n < 9223372036854775808) : Go.bits .and .i64 n 1 = n % 2 :=
  bits_mask .i64 63 (by decide) (fun m a b => by rw [IntKind.wrap_i64]; omega) 1 (by decide) n h0 h1
theorem and3 (n : Int) (h0 : 0 ≤ n) (h1 : n < 9223372036854775808) : Go.bits .and .i64 n 3 = n % 4 :=
  bits_mask .i64 63 (by decide) (fun m a b => by rw [IntKind.wrap_i64]; omega) 2 (by decide) n h0 h1
theorem min10 : Min.min (Int.toNat (10 : Int)) Go.IntKind.i64.bits = 10 := by decide
theorem tdm (a b : Int) (h : 0 ≤ a) : a.tdiv b = a / b ∧ a.tmod b = a % b := ⟨Int.tdiv_eq_ediv_of_nonneg h, Int.tmod_eq_emod_of_nonneg h⟩
end Go.Proofs.Ythnbleblmpnfhaa.Pure
