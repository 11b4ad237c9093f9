/- References: what they are packed of; no condition. -/
import Derived.Test.YthnbleblmpnfhaaPureBase
set_option linter.unusedVariables false
set_option linter.unusedSimpArgs false
namespace Go.Proofs.Ythnbleblmpnfhaa.Pure
open Go Go.RowKit Go.Proofs.YthnbleblmpnfhaaFn Go.Proofs.YthnbleblmpnfhaaPx

def packV (s g : Int) : Int × Int := if 0 ≤ s ∧ s < 1024 ∧ 0 ≤ g ∧ g < 1099511627776 then (1 + 1024 * g + s, 0) else (0, 1)
def unpackV (r : Int) : Int × Int × Int := if 1 ≤ r ∧ r ≤ 1125899906842624 then ((r - 1) % 1024, (r - 1) / 1024, 0) else (0, 0, 1)

theorem unpack_eq (r : Int) (hb : -9223372036854775808 ≤ r ∧ r ≤ 9223372036854775807) : tag_Unpack r = some (unpackV r) := by
  unfold tag_Unpack unpackV
  rw [min10]
  simp only [dec]
  by_cases h1 : r < 1
  · rw [if_pos h1, if_neg (by omega)]
  · have e : wrap64 (r - 1) = r - 1 := w64 (by omega) (by omega)
    have e2 : (r - 1).fdiv (2 ^ 10) = (r - 1) / 1024 := by rw [Int.fdiv_eq_ediv_of_nonneg _ (by decide)]; rfl
    rw [if_neg h1, e, e2, and1023 _ (by omega) (by omega)]
    by_cases h2 : r ≤ 1125899906842624
    · rw [if_neg (by omega), if_pos (by omega)]
    · rw [if_pos (by omega), if_neg (by omega)]

theorem runpack_eq (r : Int) (hb : -9223372036854775808 ≤ r ∧ r ≤ 9223372036854775807) : tendrilref01_Unpack r = some (unpackV r) := by
  unfold tendrilref01_Unpack unpackV
  simp only [dec]
  by_cases h1 : r < 1
  · rw [if_pos h1, if_neg (by omega)]
  · rw [if_neg h1]
    by_cases h2 : 1125899906842624 < r
    · rw [if_pos h2, if_neg (by omega)]
    · have e : wrap64 (r - 1) = r - 1 := w64 (by omega) (by omega)
      obtain ⟨d1, d2⟩ := tdm (r - 1) 1024 (by omega)
      rw [if_neg h2, if_pos (by omega), e, d1, d2, w64 (by omega) (by omega)]

theorem unpack_pack (s g : Int) (h : 0 ≤ s ∧ s < 1024 ∧ 0 ≤ g ∧ g < 1099511627776) : unpackV (1 + 1024 * g + s) = (s, g, 0) := by
  unfold unpackV
  rw [if_pos (by omega)]
  simp only [Prod.mk.injEq, and_true]
  omega
theorem unpack_some {r s g : Int} (h : unpackV r = (s, g, 0)) : r = 1 + 1024 * g + s ∧ 0 ≤ s ∧ s < 1024 ∧ 0 ≤ g ∧ g < 1099511627776 := by
  unfold unpackV at h
  split at h
  · simp only [Prod.mk.injEq, and_true] at h; omega
  · simp at h
theorem unpack_err (r : Int) : (unpackV r).2.2 = 0 ∨ unpackV r = (0, 0, 1) := by
  unfold unpackV
  split
  · exact .inl rfl
  · exact .inr rfl
end Go.Proofs.Ythnbleblmpnfhaa.Pure
