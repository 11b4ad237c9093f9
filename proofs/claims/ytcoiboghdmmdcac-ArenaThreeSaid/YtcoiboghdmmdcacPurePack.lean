/- References packed; no condition. -/
import Derived.Test.YtcoiboghdmmdcacPureTag
set_option linter.unusedVariables false
set_option linter.unusedSimpArgs false
namespace Go.Proofs.Ytcoiboghdmmdcac.Pure
open Go Go.RowKit Go.Proofs.YtcoiboghdmmdcacFn Go.Proofs.YtcoiboghdmmdcacPx

theorem pack_eq (s g : Int) : tag_Pack (s, g) = some (packV s g) := by
  unfold tag_Pack packV
  rw [min10]
  simp only [dec]
  by_cases h : 0 ≤ s ∧ s < 1024 ∧ 0 ≤ g ∧ g < 1099511627776
  · rw [if_pos h, if_neg (by omega), if_neg (by omega), if_neg (by omega), if_neg (by omega)]
    rw [show (2 : Int) ^ 10 = 1024 from rfl, w64 (n := g * 1024) (by omega) (by omega), w64 (n := g * 1024 + s) (by omega) (by omega), w64 (by omega) (by omega)]
    simp only [Option.some.injEq, Prod.mk.injEq, and_true]
    omega
  · rw [if_neg h]
    repeat' split
    all_goals first | rfl | (exfalso; omega)
end Go.Proofs.Ytcoiboghdmmdcac.Pure
