/- ArenaPinned: whatever the input, it computes true; no condition. -/
import Derived.Test.YtkdohmgacodhjaaPurePinB
import Derived.Test.YtkdohmgacodhjaaApF
set_option linter.unusedVariables false
set_option linter.unusedSimpArgs false
namespace Go.Proofs.Ytkdohmgacodhjaa.Pure
open Go Go.RowKit Go.Proofs.YtkdohmgacodhjaaFn Go.Proofs.YtkdohmgacodhjaaPx

theorem ArenaPinned (x : (Int × Int × Int × Int × Int) × Int × List Int) (hx : InRT [⟨true, (.pair .int (.pair .int (.pair .int (.pair .int .int))))⟩, ⟨false, .int⟩, ⟨false, (.sl .int)⟩] x) : ap x = some true := by
  obtain ⟨c, n, st⟩ := x
  have hst : ∀ v ∈ st, v ≤ 9223372036854775807 := fun v hv => (hx.2.2.2 v hv).2
  unfold ap
  simp only
  by_cases h1 : n = 1
  · rw [if_pos h1]; exact pin1 2000000 (by decide) (c, st) hst
  rw [if_neg h1]
  by_cases h2 : n = 2
  · rw [if_pos h2]; exact pin2 2000000 (by decide) (c, st) hst
  rw [if_neg h2]
  by_cases h3 : n = 3
  · rw [if_pos h3]; exact pin3 2000000 (by decide) (c, st) hst
  rw [if_neg h3]
  by_cases h4 : n = 4
  · rw [if_pos h4]; exact pin4 2000000 (by decide) (c, st) hst
  rw [if_neg h4]
  by_cases h5 : n = 5
  · rw [if_pos h5]; exact pin5 2000000 (by decide) (c, st) hst
  rw [if_neg h5]
  by_cases h6 : n = 6
  · rw [if_pos h6]; exact pin6 2000000 (by decide) (c, st) hst
  rw [if_neg h6]
  unfold tendrillaw07_ArenaPinned tendrillaw07_ArenaPinned_K
  rw [live7_eq, Option.bind_some, Bool.not_true, cond_false]
  by_cases a : n < 1
  · rw [ct a]
  rw [cf a, ct (by simp only; omega)]
end Go.Proofs.Ytkdohmgacodhjaa.Pure
