/- Lists of numbers compared, and copied; no condition. -/
import Derived.Test.YtcoiboghdmmdcacPureBase
set_option linter.unusedVariables false
set_option linter.unusedSimpArgs false
namespace Go.Proofs.Ytcoiboghdmmdcac.Pure
open Go Go.RowKit Go.Proofs.YtcoiboghdmmdcacFn Go.Proofs.YtcoiboghdmmdcacPx

theorem clone_eq (m : List Int) (h : m.length ≤ 1000000) : slices_Clone m = some m := by
  unfold slices_Clone
  simp [h]
end Go.Proofs.Ytcoiboghdmmdcac.Pure
