/- EraDoes: what era does is what the reference does, and the era stays as it was; no condition. -/
import Derived.Test.YtcoiboghdmmdcacPureEra
set_option linter.unusedVariables false
set_option linter.unusedSimpArgs false
namespace Go.Proofs.Ytcoiboghdmmdcac.Pure
open Go Go.RowKit Go.Proofs.YtcoiboghdmmdcacFn Go.Proofs.YtcoiboghdmmdcacPx

theorem pin_len (e : Era) (t : Int) (h : e.2.length ≤ 1000) : (pinV e t).1.2.length ≤ 1000 := by
  unfold pinV
  split
  · simpa using h
  · simp [noE]
theorem unpin_len (e : Era) (t : Int) (h : e.2.length ≤ 1000) : (unpinV e t).1.2.length ≤ 1000 := by
  unfold unpinV
  split
  · split
    · simp [noE]
    · simpa using h
  · simp [noE]
theorem turn_len (e : Era) (h : e.2.length ≤ 1000) : (turnV e).1.2.length ≤ 1000 := by
  unfold turnV
  split
  · split
    · exact h
    · exact h
  · simp [noE]
end Go.Proofs.Ytcoiboghdmmdcac.Pure
