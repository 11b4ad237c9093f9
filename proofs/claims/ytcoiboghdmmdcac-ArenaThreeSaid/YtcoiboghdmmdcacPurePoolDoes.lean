/- PoolDoes: what pool does is what the reference does, and the pool stays as it was; no condition. -/
import Derived.Test.YtcoiboghdmmdcacPurePool3
set_option linter.unusedVariables false
set_option linter.unusedSimpArgs false
namespace Go.Proofs.Ytcoiboghdmmdcac.Pure
open Go Go.RowKit Go.Proofs.YtcoiboghdmmdcacFn Go.Proofs.YtcoiboghdmmdcacPx

theorem small_take (p : Pool) (h : small p) : small (takeV p).1 := by
  obtain ⟨G, S, W, F⟩ := p
  by_cases hk : okP (G, S, W, F)
  · cases F with
    | nil => rw [take_full hk]; exact small_noP
    | cons f F =>
      rw [take_one hk]
      obtain ⟨h1, h2, h3, h4⟩ := h
      simp only [List.length_cons] at h1 h2 h3 h4
      exact ⟨h1, by simpa using h2, h3, by simp only; omega⟩
  · rw [take_no hk]; exact small_noP
theorem small_retire (p : Pool) (r w : Int) (h : small p) : small (retireV p r w).1 := by
  unfold retireV
  obtain ⟨h1, h2, h3, h4⟩ := h
  split
  · split
    · exact ⟨h1, by simpa using h2, by simpa using h3, h4⟩
    · exact small_noP
  · exact small_noP
theorem small_reclaim (p : Pool) (u : Int) : small (reclaimV p u).1 := by
  unfold reclaimV
  split
  · rename_i h
    exact (okP_reclaim u h).small
  · exact small_noP
end Go.Proofs.Ytcoiboghdmmdcac.Pure
