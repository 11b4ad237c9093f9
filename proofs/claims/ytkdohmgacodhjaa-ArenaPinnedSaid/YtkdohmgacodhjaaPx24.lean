/- What the printed texts lean on; no condition. -/
import Derived.Test.YtkdohmgacodhjaaPx23
set_option linter.unusedVariables false
set_option linter.unusedSimpArgs false
namespace Go.Proofs.YtkdohmgacodhjaaPx
open Go.RowKit

def flagS : Sig := ⟨[], [], false, fun _ => none⟩
/-- .. and lengths are spelt by 'lenI'. -/
def flagL : Sig := ⟨[], [], true, fun _ => none⟩
/-- .. and make([][]T, n) lays n rows of its own. -/
def flagN : Sig := ⟨[⟨false, .int⟩], [], false, fun _ => none⟩
/-- A second argument put in. -/
def ins1 (z : V1) : List V1 → List V1
  | u :: l => u :: z :: l
  | [] => []
def bodyOf (fn : Func) : Code := match fn.body with | some c => c | none => .skip
def lkΓ (l : List (Nat × Sig)) (f : FuncId) : Option Sig := look l f

section
variable {P : Program} {R : Type} {Λ : Nat → Nat → List SV → List Blk → Option R}

theorem lkΓ_nil : ∀ f s, lkΓ [] f = some s → GOk P f s := fun f s h => by simp [lkΓ, look] at h
theorem lkΓ_cons {g : Nat} {s0 : Sig} {l : List (Nat × Sig)} (h0 : SigOk P (unK g) s0 ∧ Bodied P (unK g)) (hl : ∀ f s, lkΓ l f = some s → GOk P f s) : ∀ f s, lkΓ ((g, s0) :: l) f = some s → GOk P f s := by
  intro f s h
  simp only [lkΓ, look] at h
  split at h
  · rename_i hb
    obtain rfl := Nat.eq_of_beq_eq_true hb
    obtain rfl := Option.some.inj h
    exact .inr h0
  · exact hl f s h

theorem lkΓ_flag {s0 : Sig} {l : List (Nat × Sig)} (hl : ∀ f s, lkΓ l f = some s → GOk P f s) : ∀ f s, lkΓ ((flagK, s0) :: l) f = some s → GOk P f s := by
  intro f s h
  simp only [lkΓ, look] at h
  split at h
  · rename_i hb
    exact .inl (Nat.eq_of_beq_eq_true hb).symm
  · exact hl f s h

def nthC : List (Cut R) → Nat → Cut R
  | [], _ => ⟨0, [], fun _ => .fail⟩
  | c :: _, 0 => c
  | _ :: l, n + 1 => nthC l n

theorem cutOk_of {p : Cut R} {L : Nat} {live : List Nat} (hL : p.L = L) (hl : p.live = live) (h : ∀ k vs bs r, Λ (k + 1) L vs bs = some r → (p.g (mkSt live vs bs)).run (Λ k) = some r) : CutOk Λ p := by
  intro k vs bs r hr
  rw [hL] at hr
  rw [hl]
  exact h k vs bs r hr

theorem cutOk_none {p : Cut R} (h : ∀ k vs bs, Λ k p.L vs bs = none) : CutOk Λ p := by
  intro k vs bs r hr
  rw [h] at hr; cases hr

theorem nthC_mem : ∀ {l : List (Cut R)} {p : Cut R}, p ∈ l → ∃ i, i < l.length ∧ nthC l i = p
  | c :: l, p, h => by
    rcases List.mem_cons.1 h with rfl | h
    · exact ⟨0, by simp, rfl⟩
    · obtain ⟨i, h1, h2⟩ := nthC_mem h
      exact ⟨i + 1, by simpa using h1, h2⟩

theorem cutsOk {l : List (Cut R)} {n : Nat} (hn : l.length = n) (h : ∀ i, i < n → CutOk Λ (nthC l i)) : ∀ p ∈ l, CutOk Λ p := by
  intro p hp
  obtain ⟨i, h1, rfl⟩ := nthC_mem hp
  exact h i (hn ▸ h1)

theorem cutsNil {l : List (Cut R)} (hn : l.length = 0) : ∀ p ∈ l, CutOk Λ p := by
  intro p hp
  rw [List.eq_nil_of_length_eq_zero hn] at hp
  simp at hp

theorem bodied_of {f : FuncId} {fn : Func} (hf : P.funcs[f]? = some fn) (h1 : (fn.name == "runtime.NumGoroutine") = false) (h2 : fn.body.isNone = false) : Bodied P f := ⟨fn, hf, h1, h2⟩
end
end Go.Proofs.YtkdohmgacodhjaaPx
