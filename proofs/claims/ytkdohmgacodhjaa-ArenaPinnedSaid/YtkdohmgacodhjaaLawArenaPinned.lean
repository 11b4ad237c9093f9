/- 'tendril/tendrillaw07.ArenaPinned': whatever the input, the law returns true, and the input reads as it did; no condition. -/
import Derived.Test.YtkdohmgacodhjaaRows
import Derived.Test.YtkdohmgacodhjaaPureArenaPinned
import Derived.WalkKit
import Derived.ProofKit
import Derived.OpenShut
import Derived.ShutString
import Derived.ChangeOld
import Derived.Below
import Derived.SizedLaws
namespace Go.Proofs.Ytkdohmgacodhjaa.arenaPinned
open Go.ChangeShapes Go.WideShapes Go.ChangeAt Go.RowKit
set_option linter.unusedVariables false
theorem own : ownKnob Try.prog.godebug = none := by kernel_rfl
theorem laid : laidOutB Try.prog = true := by kernel_rfl
set_option maxRecDepth 100000 in
theorem lifted (os : Os) (started : os.Started) (H : Type) (enc : TypeId × Value → H) :
    ReturnsInHanded {} Try.checked os 3 .any (Rows.arenaPinnedSpec.pre6 enc Try.prog Try.f3 Rows.arenaPinnedRow.domain false) (Rows.arenaPinnedSpec.post enc Try.prog Try.f3 false true false false) := by
  refine returnsInHanded_of_change_sized (C := Try.checked) own started (by kernel_rfl) Try.func3
    (ChangeSpec.witness6 (enc := enc) (C := Try.checked) false ⟨#[], #[.agg #[.int .i64 0, .int .i64 0, .int .i64 0, .int .i64 0, .int .i64 0], .int .i64 0, .slice none 0 0], []⟩ 40 (by kernel_rfl) (by kernel_rfl) (by kernel_rfl) (by kernel_rfl)) ?_
  intro W base args ds gs before hval0 hW hcnd hsz0 _
  have hval : ∀ (j : Nat) t v, Try.f3.params[j]? = some t → args[j]? = some v → Value.okWide Try.prog W .any base t v := hval0
  have hW' := hW
  obtain ⟨p, q, hA0, hV, hpq, hfz, hnd⟩ := hW
  have hA : DataW.TrodAll enc Try.prog W 0 (fun _ => true) true Try.f3.params.toList args.toList ds p := hA0
  rw [Try.params3] at hA hval
  obtain ⟨hg, hq⟩ := trodVars_none hV
  subst hg; subst hq
  have hlt : ∀ x ∈ p, x.block < W.heap.size := fun x hx => by
    have hm : x ∈ before := by rw [hpq]; simp [hx]
    simpa using hW'.lt x hm
  have hok : ∀ (j : Nat) t v, [23, 3, 24][j]? = some t → args.toList[j]? = some v → Value.okWide Try.prog W .any 0 t v := fun j t v e1 e2 => YtkdohmgacodhjaaPx.okWide_base (hval j t v (by simpa using e1) (by simpa using e2))
  obtain ⟨x, hx, hd⟩ := YtkdohmgacodhjaaPx.rd_all (ρ := YtkdohmgacodhjaaPx.noρ) [23, 3, 24] [⟨true, (.pair .int (.pair .int (.pair .int (.pair .int .int))))⟩, ⟨false, .int⟩, ⟨false, (.sl .int)⟩] args.toList ds p (by kernel_rfl) hok hA
  have hk := fun (W' : World) (bel : Below W.heap.size W W') => YtkdohmgacodhjaaPx.kept_all laid bel [23, 3, 24] args.toList ds p (by kernel_rfl) hlt hA
  have hcall := YtkdohmgacodhjaaPx.law_calls YtkdohmgacodhjaaFn.ap_ok.1 (Pure.ArenaPinned x hx) hd
  rw [Array.toArray_toList] at hcall
  clear hA0 hval0 hsz0 hok hval hx hd
  obtain ⟨v0, vs0, d0, ds0, p0, q0, hargs0, rfl, e0, h0, r0⟩ := trodAll_cons hA
  subst e0
  obtain ⟨v1, vs1, d1, ds1, p1, q1, hargs1, rfl, e1, h1, r1⟩ := trodAll_cons r0
  subst hargs1
  subst e1
  obtain ⟨v2, vs2, d2, ds2, p2, q2, hargs2, rfl, e2, h2, r2⟩ := trodAll_cons r1
  subst hargs2
  subst e2
  obtain ⟨rfl, rfl, rfl⟩ := trodAll_nil r2
  refine hcall.mono fun e W' ⟨he, bel⟩ => ?_
  subst he
  exact ⟨_, rfl, _, _, _, [], _, [], hW', trodAll_mk1 (shut_bool Try.underlying4 _), hk W' bel, rfl, bel.frame _, fun h => by cases h⟩
theorem over : Rows.arenaPinnedRow.holds Try.pinned (OpenSpec.ofChange Rows.arenaPinnedSpec) :=
  OpenClaim.holds_of_wide 3 Try.f3 rfl rfl rfl rfl rfl rfl rfl ⟨rfl, rfl, rfl, rfl, rfl⟩ rfl rfl rfl rfl rfl (by kernel_rfl) Try.func3 (by kernel_rfl)
    (of_decide_eq_true (by kernel_rfl)) (by unfold Func.isWrapper; first | (rw [if_pos (by decide +kernel)]; kernel_rfl) | (rw [if_neg (by decide +kernel)]; exact ⟨rfl, rfl⟩))
    (fun os started H enc _ => lifted os started H enc)
theorem proved : Rows.ArenaPinnedSaid := over
#print axioms proved
end Go.Proofs.Ytkdohmgacodhjaa.arenaPinned
namespace Go.Proofs.Ytkdohmgacodhjaa
/-- The row, under a short name, for the claim. -/
theorem arenaPinned_holds : Rows.ArenaPinnedSaid := arenaPinned.proved
end Go.Proofs.Ytkdohmgacodhjaa
