/- 'tendril/tendrillaw16.AskOne': whatever the input, the law returns true, and the input reads as it did; no condition. -/
import Derived.Test.YtcoiboghdmmdcadRows
import Derived.Test.YtcoiboghdmmdcadPureAskLaws3
import Derived.WalkKit
import Derived.ProofKit
import Derived.OpenShut
import Derived.ShutString
import Derived.ChangeOld
import Derived.Below
import Derived.SizedLaws
namespace Go.Proofs.Ytcoiboghdmmdcad.askOne
open Go.ChangeShapes Go.WideShapes Go.ChangeAt Go.RowKit
set_option linter.unusedVariables false
theorem own : ownKnob Try.prog.godebug = none := by kernel_rfl
theorem laid : laidOutB Try.prog = true := by kernel_rfl
set_option maxRecDepth 100000 in
theorem lifted (os : Os) (started : os.Started) (H : Type) (enc : TypeId × Value → H) :
    ReturnsInHanded {} Try.checked os 4 .any (Rows.askOneSpec.pre6 enc Try.prog Try.f4 Rows.askOneRow.domain false) (Rows.askOneSpec.post enc Try.prog Try.f4 false true false false) := by
  refine returnsInHanded_of_change_sized (C := Try.checked) own started (by kernel_rfl) Try.func4
    (ChangeSpec.witness6 (enc := enc) (C := Try.checked) false ⟨#[], #[.agg #[.int .i64 0, .int .i64 0, .int .i64 0, .int .i64 0, .int .i64 0], .agg #[.slice none 0 0, .slice none 0 0, .slice none 0 0, .slice none 0 0, .slice none 0 0, .slice none 0 0, .slice none 0 0, .slice none 0 0, .slice none 0 0, .slice none 0 0, .slice none 0 0, .slice none 0 0, .slice none 0 0, .slice none 0 0, .int .i64 0, .slice none 0 0], .int .i64 0, .agg #[.int .i64 0, .int .i64 0, .int .i64 0, .int .i64 0, .int .i64 0, .int .i64 0]], []⟩ 40 (by kernel_rfl) (by kernel_rfl) (by kernel_rfl) (by kernel_rfl)) ?_
  intro W base args ds gs before hval0 hW hcnd hsz0 _
  have hval : ∀ (j : Nat) t v, Try.f4.params[j]? = some t → args[j]? = some v → Value.okWide Try.prog W .any base t v := hval0
  have hW' := hW
  obtain ⟨p, q, hA0, hV, hpq, hfz, hnd⟩ := hW
  have hA : DataW.TrodAll enc Try.prog W 0 (fun _ => true) true Try.f4.params.toList args.toList ds p := hA0
  rw [Try.params4] at hA hval
  obtain ⟨hg, hq⟩ := trodVars_none hV
  subst hg; subst hq
  have hlt : ∀ x ∈ p, x.block < W.heap.size := fun x hx => by
    have hm : x ∈ before := by rw [hpq]; simp [hx]
    simpa using hW'.lt x hm
  have hok : ∀ (j : Nat) t v, [23, 31, 3, 33][j]? = some t → args.toList[j]? = some v → Value.okWide Try.prog W .any 0 t v := fun j t v e1 e2 => YtcoiboghdmmdcadPx.okWide_base (hval j t v (by simpa using e1) (by simpa using e2))
  obtain ⟨x, hx, hd⟩ := YtcoiboghdmmdcadPx.rd_all (ρ := YtcoiboghdmmdcadPx.noρ) [23, 31, 3, 33] [⟨true, (.pair .int (.pair .int (.pair .int (.pair .int .int))))⟩, ⟨true, (.pair (.sl .int) (.pair (.sl .int) (.pair (.pair (.pair (.sl .int) (.pair (.sl .int) (.pair (.sl .int) (.sl .int)))) (.pair (.pair (.sl .int) (.pair (.sl .int) (.pair (.sl .int) (.sl .int)))) (.pair (.sl .int) (.pair (.sl .int) (.pair (.sl .int) (.sl .int)))))) (.pair .int (.sl .int)))))⟩, ⟨false, .int⟩, ⟨true, (.pair .int (.pair .int (.pair .int (.pair .int (.pair .int .int)))))⟩] args.toList ds p (by kernel_rfl) hok hA
  have hk := fun (W' : World) (bel : Below W.heap.size W W') => YtcoiboghdmmdcadPx.kept_all laid bel [23, 31, 3, 33] args.toList ds p (by kernel_rfl) hlt hA
  have hcall := YtcoiboghdmmdcadPx.law_calls YtcoiboghdmmdcadFn.tendrillaw16_AskOne_ok.1 (Pure.AskOne x hx) hd
  rw [Array.toArray_toList] at hcall
  clear hA0 hval0 hsz0 hok hval hx hd
  obtain ⟨v0, vs0, d0, ds0, p0, q0, hargs0, rfl, e0, h0, r0⟩ := trodAll_cons hA
  subst e0
  obtain ⟨v1, vs1, d1, ds1, p1, q1, hargs1, rfl, e1, h1, r1⟩ := trodAll_cons r0
  subst hargs1
  subst e1
  obtain ⟨v2, vs2, d2, ds2, p2, q2, hargs2, rfl, e2, h2, r2⟩ := trodAll_cons r1
  subst hargs2
  subst e2
  obtain ⟨v3, vs3, d3, ds3, p3, q3, hargs3, rfl, e3, h3, r3⟩ := trodAll_cons r2
  subst hargs3
  subst e3
  obtain ⟨rfl, rfl, rfl⟩ := trodAll_nil r3
  refine hcall.mono fun e W' ⟨he, bel⟩ => ?_
  subst he
  exact ⟨_, rfl, _, _, _, [], _, [], hW', trodAll_mk1 (shut_bool Try.underlying4 _), hk W' bel, rfl, bel.frame _, fun h => by cases h⟩
theorem over : Rows.askOneRow.holds Try.pinned (OpenSpec.ofChange Rows.askOneSpec) :=
  OpenClaim.holds_of_wide 4 Try.f4 rfl rfl rfl rfl rfl rfl rfl ⟨rfl, rfl, rfl, rfl, rfl⟩ rfl rfl rfl rfl rfl (by kernel_rfl) Try.func4 (by kernel_rfl)
    (of_decide_eq_true (by kernel_rfl)) (by unfold Func.isWrapper; first | (rw [if_pos (by decide +kernel)]; kernel_rfl) | (rw [if_neg (by decide +kernel)]; exact ⟨rfl, rfl⟩))
    (fun os started H enc _ => lifted os started H enc)
theorem proved : Rows.AskOneSaid := over
#print axioms proved
end Go.Proofs.Ytcoiboghdmmdcad.askOne
namespace Go.Proofs.Ytcoiboghdmmdcad
/-- The row, under a short name, for the claim. -/
theorem askOne_holds : Rows.AskOneSaid := askOne.proved
end Go.Proofs.Ytcoiboghdmmdcad
