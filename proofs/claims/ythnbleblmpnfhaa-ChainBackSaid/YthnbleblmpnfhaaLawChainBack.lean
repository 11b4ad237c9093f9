/- 'tendril/tendrillaw14.ChainBack': whatever the input, the law returns true, and the input reads as it did; no condition. -/
import Derived.Test.YthnbleblmpnfhaaRows
import Derived.Test.YthnbleblmpnfhaaPureChainLaws
import Derived.WalkKit
import Derived.ProofKit
import Derived.OpenShut
import Derived.ShutString
import Derived.ChangeOld
import Derived.Below
import Derived.SizedLaws
namespace Go.Proofs.Ythnbleblmpnfhaa.chainBack
open Go.ChangeShapes Go.WideShapes Go.ChangeAt Go.RowKit
set_option linter.unusedVariables false
theorem own : ownKnob Try.prog.godebug = none := by kernel_rfl
theorem laid : laidOutB Try.prog = true := by kernel_rfl
set_option maxRecDepth 100000 in
theorem lifted (os : Os) (started : os.Started) (H : Type) (enc : TypeId × Value → H) :
    ReturnsInHanded {} Try.checked os 6 .any (Rows.chainBackSpec.pre6 enc Try.prog Try.f6 Rows.chainBackRow.domain false) (Rows.chainBackSpec.post enc Try.prog Try.f6 false true false false) := by
  refine returnsInHanded_of_change_sized (C := Try.checked) own started (by kernel_rfl) Try.func6
    (ChangeSpec.witness6 (enc := enc) (C := Try.checked) false ⟨#[], #[.agg #[.int .i64 0, .int .i64 0, .int .i64 0, .int .i64 0, .int .i64 0], .slice none 0 0, .int .i64 0, .int .i64 0, .int .i64 0, .int .i64 0], []⟩ 40 (by kernel_rfl) (by kernel_rfl) (by kernel_rfl) (by kernel_rfl)) ?_
  intro W base args ds gs before hval0 hW hcnd hsz0 _
  have hval : ∀ (j : Nat) t v, Try.f6.params[j]? = some t → args[j]? = some v → Value.okWide Try.prog W .any base t v := hval0
  have hW' := hW
  obtain ⟨p, q, hA0, hV, hpq, hfz, hnd⟩ := hW
  have hA : DataW.TrodAll enc Try.prog W 0 (fun _ => true) true Try.f6.params.toList args.toList ds p := hA0
  rw [Try.params6] at hA hval
  obtain ⟨hg, hq⟩ := trodVars_none hV
  subst hg; subst hq
  have hlt : ∀ x ∈ p, x.block < W.heap.size := fun x hx => by
    have hm : x ∈ before := by rw [hpq]; simp [hx]
    simpa using hW'.lt x hm
  have hok : ∀ (j : Nat) t v, [23, 24, 3, 3, 3, 3][j]? = some t → args.toList[j]? = some v → Value.okWide Try.prog W .any 0 t v := fun j t v e1 e2 => YthnbleblmpnfhaaPx.okWide_base (hval j t v (by simpa using e1) (by simpa using e2))
  obtain ⟨x, hx, hd⟩ := YthnbleblmpnfhaaPx.rd_all (ρ := YthnbleblmpnfhaaPx.noρ) [23, 24, 3, 3, 3, 3] [⟨true, (.pair .int (.pair .int (.pair .int (.pair .int .int))))⟩, ⟨false, (.sl .int)⟩, ⟨false, .int⟩, ⟨false, .int⟩, ⟨false, .int⟩, ⟨false, .int⟩] args.toList ds p (by kernel_rfl) hok hA
  have hk := fun (W' : World) (bel : Below W.heap.size W W') => YthnbleblmpnfhaaPx.kept_all laid bel [23, 24, 3, 3, 3, 3] args.toList ds p (by kernel_rfl) hlt hA
  have hcall := YthnbleblmpnfhaaPx.law_calls YthnbleblmpnfhaaFn.tendrillaw14_ChainBack_ok.1 (Pure.ChainBack x hx) hd
  rw [Array.toArray_toList] at hcall
  clear hA0 hval0 hsz0 hok hval hx hd
  obtain ⟨v0, vs0, d0, ds0, p0, q0, hargs0, rfl, e0, h0, r0⟩ := trodAll_cons hA
  subst e0
  obtain ⟨v1, vs1, d1, ds1, p1, q1, hargs1, rfl, e1, h1, r1⟩ := trodAll_cons r0
  subst hargs1
  subst e1
  obtain ⟨v2, vs2, d2, ds2, p2, q2, hargs2, rfl, e2, h2, r2⟩ := trodAll_cons r1
  subst hargs2
  subst e2
  obtain ⟨v3, vs3, d3, ds3, p3, q3, hargs3, rfl, e3, h3, r3⟩ := trodAll_cons r2
  subst hargs3
  subst e3
  obtain ⟨v4, vs4, d4, ds4, p4, q4, hargs4, rfl, e4, h4, r4⟩ := trodAll_cons r3
  subst hargs4
  subst e4
  obtain ⟨v5, vs5, d5, ds5, p5, q5, hargs5, rfl, e5, h5, r5⟩ := trodAll_cons r4
  subst hargs5
  subst e5
  obtain ⟨rfl, rfl, rfl⟩ := trodAll_nil r5
  refine hcall.mono fun e W' ⟨he, bel⟩ => ?_
  subst he
  exact ⟨_, rfl, _, _, _, [], _, [], hW', trodAll_mk1 (shut_bool Try.underlying4 _), hk W' bel, rfl, bel.frame _, fun h => by cases h⟩
theorem over : Rows.chainBackRow.holds Try.pinned (OpenSpec.ofChange Rows.chainBackSpec) :=
  OpenClaim.holds_of_wide 6 Try.f6 rfl rfl rfl rfl rfl rfl rfl ⟨rfl, rfl, rfl, rfl, rfl⟩ rfl rfl rfl rfl rfl (by kernel_rfl) Try.func6 (by kernel_rfl)
    (of_decide_eq_true (by kernel_rfl)) (by unfold Func.isWrapper; first | (rw [if_pos (by decide +kernel)]; kernel_rfl) | (rw [if_neg (by decide +kernel)]; exact ⟨rfl, rfl⟩))
    (fun os started H enc _ => lifted os started H enc)
theorem proved : Rows.ChainBackSaid := over
#print axioms proved
end Go.Proofs.Ythnbleblmpnfhaa.chainBack
namespace Go.Proofs.Ythnbleblmpnfhaa
/-- The row, under a short name, for the claim. -/
theorem chainBack_holds : Rows.ChainBackSaid := chainBack.proved
end Go.Proofs.Ythnbleblmpnfhaa
