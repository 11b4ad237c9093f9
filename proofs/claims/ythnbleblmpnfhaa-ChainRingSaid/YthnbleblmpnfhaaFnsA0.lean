/- What the interpreter of code computes of these functions, part 0; no condition. -/
import Derived.Test.YthnbleblmpnfhaaProg
import Derived.KernelRfl
import Derived.Test.YthnbleblmpnfhaaPx25
import Derived.Test.YthnbleblmpnfhaaFolD
import Derived.Test.YthnbleblmpnfhaaFnsD
set_option linter.unusedVariables false
set_option linter.unusedSimpArgs false
namespace Go.Proofs.YthnbleblmpnfhaaFn
open Go Go.RowKit Go.Proofs.YthnbleblmpnfhaaPx
set_option maxHeartbeats 0 in
set_option maxRecDepth 5000000 in
def tendrilref14_Follow_P12v0 (k : Nat) (vs : List SV) (bs : List Blk) : Option (Option (List Int × Int)) := match vs, bs with
  | [.val (.one (.sl .int p0)), .val (.one (.int .i64 p1)), .val (.one (.int .i64 p2)), .val (.one (.ptr 0 0)), .val (.one (.row 1)), .val (.one (.int .i64 p3))], [.box [(.int .i64 p4), (.int .i64 p5), (.int .i64 p6), (.int .i64 p7), (.int .i64 p8)], .row .int p9] => some (tendrilref14_Follow_L12 k p0 p1 p2 p3 p4 p5 p6 p7 p8 p9)
  | _, _ => none
set_option maxHeartbeats 0 in
set_option maxRecDepth 5000000 in
def tendrilref14_Follow_P24v0 (k : Nat) (vs : List SV) (bs : List Blk) : Option (Option (List Int × Int)) := match vs, bs with
  | [.val (.one (.sl .int p0)), .val (.one (.int .i64 p1)), .val (.one (.int .i64 p2)), .val (.one (.ptr 0 0)), .val (.one (.row 1)), .val (.one (.int .i64 p3)), .val (.one (.int .i64 p4)), .val (.one (.int .i64 p5)), .val (.one (.row 1)), .val (.one (.int .i64 p6)), .val (.one (.int .i64 p7))], [.box [(.int .i64 p8), (.int .i64 p9), (.int .i64 p10), (.int .i64 p11), (.int .i64 p12)], .row .int p13] => some (tendrilref14_Follow_L24 k p0 p1 p2 p3 p4 p5 p6 p7 p8 p9 p10 p11 p12 p13)
  | _, _ => none
def tendrilref14_Follow_P12 (k : Nat) (vs : List SV) (bs : List Blk) : Option (List Int × Int) := match tendrilref14_Follow_P12v0 k vs bs with | some r => r | none => none
def tendrilref14_Follow_P24 (k : Nat) (vs : List SV) (bs : List Blk) : Option (List Int × Int) := match tendrilref14_Follow_P24v0 k vs bs with | some r => r | none => none
def tendrilref14_Follow_Λ (k L : Nat) (vs : List SV) (bs : List Blk) : Option (List Int × Int) := match Nat.beq L 12 with | true => tendrilref14_Follow_P12 k vs bs | false => match Nat.beq L 24 with | true => tendrilref14_Follow_P24 k vs bs | false => none
noncomputable def tendrilref14_Follow_C : List (Cut (Tup [⟨false, (.sl .int)⟩, ⟨false, .int⟩])) := cuts Try.prog (lkΓ [(13, tendrilref14_Field_S), (25, tendrilref03_Check_S), (26, tendrilref03_Size_S), (27, tendrilref01_Unpack_S)]) Try.f11.ntmps [(24, [1, 2, 4, 5, 12, 13, 14, 16, 55, 56, 57]), (12, [1, 2, 4, 5, 12, 13])] (bodyOf Try.f11) (κ0 Try.prog Try.f11 true [⟨false, (.sl .int)⟩, ⟨false, .int⟩])
set_option maxRecDepth 5000000 in
theorem tendrilref14_Follow_c12 (k : Nat) (p0 : List Int) (p1 : Int) (p2 : Int) (p3 : Int) (p4 : Int) (p5 : Int) (p6 : Int) (p7 : Int) (p8 : Int) (p9 : List Int) : ((nthC tendrilref14_Follow_C 0).g (mkSt [1, 2, 4, 5, 12, 13] [.val (.one (.sl .int p0)), .val (.one (.int .i64 p1)), .val (.one (.int .i64 p2)), .val (.one (.ptr 0 0)), .val (.one (.row 1)), .val (.one (.int .i64 p3))] [.box [(.int .i64 p4), (.int .i64 p5), (.int .i64 p6), (.int .i64 p7), (.int .i64 p8)], .row .int p9])).run (tendrilref14_Follow_Λ k) = tendrilref14_Follow_L12 (k + 1) p0 p1 p2 p3 p4 p5 p6 p7 p8 p9 := by kernel_rfl
set_option maxHeartbeats 0 in
set_option maxRecDepth 5000000 in
theorem tendrilref14_Follow_e12 (k : Nat) (vs : List SV) (bs : List Blk) (r : (List Int) × Int) (h : tendrilref14_Follow_P12v0 (k + 1) vs bs = some (some r)) : ((nthC tendrilref14_Follow_C 0).g (mkSt [1, 2, 4, 5, 12, 13] vs bs)).run (tendrilref14_Follow_Λ k) = some r := by
  unfold tendrilref14_Follow_P12v0 at h
  split at h
  · exact (tendrilref14_Follow_c12 k _ _ _ _ _ _ _ _ _ _).trans (Option.some.inj h)
  · cases h
set_option maxRecDepth 5000000 in
theorem tendrilref14_Follow_c24 (k : Nat) (p0 : List Int) (p1 : Int) (p2 : Int) (p3 : Int) (p4 : Int) (p5 : Int) (p6 : Int) (p7 : Int) (p8 : Int) (p9 : Int) (p10 : Int) (p11 : Int) (p12 : Int) (p13 : List Int) : ((nthC tendrilref14_Follow_C 1).g (mkSt [1, 2, 4, 5, 12, 13, 14, 16, 55, 56, 57] [.val (.one (.sl .int p0)), .val (.one (.int .i64 p1)), .val (.one (.int .i64 p2)), .val (.one (.ptr 0 0)), .val (.one (.row 1)), .val (.one (.int .i64 p3)), .val (.one (.int .i64 p4)), .val (.one (.int .i64 p5)), .val (.one (.row 1)), .val (.one (.int .i64 p6)), .val (.one (.int .i64 p7))] [.box [(.int .i64 p8), (.int .i64 p9), (.int .i64 p10), (.int .i64 p11), (.int .i64 p12)], .row .int p13])).run (tendrilref14_Follow_Λ k) = tendrilref14_Follow_L24 (k + 1) p0 p1 p2 p3 p4 p5 p6 p7 p8 p9 p10 p11 p12 p13 := by kernel_rfl
set_option maxHeartbeats 0 in
set_option maxRecDepth 5000000 in
theorem tendrilref14_Follow_e24 (k : Nat) (vs : List SV) (bs : List Blk) (r : (List Int) × Int) (h : tendrilref14_Follow_P24v0 (k + 1) vs bs = some (some r)) : ((nthC tendrilref14_Follow_C 1).g (mkSt [1, 2, 4, 5, 12, 13, 14, 16, 55, 56, 57] vs bs)).run (tendrilref14_Follow_Λ k) = some r := by
  unfold tendrilref14_Follow_P24v0 at h
  split at h
  · exact (tendrilref14_Follow_c24 k _ _ _ _ _ _ _ _ _ _ _ _ _ _).trans (Option.some.inj h)
  · cases h
theorem tendrilref14_Follow_d12 : CutOk tendrilref14_Follow_Λ (nthC tendrilref14_Follow_C 0) := by
  refine cutOk_of (L := 12) (live := [1, 2, 4, 5, 12, 13]) (by kernel_rfl) (by kernel_rfl) fun k vs bs r h => ?_
  change tendrilref14_Follow_P12 (k + 1) vs bs = some r at h
  unfold tendrilref14_Follow_P12 at h
  split at h
  · rename_i q hq
    exact tendrilref14_Follow_e12 k vs bs r (hq.trans (congrArg some h))
  cases h
theorem tendrilref14_Follow_d24 : CutOk tendrilref14_Follow_Λ (nthC tendrilref14_Follow_C 1) := by
  refine cutOk_of (L := 24) (live := [1, 2, 4, 5, 12, 13, 14, 16, 55, 56, 57]) (by kernel_rfl) (by kernel_rfl) fun k vs bs r h => ?_
  change tendrilref14_Follow_P24 (k + 1) vs bs = some r at h
  unfold tendrilref14_Follow_P24 at h
  split at h
  · rename_i q hq
    exact tendrilref14_Follow_e24 k vs bs r (hq.trans (congrArg some h))
  cases h
theorem tendrilref14_Follow_cuts : ∀ p ∈ cuts Try.prog (lkΓ [(13, tendrilref14_Field_S), (25, tendrilref03_Check_S), (26, tendrilref03_Size_S), (27, tendrilref01_Unpack_S)]) Try.f11.ntmps [(24, [1, 2, 4, 5, 12, 13, 14, 16, 55, 56, 57]), (12, [1, 2, 4, 5, 12, 13])] (bodyOf Try.f11) (κ0 Try.prog Try.f11 true [⟨false, (.sl .int)⟩, ⟨false, .int⟩]), CutOk tendrilref14_Follow_Λ p := cutsOk (l := tendrilref14_Follow_C) (n := 2) (by kernel_rfl) fun
  | 0, _ => tendrilref14_Follow_d12
  | 1, _ => tendrilref14_Follow_d24
  | k + 2, h => absurd h (by omega)
set_option maxHeartbeats 0 in
set_option maxRecDepth 5000000 in
theorem tendrilref14_Follow_z12 (vs : List SV) (bs : List Blk) (q : Option ((List Int) × Int)) (h : tendrilref14_Follow_P12v0 0 vs bs = some q) : q = none := by
  unfold tendrilref14_Follow_P12v0 at h; split at h
  · have h := Option.some.inj h; rw [← h]; first | rfl | (unfold tendrilref14_Follow_L12; rfl)
  · cases h
set_option maxHeartbeats 0 in
set_option maxRecDepth 5000000 in
theorem tendrilref14_Follow_z24 (vs : List SV) (bs : List Blk) (q : Option ((List Int) × Int)) (h : tendrilref14_Follow_P24v0 0 vs bs = some q) : q = none := by
  unfold tendrilref14_Follow_P24v0 at h; split at h
  · have h := Option.some.inj h; rw [← h]; first | rfl | (unfold tendrilref14_Follow_L24; rfl)
  · cases h
theorem tendrilref14_Follow_Λ0 (L : Nat) (vs : List SV) (bs : List Blk) : tendrilref14_Follow_Λ 0 L vs bs = none := by
  unfold tendrilref14_Follow_Λ
  split
  · unfold tendrilref14_Follow_P12
    split
    · rename_i q hq; exact tendrilref14_Follow_z12 _ _ q hq
    rfl
  split
  · unfold tendrilref14_Follow_P24
    split
    · rename_i q hq; exact tendrilref14_Follow_z24 _ _ q hq
    rfl
  rfl
set_option maxRecDepth 5000000 in
theorem tendrilref14_Follow_run (K : Nat) (x : Tup [⟨true, (.pair .int (.pair .int (.pair .int (.pair .int .int))))⟩, ⟨false, (.sl .int)⟩, ⟨false, .int⟩, ⟨false, .int⟩, ⟨false, .int⟩]) : (pxFn Try.prog (lkΓ [(13, tendrilref14_Field_S), (25, tendrilref03_Check_S), (26, tendrilref03_Size_S), (27, tendrilref01_Unpack_S)]) [(24, [1, 2, 4, 5, 12, 13, 14, 16, 55, 56, 57]), (12, [1, 2, 4, 5, 12, 13])] Try.f11 (bodyOf Try.f11) true [⟨false, (.sl .int)⟩, ⟨false, .int⟩] (encTup [⟨true, (.pair .int (.pair .int (.pair .int (.pair .int .int))))⟩, ⟨false, (.sl .int)⟩, ⟨false, .int⟩, ⟨false, .int⟩, ⟨false, .int⟩] x)).run (tendrilref14_Follow_Λ K) = tendrilref14_Follow_K K x := by kernel_rfl
set_option maxRecDepth 5000000 in
theorem tendrilref14_Field_run (x : Tup [⟨true, (.pair .int (.pair .int (.pair .int (.pair .int .int))))⟩, ⟨false, (.sl .int)⟩, ⟨false, .int⟩, ⟨false, .int⟩, ⟨false, .int⟩]) : (pxFn Try.prog (lkΓ [(30, tendrilref14_at_S)]) [] Try.f13 (bodyOf Try.f13) false [⟨false, .int⟩, ⟨false, .int⟩] (encTup [⟨true, (.pair .int (.pair .int (.pair .int (.pair .int .int))))⟩, ⟨false, (.sl .int)⟩, ⟨false, .int⟩, ⟨false, .int⟩, ⟨false, .int⟩] x)).run (fun _ _ _ => none) = tendrilref14_Field x := by kernel_rfl
theorem tendrilref14_Field_cuts : ∀ p ∈ cuts Try.prog (lkΓ [(30, tendrilref14_at_S)]) Try.f13.ntmps [] (bodyOf Try.f13) (κ0 Try.prog Try.f13 false [⟨false, .int⟩, ⟨false, .int⟩]), CutOk (fun _ _ _ _ => none) p := cutsNil (by kernel_rfl)
set_option maxRecDepth 5000000 in
theorem tendrillaw14_plain_run (x : Tup []) : (pxFn Try.prog (lkΓ []) [] Try.f22 (bodyOf Try.f22) false [⟨true, (.pair .int (.pair .int (.pair .int (.pair .int .int))))⟩] (encTup [] x)).run (fun _ _ _ => none) = tendrillaw14_plain x := by kernel_rfl
theorem tendrillaw14_plain_cuts : ∀ p ∈ cuts Try.prog (lkΓ []) Try.f22.ntmps [] (bodyOf Try.f22) (κ0 Try.prog Try.f22 false [⟨true, (.pair .int (.pair .int (.pair .int (.pair .int .int))))⟩]), CutOk (fun _ _ _ _ => none) p := cutsNil (by kernel_rfl)
end Go.Proofs.YthnbleblmpnfhaaFn
