/- What the interpreter of code computes of these functions, part 6; no condition. -/
import Derived.Test.YthnbleblmpnfhaaProg
import Derived.KernelRfl
import Derived.Test.YthnbleblmpnfhaaPx25
import Derived.Test.YthnbleblmpnfhaaFolD
import Derived.Test.YthnbleblmpnfhaaFnsD
set_option linter.unusedVariables false
set_option linter.unusedSimpArgs false
namespace Go.Proofs.YthnbleblmpnfhaaFn
open Go Go.RowKit Go.Proofs.YthnbleblmpnfhaaPx
set_option maxHeartbeats 0 in
set_option maxRecDepth 5000000 in
def tendrilref02_Same_P10v0 (k : Nat) (vs : List SV) (bs : List Blk) : Option (Option (Bool)) := match vs, bs with
  | [.val (.one (.sl .int p0)), .val (.one (.sl .int p1)), .val (.one (.int .i64 p2)), .val (.one (.int .i64 p3))], [] => some (tendrilref02_Same_L10 k p0 p1 p2 p3)
  | _, _ => none
def tendrilref02_Same_P10 (k : Nat) (vs : List SV) (bs : List Blk) : Option (Bool) := match tendrilref02_Same_P10v0 k vs bs with | some r => r | none => none
def tendrilref02_Same_Λ (k L : Nat) (vs : List SV) (bs : List Blk) : Option (Bool) := match Nat.beq L 10 with | true => tendrilref02_Same_P10 k vs bs | false => none
noncomputable def tendrilref02_Same_C : List (Cut (Tup [⟨false, .bool⟩])) := cuts Try.prog (lkΓ []) Try.f14.ntmps [(10, [0, 1, 12, 13])] (bodyOf Try.f14) (κ0 Try.prog Try.f14 false [⟨false, .bool⟩])
set_option maxRecDepth 5000000 in
theorem tendrilref02_Same_c10 (k : Nat) (p0 : List Int) (p1 : List Int) (p2 : Int) (p3 : Int) : ((nthC tendrilref02_Same_C 0).g (mkSt [0, 1, 12, 13] [.val (.one (.sl .int p0)), .val (.one (.sl .int p1)), .val (.one (.int .i64 p2)), .val (.one (.int .i64 p3))] [])).run (tendrilref02_Same_Λ k) = tendrilref02_Same_L10 (k + 1) p0 p1 p2 p3 := by kernel_rfl
set_option maxHeartbeats 0 in
set_option maxRecDepth 5000000 in
theorem tendrilref02_Same_e10 (k : Nat) (vs : List SV) (bs : List Blk) (r : Bool) (h : tendrilref02_Same_P10v0 (k + 1) vs bs = some (some r)) : ((nthC tendrilref02_Same_C 0).g (mkSt [0, 1, 12, 13] vs bs)).run (tendrilref02_Same_Λ k) = some r := by
  unfold tendrilref02_Same_P10v0 at h
  split at h
  · exact (tendrilref02_Same_c10 k _ _ _ _).trans (Option.some.inj h)
  · cases h
theorem tendrilref02_Same_d10 : CutOk tendrilref02_Same_Λ (nthC tendrilref02_Same_C 0) := by
  refine cutOk_of (L := 10) (live := [0, 1, 12, 13]) (by kernel_rfl) (by kernel_rfl) fun k vs bs r h => ?_
  change tendrilref02_Same_P10 (k + 1) vs bs = some r at h
  unfold tendrilref02_Same_P10 at h
  split at h
  · rename_i q hq
    exact tendrilref02_Same_e10 k vs bs r (hq.trans (congrArg some h))
  cases h
theorem tendrilref02_Same_cuts : ∀ p ∈ cuts Try.prog (lkΓ []) Try.f14.ntmps [(10, [0, 1, 12, 13])] (bodyOf Try.f14) (κ0 Try.prog Try.f14 false [⟨false, .bool⟩]), CutOk tendrilref02_Same_Λ p := cutsOk (l := tendrilref02_Same_C) (n := 1) (by kernel_rfl) fun
  | 0, _ => tendrilref02_Same_d10
  | k + 1, h => absurd h (by omega)
set_option maxHeartbeats 0 in
set_option maxRecDepth 5000000 in
theorem tendrilref02_Same_z10 (vs : List SV) (bs : List Blk) (q : Option (Bool)) (h : tendrilref02_Same_P10v0 0 vs bs = some q) : q = none := by
  unfold tendrilref02_Same_P10v0 at h; split at h
  · have h := Option.some.inj h; rw [← h]; first | rfl | (unfold tendrilref02_Same_L10; rfl)
  · cases h
theorem tendrilref02_Same_Λ0 (L : Nat) (vs : List SV) (bs : List Blk) : tendrilref02_Same_Λ 0 L vs bs = none := by
  unfold tendrilref02_Same_Λ
  split
  · unfold tendrilref02_Same_P10
    split
    · rename_i q hq; exact tendrilref02_Same_z10 _ _ q hq
    rfl
  rfl
set_option maxRecDepth 5000000 in
theorem tendrilref02_Same_run (K : Nat) (x : Tup [⟨false, (.sl .int)⟩, ⟨false, (.sl .int)⟩]) : (pxFn Try.prog (lkΓ []) [(10, [0, 1, 12, 13])] Try.f14 (bodyOf Try.f14) false [⟨false, .bool⟩] (encTup [⟨false, (.sl .int)⟩, ⟨false, (.sl .int)⟩] x)).run (tendrilref02_Same_Λ K) = tendrilref02_Same_K K x := by kernel_rfl
set_option maxHeartbeats 0 in
set_option maxRecDepth 5000000 in
def tendrilref03_Check_P6v0 (k : Nat) (vs : List SV) (bs : List Blk) : Option (Option (Int)) := match vs, bs with
  | [.val (.one (.row 0)), .val (.one (.int .i64 p0)), .val (.one (.int .i64 p1))], [.row .int p2] => some (tendrilref03_Check_L6 k p0 p1 p2)
  | _, _ => none
def tendrilref03_Check_P6 (k : Nat) (vs : List SV) (bs : List Blk) : Option (Int) := match tendrilref03_Check_P6v0 k vs bs with | some r => r | none => none
def tendrilref03_Check_Λ (k L : Nat) (vs : List SV) (bs : List Blk) : Option (Int) := match Nat.beq L 6 with | true => tendrilref03_Check_P6 k vs bs | false => none
noncomputable def tendrilref03_Check_C : List (Cut (Tup [⟨false, .int⟩])) := cuts Try.prog (lkΓ []) Try.f25.ntmps [(6, [15, 16, 17])] (bodyOf Try.f25) (κ0 Try.prog Try.f25 false [⟨false, .int⟩])
set_option maxRecDepth 5000000 in
theorem tendrilref03_Check_c6 (k : Nat) (p0 : Int) (p1 : Int) (p2 : List Int) : ((nthC tendrilref03_Check_C 0).g (mkSt [15, 16, 17] [.val (.one (.row 0)), .val (.one (.int .i64 p0)), .val (.one (.int .i64 p1))] [.row .int p2])).run (tendrilref03_Check_Λ k) = tendrilref03_Check_L6 (k + 1) p0 p1 p2 := by kernel_rfl
set_option maxHeartbeats 0 in
set_option maxRecDepth 5000000 in
theorem tendrilref03_Check_e6 (k : Nat) (vs : List SV) (bs : List Blk) (r : Int) (h : tendrilref03_Check_P6v0 (k + 1) vs bs = some (some r)) : ((nthC tendrilref03_Check_C 0).g (mkSt [15, 16, 17] vs bs)).run (tendrilref03_Check_Λ k) = some r := by
  unfold tendrilref03_Check_P6v0 at h
  split at h
  · exact (tendrilref03_Check_c6 k _ _ _).trans (Option.some.inj h)
  · cases h
theorem tendrilref03_Check_d6 : CutOk tendrilref03_Check_Λ (nthC tendrilref03_Check_C 0) := by
  refine cutOk_of (L := 6) (live := [15, 16, 17]) (by kernel_rfl) (by kernel_rfl) fun k vs bs r h => ?_
  change tendrilref03_Check_P6 (k + 1) vs bs = some r at h
  unfold tendrilref03_Check_P6 at h
  split at h
  · rename_i q hq
    exact tendrilref03_Check_e6 k vs bs r (hq.trans (congrArg some h))
  cases h
theorem tendrilref03_Check_cuts : ∀ p ∈ cuts Try.prog (lkΓ []) Try.f25.ntmps [(6, [15, 16, 17])] (bodyOf Try.f25) (κ0 Try.prog Try.f25 false [⟨false, .int⟩]), CutOk tendrilref03_Check_Λ p := cutsOk (l := tendrilref03_Check_C) (n := 1) (by kernel_rfl) fun
  | 0, _ => tendrilref03_Check_d6
  | k + 1, h => absurd h (by omega)
set_option maxHeartbeats 0 in
set_option maxRecDepth 5000000 in
theorem tendrilref03_Check_z6 (vs : List SV) (bs : List Blk) (q : Option (Int)) (h : tendrilref03_Check_P6v0 0 vs bs = some q) : q = none := by
  unfold tendrilref03_Check_P6v0 at h; split at h
  · have h := Option.some.inj h; rw [← h]; first | rfl | (unfold tendrilref03_Check_L6; rfl)
  · cases h
theorem tendrilref03_Check_Λ0 (L : Nat) (vs : List SV) (bs : List Blk) : tendrilref03_Check_Λ 0 L vs bs = none := by
  unfold tendrilref03_Check_Λ
  split
  · unfold tendrilref03_Check_P6
    split
    · rename_i q hq; exact tendrilref03_Check_z6 _ _ q hq
    rfl
  rfl
set_option maxRecDepth 5000000 in
theorem tendrilref03_Check_run (K : Nat) (x : Tup [⟨true, (.pair .int (.pair .int (.pair .int (.pair .int .int))))⟩]) : (pxFn Try.prog (lkΓ []) [(6, [15, 16, 17])] Try.f25 (bodyOf Try.f25) false [⟨false, .int⟩] (encTup [⟨true, (.pair .int (.pair .int (.pair .int (.pair .int .int))))⟩] x)).run (tendrilref03_Check_Λ K) = tendrilref03_Check_K K x := by kernel_rfl
set_option maxRecDepth 5000000 in
theorem tendrilref03_Size_run (x : Tup [⟨true, (.pair .int (.pair .int (.pair .int (.pair .int .int))))⟩]) : (pxFn Try.prog (lkΓ [(25, tendrilref03_Check_S)]) [] Try.f26 (bodyOf Try.f26) false [⟨false, .int⟩] (encTup [⟨true, (.pair .int (.pair .int (.pair .int (.pair .int .int))))⟩] x)).run (fun _ _ _ => none) = tendrilref03_Size x := by kernel_rfl
theorem tendrilref03_Size_cuts : ∀ p ∈ cuts Try.prog (lkΓ [(25, tendrilref03_Check_S)]) Try.f26.ntmps [] (bodyOf Try.f26) (κ0 Try.prog Try.f26 false [⟨false, .int⟩]), CutOk (fun _ _ _ _ => none) p := cutsNil (by kernel_rfl)
end Go.Proofs.YthnbleblmpnfhaaFn
