/- What the interpreter of code computes of these functions, part 4; no condition. -/
import Derived.Test.YthnbleblmpnfhaaProg
import Derived.KernelRfl
import Derived.Test.YthnbleblmpnfhaaPx25
import Derived.Test.YthnbleblmpnfhaaFolD
import Derived.Test.YthnbleblmpnfhaaFnsD
set_option linter.unusedVariables false
set_option linter.unusedSimpArgs false
namespace Go.Proofs.YthnbleblmpnfhaaFn
open Go Go.RowKit Go.Proofs.YthnbleblmpnfhaaPx
set_option maxHeartbeats 0 in
set_option maxRecDepth 5000000 in
def chain_Unlink_P26v0 (k : Nat) (vs : List SV) (bs : List Blk) : Option (Option (List Int × Int)) := match vs, bs with
  | [.val (.one (.sl .int p0)), .val (.one (.int .i64 p1)), .val (.one (.int .i64 p2)), .val (.one (.int .i64 p3)), .val (.one (.int .i64 p4)), .val (.one (.ptr 0 0)), .val (.one (.int .i64 p5)), .val (.one (.int .i64 p6)), .val (.one (.row 1)), .val (.one (.int .i64 p7)), .val (.one (.int .i64 p8))], [.box [(.int .i64 p9), (.int .i64 p10), (.int .i64 p11), (.int .i64 p12), (.int .i64 p13)], .row .int p14] => some (chain_Unlink_L26 k p0 p1 p2 p3 p4 p5 p6 p7 p8 p9 p10 p11 p12 p13 p14)
  | _, _ => none
def chain_Unlink_P26 (k : Nat) (vs : List SV) (bs : List Blk) : Option (List Int × Int) := match chain_Unlink_P26v0 k vs bs with | some r => r | none => none
def chain_Unlink_Λ (k L : Nat) (vs : List SV) (bs : List Blk) : Option (List Int × Int) := match Nat.beq L 26 with | true => chain_Unlink_P26 k vs bs | false => none
noncomputable def chain_Unlink_C : List (Cut (Tup [⟨false, (.sl .int)⟩, ⟨false, .int⟩])) := cuts Try.prog (lkΓ [(10, chain_Follow_S), (12, chain_Field_S), (16, chain_Put_S), (29, mem_Load_S), (31, mem_Store_S)]) Try.f20.ntmps [(26, [1, 2, 3, 4, 5, 6, 14, 18, 54, 55, 56])] (bodyOf Try.f20) (κ0 Try.prog Try.f20 true [⟨false, (.sl .int)⟩, ⟨false, .int⟩])
set_option maxRecDepth 5000000 in
theorem chain_Unlink_c26 (k : Nat) (p0 : List Int) (p1 : Int) (p2 : Int) (p3 : Int) (p4 : Int) (p5 : Int) (p6 : Int) (p7 : Int) (p8 : Int) (p9 : Int) (p10 : Int) (p11 : Int) (p12 : Int) (p13 : Int) (p14 : List Int) : ((nthC chain_Unlink_C 0).g (mkSt [1, 2, 3, 4, 5, 6, 14, 18, 54, 55, 56] [.val (.one (.sl .int p0)), .val (.one (.int .i64 p1)), .val (.one (.int .i64 p2)), .val (.one (.int .i64 p3)), .val (.one (.int .i64 p4)), .val (.one (.ptr 0 0)), .val (.one (.int .i64 p5)), .val (.one (.int .i64 p6)), .val (.one (.row 1)), .val (.one (.int .i64 p7)), .val (.one (.int .i64 p8))] [.box [(.int .i64 p9), (.int .i64 p10), (.int .i64 p11), (.int .i64 p12), (.int .i64 p13)], .row .int p14])).run (chain_Unlink_Λ k) = chain_Unlink_L26 (k + 1) p0 p1 p2 p3 p4 p5 p6 p7 p8 p9 p10 p11 p12 p13 p14 := by kernel_rfl
set_option maxHeartbeats 0 in
set_option maxRecDepth 5000000 in
theorem chain_Unlink_e26 (k : Nat) (vs : List SV) (bs : List Blk) (r : (List Int) × Int) (h : chain_Unlink_P26v0 (k + 1) vs bs = some (some r)) : ((nthC chain_Unlink_C 0).g (mkSt [1, 2, 3, 4, 5, 6, 14, 18, 54, 55, 56] vs bs)).run (chain_Unlink_Λ k) = some r := by
  unfold chain_Unlink_P26v0 at h
  split at h
  · exact (chain_Unlink_c26 k _ _ _ _ _ _ _ _ _ _ _ _ _ _ _).trans (Option.some.inj h)
  · cases h
theorem chain_Unlink_d26 : CutOk chain_Unlink_Λ (nthC chain_Unlink_C 0) := by
  refine cutOk_of (L := 26) (live := [1, 2, 3, 4, 5, 6, 14, 18, 54, 55, 56]) (by kernel_rfl) (by kernel_rfl) fun k vs bs r h => ?_
  change chain_Unlink_P26 (k + 1) vs bs = some r at h
  unfold chain_Unlink_P26 at h
  split at h
  · rename_i q hq
    exact chain_Unlink_e26 k vs bs r (hq.trans (congrArg some h))
  cases h
theorem chain_Unlink_cuts : ∀ p ∈ cuts Try.prog (lkΓ [(10, chain_Follow_S), (12, chain_Field_S), (16, chain_Put_S), (29, mem_Load_S), (31, mem_Store_S)]) Try.f20.ntmps [(26, [1, 2, 3, 4, 5, 6, 14, 18, 54, 55, 56])] (bodyOf Try.f20) (κ0 Try.prog Try.f20 true [⟨false, (.sl .int)⟩, ⟨false, .int⟩]), CutOk chain_Unlink_Λ p := cutsOk (l := chain_Unlink_C) (n := 1) (by kernel_rfl) fun
  | 0, _ => chain_Unlink_d26
  | k + 1, h => absurd h (by omega)
set_option maxHeartbeats 0 in
set_option maxRecDepth 5000000 in
theorem chain_Unlink_z26 (vs : List SV) (bs : List Blk) (q : Option ((List Int) × Int)) (h : chain_Unlink_P26v0 0 vs bs = some q) : q = none := by
  unfold chain_Unlink_P26v0 at h; split at h
  · have h := Option.some.inj h; rw [← h]; first | rfl | (unfold chain_Unlink_L26; rfl)
  · cases h
theorem chain_Unlink_Λ0 (L : Nat) (vs : List SV) (bs : List Blk) : chain_Unlink_Λ 0 L vs bs = none := by
  unfold chain_Unlink_Λ
  split
  · unfold chain_Unlink_P26
    split
    · rename_i q hq; exact chain_Unlink_z26 _ _ q hq
    rfl
  rfl
set_option maxRecDepth 5000000 in
theorem chain_Unlink_run (K : Nat) (x : Tup [⟨true, (.pair .int (.pair .int (.pair .int (.pair .int .int))))⟩, ⟨false, (.sl .int)⟩, ⟨false, .int⟩, ⟨false, .int⟩, ⟨false, .int⟩, ⟨false, .int⟩]) : (pxFn Try.prog (lkΓ [(10, chain_Follow_S), (12, chain_Field_S), (16, chain_Put_S), (29, mem_Load_S), (31, mem_Store_S)]) [(26, [1, 2, 3, 4, 5, 6, 14, 18, 54, 55, 56])] Try.f20 (bodyOf Try.f20) true [⟨false, (.sl .int)⟩, ⟨false, .int⟩] (encTup [⟨true, (.pair .int (.pair .int (.pair .int (.pair .int .int))))⟩, ⟨false, (.sl .int)⟩, ⟨false, .int⟩, ⟨false, .int⟩, ⟨false, .int⟩, ⟨false, .int⟩] x)).run (chain_Unlink_Λ K) = chain_Unlink_K K x := by kernel_rfl
set_option maxRecDepth 5000000 in
theorem tendrillaw14_ChainLooks_run (x : Tup [⟨true, (.pair .int (.pair .int (.pair .int (.pair .int .int))))⟩, ⟨false, (.sl .int)⟩, ⟨false, .int⟩, ⟨false, .int⟩, ⟨false, .int⟩]) : (pxFn Try.prog (lkΓ [(8, tendrillaw14_live_S), (9, tendrillaw14_few_S), (10, chain_Follow_S), (11, tendrilref14_Follow_S), (12, chain_Field_S), (13, tendrilref14_Field_S), (14, tendrilref02_Same_S)]) [] Try.f3 (bodyOf Try.f3) false [⟨false, .bool⟩] (encTup [⟨true, (.pair .int (.pair .int (.pair .int (.pair .int .int))))⟩, ⟨false, (.sl .int)⟩, ⟨false, .int⟩, ⟨false, .int⟩, ⟨false, .int⟩] x)).run (fun _ _ _ => none) = tendrillaw14_ChainLooks x := by kernel_rfl
theorem tendrillaw14_ChainLooks_cuts : ∀ p ∈ cuts Try.prog (lkΓ [(8, tendrillaw14_live_S), (9, tendrillaw14_few_S), (10, chain_Follow_S), (11, tendrilref14_Follow_S), (12, chain_Field_S), (13, tendrilref14_Field_S), (14, tendrilref02_Same_S)]) Try.f3.ntmps [] (bodyOf Try.f3) (κ0 Try.prog Try.f3 false [⟨false, .bool⟩]), CutOk (fun _ _ _ _ => none) p := cutsNil (by kernel_rfl)
set_option maxRecDepth 5000000 in
theorem mem_Store_run (x : Tup [⟨false, (.sl .int)⟩, ⟨false, .int⟩, ⟨false, .int⟩]) : (pxFn Try.prog (lkΓ [(37, mem_in_S), (39, slices_Clone_S)]) [] Try.f31 (bodyOf Try.f31) true [⟨false, (.sl .int)⟩, ⟨false, .int⟩] (encTup [⟨false, (.sl .int)⟩, ⟨false, .int⟩, ⟨false, .int⟩] x)).run (fun _ _ _ => none) = mem_Store x := by kernel_rfl
theorem mem_Store_cuts : ∀ p ∈ cuts Try.prog (lkΓ [(37, mem_in_S), (39, slices_Clone_S)]) Try.f31.ntmps [] (bodyOf Try.f31) (κ0 Try.prog Try.f31 true [⟨false, (.sl .int)⟩, ⟨false, .int⟩]), CutOk (fun _ _ _ _ => none) p := cutsNil (by kernel_rfl)
end Go.Proofs.YthnbleblmpnfhaaFn
