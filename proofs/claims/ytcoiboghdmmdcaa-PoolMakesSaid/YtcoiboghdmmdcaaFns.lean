/- What the functions that this seat's laws reach compute, as plain functions, each with its contract; no condition. -/
import Derived.Test.YtcoiboghdmmdcaaProg
import Derived.KernelRfl
import Derived.Test.YtcoiboghdmmdcaaPx25
set_option linter.unusedVariables false
set_option linter.unusedSimpArgs false
namespace Go.Proofs.YtcoiboghdmmdcaaFn
open Go Go.RowKit Go.Proofs.YtcoiboghdmmdcaaPx
/-! slices.Clone of numbers: by hand over the evaluator: nil, or not. -/
def slices_Clone (x : List Int) : Option (List Int) := bif decide (0 + x.length ≤ 1000000) then some x else none
def slices_Clone_S : Sig := ⟨[⟨false, (.sl .int)⟩], [⟨false, (.sl .int)⟩], true, slices_Clone⟩
theorem slices_Clone_cuts : ∀ p ∈ cuts Try.prog (lkΓ []) Try.f33.ntmps [] (bodyOf Try.f33) (κ0 Try.prog Try.f33 true [⟨false, (.sl .int)⟩]), CutOk (fun _ _ _ _ => none) p := cutsNil (by kernel_rfl)
theorem slices_Clone_run0 (xs : List Int) : (pxFn Try.prog (lkΓ []) [] Try.f33 (bodyOf Try.f33) true [⟨false, (.sl .int)⟩] [.one (.sln false .int xs)]).run (fun _ _ _ => none) = some [] := by kernel_rfl
theorem slices_Clone_run1 (xs : List Int) : (pxFn Try.prog (lkΓ []) [] Try.f33 (bodyOf Try.f33) true [⟨false, (.sl .int)⟩] [.one (.sln true .int xs)]).run (fun _ _ _ => none) = slices_Clone xs := by kernel_rfl
theorem slices_Clone_go {S : Nat → Prop} {w : World} {v : Value} {nn : Bool} {xs r : List Int} (hd : (V1.one (.sln nn .int xs)).Den S w noρ v) (hS : ∀ b, w.heap.size ≤ b → S b)
    (hrun : (pxFn Try.prog (lkΓ []) [] Try.f33 (bodyOf Try.f33) true [⟨false, (.sl .int)⟩] [.one (.sln nn .int xs)]).run (fun _ _ _ => none) = some r) :
    Calls Try.prog 33 [v].toArray w fun e w' => ∃ v, e = .returned v ∧ Below w.heap.size w w' ∧ ∀ base, ResOk S w.heap.size w' (slices_Clone_S.out base r) v :=
  fn_calls (s := slices_Clone_S) (T := []) (Λ := fun _ _ _ _ => none) 0 Try.func33 (c := bodyOf Try.f33) (by kernel_rfl) (by kernel_rfl) lkΓ_nil (by decide +kernel) (fun _ _ _ => rfl) slices_Clone_cuts (av := [.one (.sln nn .int xs)]) (vs := [v]) (show (1 : Nat) ≤ _ by decide +kernel) hrun hS ⟨hd, trivial⟩
theorem slices_Clone_ok : SigOk Try.prog 33 slices_Clone_S ∧ Bodied Try.prog 33 := by
  refine ⟨fun S w x r vs hfn hS hvs => ?_, bodied_of Try.func33 (by decide +kernel) (by decide +kernel)⟩
  match vs, hvs with
  | [v], ⟨hd, _⟩ =>
    have hd : RI S w .int v x := hd
    obtain ⟨p, c, rfl, hc, hr⟩ := RI.shape hd
    cases hp : p.isSome with
    | true => exact slices_Clone_go (nn := true) ⟨hd, p, _, c, rfl, hp⟩ hS ((slices_Clone_run1 x).trans hfn)
    | false =>
      have hx : x = [] := by
        rcases Nat.eq_zero_or_pos (List.length x) with h | h
        · exact List.eq_nil_of_length_eq_zero h
        · obtain ⟨b, o, rfl, _⟩ := hr h
          cases hp
      refine slices_Clone_go (nn := false) (xs := x) ⟨hd, p, _, c, rfl, hp⟩ hS ((slices_Clone_run0 x).trans ?_)
      subst hx
      exact hfn
  | [], hvs => exact hvs.elim
  | _ :: _ :: _, hvs => exact hvs.2.elim


/-! slices.Index[[]bool,bool] -/
def slices_Index_L6 : Nat → (List Bool) → (Bool) → (Int) → (Int) → Option (Int)
  | 0, _, _, _, _ => none
  | k + 1, p0, p1, p2, p3 =>
    bif Decidable.decide (p3 < p2) then
      bif Decidable.decide ((0 : Int) ≤ p3) then
        bif Decidable.decide (p3 < (↑p0.length : Int)) then
          bif p1 == p0.getD p3.toNat Bool.false then
            some (p3)
          else
            slices_Index_L6 k (p0) (p1) (p2) (Go.RowKit.wrap64 (p3 + (1 : Int)))
        else
          none
      else
        none
    else
      some ((-1 : Int))
def slices_Index_P6v0 (k : Nat) (vs : List SV) (bs : List Blk) : Option (Option (Int)) := match vs, bs with
  | [.val (.one (.sl .bool p0)), .val (.one (.bool p1)), .val (.one (.int .i64 p2)), .val (.one (.int .i64 p3))], [] => some (slices_Index_L6 k p0 p1 p2 p3)
  | _, _ => none
def slices_Index_P6 (k : Nat) (vs : List SV) (bs : List Blk) : Option (Int) := match slices_Index_P6v0 k vs bs with | some r => r | none => none
def slices_Index_Λ (k L : Nat) (vs : List SV) (bs : List Blk) : Option (Int) := match Nat.beq L 6 with | true => slices_Index_P6 k vs bs | false => none
def slices_Index_K (K : Nat) (x : List Bool × Bool) : Option (Int) :=
  slices_Index_L6 K (x.1) (x.2) ((↑(List.length x.1) : Int)) ((0 : Int))
def slices_Index (x : (List Bool) × Bool) : Option (Int) := slices_Index_K 2000000 x
def slices_Index_S : Sig := ⟨[⟨false, (.sl .bool)⟩, ⟨false, .bool⟩], [⟨false, .int⟩], false, slices_Index⟩
noncomputable def slices_Index_C : List (Cut (Tup [⟨false, .int⟩])) := cuts Try.prog (lkΓ []) Try.f34.ntmps [(6, [0, 1, 7, 8])] (bodyOf Try.f34) (κ0 Try.prog Try.f34 false [⟨false, .int⟩])
set_option maxRecDepth 100000 in
theorem slices_Index_c6 (k : Nat) (p0 : List Bool) (p1 : Bool) (p2 : Int) (p3 : Int) : ((nthC slices_Index_C 0).g (mkSt [0, 1, 7, 8] [.val (.one (.sl .bool p0)), .val (.one (.bool p1)), .val (.one (.int .i64 p2)), .val (.one (.int .i64 p3))] [])).run (slices_Index_Λ k) = slices_Index_L6 (k + 1) p0 p1 p2 p3 := by kernel_rfl
theorem slices_Index_e6 (k : Nat) (vs : List SV) (bs : List Blk) (r : Int) (h : slices_Index_P6v0 (k + 1) vs bs = some (some r)) : ((nthC slices_Index_C 0).g (mkSt [0, 1, 7, 8] vs bs)).run (slices_Index_Λ k) = some r := by
  unfold slices_Index_P6v0 at h
  split at h
  · exact (slices_Index_c6 k _ _ _ _).trans (Option.some.inj h)
  · cases h
theorem slices_Index_d6 : CutOk slices_Index_Λ (nthC slices_Index_C 0) := by
  refine cutOk_of (L := 6) (live := [0, 1, 7, 8]) (by kernel_rfl) (by kernel_rfl) fun k vs bs r h => ?_
  change slices_Index_P6 (k + 1) vs bs = some r at h
  unfold slices_Index_P6 at h
  split at h
  · rename_i q hq
    exact slices_Index_e6 k vs bs r (hq.trans (congrArg some h))
  cases h
theorem slices_Index_cuts : ∀ p ∈ cuts Try.prog (lkΓ []) Try.f34.ntmps [(6, [0, 1, 7, 8])] (bodyOf Try.f34) (κ0 Try.prog Try.f34 false [⟨false, .int⟩]), CutOk slices_Index_Λ p := cutsOk (l := slices_Index_C) (n := 1) (by kernel_rfl) fun
  | 0, _ => slices_Index_d6
  | k + 1, h => absurd h (by omega)
theorem slices_Index_z6 (vs : List SV) (bs : List Blk) (q : Option (Int)) (h : slices_Index_P6v0 0 vs bs = some q) : q = none := by
  unfold slices_Index_P6v0 at h; split at h
  · have h := Option.some.inj h; rw [← h]; first | rfl | (unfold slices_Index_L6; rfl)
  · cases h
theorem slices_Index_Λ0 (L : Nat) (vs : List SV) (bs : List Blk) : slices_Index_Λ 0 L vs bs = none := by
  unfold slices_Index_Λ
  split
  · unfold slices_Index_P6
    split
    · rename_i q hq; exact slices_Index_z6 _ _ q hq
    rfl
  rfl
set_option maxRecDepth 100000 in
theorem slices_Index_run (K : Nat) (x : Tup [⟨false, (.sl .bool)⟩, ⟨false, .bool⟩]) : (pxFn Try.prog (lkΓ []) [(6, [0, 1, 7, 8])] Try.f34 (bodyOf Try.f34) false [⟨false, .int⟩] (encTup [⟨false, (.sl .bool)⟩, ⟨false, .bool⟩] x)).run (slices_Index_Λ K) = slices_Index_K K x := by kernel_rfl
theorem slices_Index_ok : SigOk Try.prog 34 slices_Index_S ∧ Bodied Try.prog 34 :=
  ⟨fn_sound (s := slices_Index_S) (T := [(6, [0, 1, 7, 8])]) (Λ := slices_Index_Λ) 2000000 Try.func34 (c := bodyOf Try.f34) (by kernel_rfl) (by kernel_rfl) lkΓ_nil (by decide +kernel) (by decide +kernel) slices_Index_Λ0 slices_Index_cuts (fun x => slices_Index_run 2000000 x), bodied_of Try.func34 (by decide +kernel) (by decide +kernel)⟩

/-! slices.Contains[[]bool,bool] -/
def slices_Contains (x : List Bool × Bool) : Option (Bool) :=
  (slices_Index ((x.1, x.2))).bind fun r0 =>
  some (Decidable.decide ((0 : Int) ≤ r0))
def slices_Contains_S : Sig := ⟨[⟨false, (.sl .bool)⟩, ⟨false, .bool⟩], [⟨false, .bool⟩], false, slices_Contains⟩
set_option maxRecDepth 100000 in
theorem slices_Contains_run (x : Tup [⟨false, (.sl .bool)⟩, ⟨false, .bool⟩]) : (pxFn Try.prog (lkΓ [(34, slices_Index_S)]) [] Try.f32 (bodyOf Try.f32) false [⟨false, .bool⟩] (encTup [⟨false, (.sl .bool)⟩, ⟨false, .bool⟩] x)).run (fun _ _ _ => none) = slices_Contains x := by kernel_rfl
theorem slices_Contains_cuts : ∀ p ∈ cuts Try.prog (lkΓ [(34, slices_Index_S)]) Try.f32.ntmps [] (bodyOf Try.f32) (κ0 Try.prog Try.f32 false [⟨false, .bool⟩]), CutOk (fun _ _ _ _ => none) p := cutsNil (by kernel_rfl)
theorem slices_Contains_ok : SigOk Try.prog 32 slices_Contains_S ∧ Bodied Try.prog 32 :=
  ⟨fn_sound (s := slices_Contains_S) (T := []) (Λ := fun _ _ _ _ => none) 0 Try.func32 (c := bodyOf Try.f32) (by kernel_rfl) (by kernel_rfl) (lkΓ_cons (g := 34) (s0 := slices_Index_S) slices_Index_ok lkΓ_nil) (by decide +kernel) (by decide +kernel) (fun _ _ _ => rfl) slices_Contains_cuts (fun x => slices_Contains_run  x), bodied_of Try.func32 (by decide +kernel) (by decide +kernel)⟩

/-! tendril/pool.Check -/
mutual
def pool_Check_L14 : Nat → (Int) → (List Int) → (Int) → (Int) → (List Int) → (List Int) → (List Int) → (List Int) → (List Bool) → Option (Int)
  | 0, _, _, _, _, _, _, _, _, _ => none
  | k + 1, p0, p1, p2, p3, p4, p5, p6, p7, p8 =>
    bif Decidable.decide (p3 < p2) then
      bif Decidable.decide ((0 : Int) ≤ p3) then
        bif Decidable.decide (p3 < (↑p1.length : Int)) then
          bif Decidable.decide ((0 : Int) ≤ p3) then
            bif Decidable.decide (p3 < (↑p4.length : Int)) then
              bif Decidable.decide (p4.getD p3.toNat (0 : Int) < (0 : Int)) then
                some ((1 : Int))
              else
                bif Decidable.decide ((0 : Int) ≤ p3) then
                  bif Decidable.decide (p3 < (↑p4.length : Int)) then
                    bif Decidable.decide ((1099511627775 : Int) < p4.getD p3.toNat (0 : Int)) then
                      some ((1 : Int))
                    else
                      bif Decidable.decide (p1.getD p3.toNat (0 : Int) < (0 : Int)) then
                        some ((1 : Int))
                      else
                        bif Decidable.decide ((2 : Int) < p1.getD p3.toNat (0 : Int)) then
                          some ((1 : Int))
                        else
                          bif p1.getD p3.toNat (0 : Int) != (2 : Int) then
                            bif Decidable.decide ((0 : Int) ≤ p3) then
                              bif Decidable.decide (p3 < (↑p6.length : Int)) then
                                bif p6.getD p3.toNat (0 : Int) != (0 : Int) then
                                  some ((1 : Int))
                                else
                                  bif Decidable.decide ((0 : Int) ≤ p3) then
                                    bif Decidable.decide (p3 < (↑p8.length : Int)) then
                                      pool_Check_L14 k (p0) (p1) (p2) (Go.RowKit.wrap64 (p3 + (1 : Int))) (p4) (p5) (p6) (p7) (p8.set p3.toNat (p1.getD p3.toNat (0 : Int) == (0 : Int)))
                                    else
                                      none
                                  else
                                    none
                              else
                                none
                            else
                              none
                          else
                            bif Decidable.decide ((0 : Int) ≤ p3) then
                              bif Decidable.decide (p3 < (↑p8.length : Int)) then
                                pool_Check_L14 k (p0) (p1) (p2) (Go.RowKit.wrap64 (p3 + (1 : Int))) (p4) (p5) (p6) (p7) (p8.set p3.toNat (p1.getD p3.toNat (0 : Int) == (0 : Int)))
                              else
                                none
                            else
                              none
                  else
                    none
                else
                  none
            else
              none
          else
            none
        else
          none
      else
        none
    else
      pool_Check_L28 k (p0) (p7) ((↑p7.length : Int)) ((0 : Int)) (p8)
def pool_Check_L28 : Nat → (Int) → (List Int) → (Int) → (Int) → (List Bool) → Option (Int)
  | 0, _, _, _, _, _ => none
  | k + 1, p0, p1, p2, p3, p4 =>
    bif Decidable.decide (p3 < p2) then
      bif Decidable.decide ((0 : Int) ≤ p3) then
        bif Decidable.decide (p3 < (↑p1.length : Int)) then
          bif Decidable.decide (p1.getD p3.toNat (0 : Int) < (0 : Int)) then
            some ((1 : Int))
          else
            bif Decidable.decide (p0 ≤ p1.getD p3.toNat (0 : Int)) then
              some ((1 : Int))
            else
              bif Decidable.decide ((0 : Int) ≤ p1.getD p3.toNat (0 : Int)) then
                bif Decidable.decide (p1.getD p3.toNat (0 : Int) < (↑p4.length : Int)) then
                  bif !p4.getD (p1.getD p3.toNat (0 : Int)).toNat Bool.false then
                    some ((1 : Int))
                  else
                    bif Decidable.decide ((0 : Int) ≤ p1.getD p3.toNat (0 : Int)) then
                      bif Decidable.decide (p1.getD p3.toNat (0 : Int) < (↑p4.length : Int)) then
                        pool_Check_L28 k (p0) (p1) (p2) (Go.RowKit.wrap64 (p3 + (1 : Int))) (p4.set (p1.getD p3.toNat (0 : Int)).toNat Bool.false)
                      else
                        none
                    else
                      none
                else
                  none
              else
                none
        else
          none
      else
        none
    else
      (slices_Contains ((p4, Bool.true))).bind fun r0 =>
      bif r0 then
        some ((1 : Int))
      else
        some ((0 : Int))
end
def pool_Check_P14v0 (k : Nat) (vs : List SV) (bs : List Blk) : Option (Option (Int)) := match vs, bs with
  | [.val (.one (.ptr 0 0)), .val (.one (.int .i64 p0)), .val (.one (.row 1)), .val (.one (.sl .int p1)), .val (.one (.int .i64 p2)), .val (.one (.int .i64 p3))], [.box [(.sl .int p4), (.sl .int p5), (.sl .int p6), (.sl .int p7)], .row .bool p8] => some (pool_Check_L14 k p0 p1 p2 p3 p4 p5 p6 p7 p8)
  | _, _ => none
def pool_Check_P28v0 (k : Nat) (vs : List SV) (bs : List Blk) : Option (Option (Int)) := match vs, bs with
  | [.val (.one (.int .i64 p0)), .val (.one (.row 0)), .val (.one (.sl .int p1)), .val (.one (.int .i64 p2)), .val (.one (.int .i64 p3))], [.row .bool p4] => some (pool_Check_L28 k p0 p1 p2 p3 p4)
  | _, _ => none
def pool_Check_P14 (k : Nat) (vs : List SV) (bs : List Blk) : Option (Int) := match pool_Check_P14v0 k vs bs with | some r => r | none => none
def pool_Check_P28 (k : Nat) (vs : List SV) (bs : List Blk) : Option (Int) := match pool_Check_P28v0 k vs bs with | some r => r | none => none
def pool_Check_Λ (k L : Nat) (vs : List SV) (bs : List Blk) : Option (Int) := match Nat.beq L 14 with | true => pool_Check_P14 k vs bs | false => match Nat.beq L 28 with | true => pool_Check_P28 k vs bs | false => none
def pool_Check_K (K : Nat) (x : List Int × List Int × List Int × List Int) : Option (Int) :=
  bif Decidable.decide ((↑(List.length x.1) : Int) < (1 : Int)) then
    some ((1 : Int))
  else
    bif Decidable.decide ((64 : Int) < (↑(List.length x.1) : Int)) then
      some ((1 : Int))
    else
      bif (↑(List.length x.snd.1) : Int) != (↑(List.length x.1) : Int) then
        some ((1 : Int))
      else
        bif (↑(List.length x.snd.snd.1) : Int) != (↑(List.length x.1) : Int) then
          some ((1 : Int))
        else
          bif Decidable.decide ((↑(List.length x.1) : Int) ≤ (1000000 : Int)) then
            pool_Check_L14 K ((↑(List.length x.1) : Int)) (x.snd.1) ((↑(List.length x.snd.1) : Int)) ((0 : Int)) (x.1) (x.snd.1) (x.snd.snd.1) (x.snd.snd.2) (List.replicate ((↑(List.length x.1) : Int)).toNat Bool.false)
          else
            none
def pool_Check (x : ((List Int) × ((List Int) × ((List Int) × (List Int))))) : Option (Int) := pool_Check_K 2000000 x
def pool_Check_S : Sig := ⟨[⟨true, (.pair (.sl .int) (.pair (.sl .int) (.pair (.sl .int) (.sl .int))))⟩], [⟨false, .int⟩], false, pool_Check⟩
noncomputable def pool_Check_C : List (Cut (Tup [⟨false, .int⟩])) := cuts Try.prog (lkΓ [(32, slices_Contains_S)]) Try.f20.ntmps [(28, [3, 4, 83, 84, 85]), (14, [1, 3, 4, 35, 36, 37])] (bodyOf Try.f20) (κ0 Try.prog Try.f20 false [⟨false, .int⟩])
set_option maxRecDepth 100000 in
theorem pool_Check_c14 (k : Nat) (p0 : Int) (p1 : List Int) (p2 : Int) (p3 : Int) (p4 : List Int) (p5 : List Int) (p6 : List Int) (p7 : List Int) (p8 : List Bool) : ((nthC pool_Check_C 0).g (mkSt [1, 3, 4, 35, 36, 37] [.val (.one (.ptr 0 0)), .val (.one (.int .i64 p0)), .val (.one (.row 1)), .val (.one (.sl .int p1)), .val (.one (.int .i64 p2)), .val (.one (.int .i64 p3))] [.box [(.sl .int p4), (.sl .int p5), (.sl .int p6), (.sl .int p7)], .row .bool p8])).run (pool_Check_Λ k) = pool_Check_L14 (k + 1) p0 p1 p2 p3 p4 p5 p6 p7 p8 := by kernel_rfl
theorem pool_Check_e14 (k : Nat) (vs : List SV) (bs : List Blk) (r : Int) (h : pool_Check_P14v0 (k + 1) vs bs = some (some r)) : ((nthC pool_Check_C 0).g (mkSt [1, 3, 4, 35, 36, 37] vs bs)).run (pool_Check_Λ k) = some r := by
  unfold pool_Check_P14v0 at h
  split at h
  · exact (pool_Check_c14 k _ _ _ _ _ _ _ _ _).trans (Option.some.inj h)
  · cases h
set_option maxRecDepth 100000 in
theorem pool_Check_c28 (k : Nat) (p0 : Int) (p1 : List Int) (p2 : Int) (p3 : Int) (p4 : List Bool) : ((nthC pool_Check_C 1).g (mkSt [3, 4, 83, 84, 85] [.val (.one (.int .i64 p0)), .val (.one (.row 0)), .val (.one (.sl .int p1)), .val (.one (.int .i64 p2)), .val (.one (.int .i64 p3))] [.row .bool p4])).run (pool_Check_Λ k) = pool_Check_L28 (k + 1) p0 p1 p2 p3 p4 := by kernel_rfl
theorem pool_Check_e28 (k : Nat) (vs : List SV) (bs : List Blk) (r : Int) (h : pool_Check_P28v0 (k + 1) vs bs = some (some r)) : ((nthC pool_Check_C 1).g (mkSt [3, 4, 83, 84, 85] vs bs)).run (pool_Check_Λ k) = some r := by
  unfold pool_Check_P28v0 at h
  split at h
  · exact (pool_Check_c28 k _ _ _ _ _).trans (Option.some.inj h)
  · cases h
theorem pool_Check_d14 : CutOk pool_Check_Λ (nthC pool_Check_C 0) := by
  refine cutOk_of (L := 14) (live := [1, 3, 4, 35, 36, 37]) (by kernel_rfl) (by kernel_rfl) fun k vs bs r h => ?_
  change pool_Check_P14 (k + 1) vs bs = some r at h
  unfold pool_Check_P14 at h
  split at h
  · rename_i q hq
    exact pool_Check_e14 k vs bs r (hq.trans (congrArg some h))
  cases h
theorem pool_Check_d28 : CutOk pool_Check_Λ (nthC pool_Check_C 1) := by
  refine cutOk_of (L := 28) (live := [3, 4, 83, 84, 85]) (by kernel_rfl) (by kernel_rfl) fun k vs bs r h => ?_
  change pool_Check_P28 (k + 1) vs bs = some r at h
  unfold pool_Check_P28 at h
  split at h
  · rename_i q hq
    exact pool_Check_e28 k vs bs r (hq.trans (congrArg some h))
  cases h
theorem pool_Check_cuts : ∀ p ∈ cuts Try.prog (lkΓ [(32, slices_Contains_S)]) Try.f20.ntmps [(28, [3, 4, 83, 84, 85]), (14, [1, 3, 4, 35, 36, 37])] (bodyOf Try.f20) (κ0 Try.prog Try.f20 false [⟨false, .int⟩]), CutOk pool_Check_Λ p := cutsOk (l := pool_Check_C) (n := 2) (by kernel_rfl) fun
  | 0, _ => pool_Check_d14
  | 1, _ => pool_Check_d28
  | k + 2, h => absurd h (by omega)
theorem pool_Check_z14 (vs : List SV) (bs : List Blk) (q : Option (Int)) (h : pool_Check_P14v0 0 vs bs = some q) : q = none := by
  unfold pool_Check_P14v0 at h; split at h
  · have h := Option.some.inj h; rw [← h]; first | rfl | (unfold pool_Check_L14; rfl)
  · cases h
theorem pool_Check_z28 (vs : List SV) (bs : List Blk) (q : Option (Int)) (h : pool_Check_P28v0 0 vs bs = some q) : q = none := by
  unfold pool_Check_P28v0 at h; split at h
  · have h := Option.some.inj h; rw [← h]; first | rfl | (unfold pool_Check_L28; rfl)
  · cases h
theorem pool_Check_Λ0 (L : Nat) (vs : List SV) (bs : List Blk) : pool_Check_Λ 0 L vs bs = none := by
  unfold pool_Check_Λ
  split
  · unfold pool_Check_P14
    split
    · rename_i q hq; exact pool_Check_z14 _ _ q hq
    rfl
  split
  · unfold pool_Check_P28
    split
    · rename_i q hq; exact pool_Check_z28 _ _ q hq
    rfl
  rfl
set_option maxRecDepth 100000 in
theorem pool_Check_run (K : Nat) (x : Tup [⟨true, (.pair (.sl .int) (.pair (.sl .int) (.pair (.sl .int) (.sl .int))))⟩]) : (pxFn Try.prog (lkΓ [(32, slices_Contains_S)]) [(28, [3, 4, 83, 84, 85]), (14, [1, 3, 4, 35, 36, 37])] Try.f20 (bodyOf Try.f20) false [⟨false, .int⟩] (encTup [⟨true, (.pair (.sl .int) (.pair (.sl .int) (.pair (.sl .int) (.sl .int))))⟩] x)).run (pool_Check_Λ K) = pool_Check_K K x := by kernel_rfl
theorem pool_Check_ok : SigOk Try.prog 20 pool_Check_S ∧ Bodied Try.prog 20 :=
  ⟨fn_sound (s := pool_Check_S) (T := [(28, [3, 4, 83, 84, 85]), (14, [1, 3, 4, 35, 36, 37])]) (Λ := pool_Check_Λ) 2000000 Try.func20 (c := bodyOf Try.f20) (by kernel_rfl) (by kernel_rfl) (lkΓ_cons (g := 32) (s0 := slices_Contains_S) slices_Contains_ok lkΓ_nil) (by decide +kernel) (by decide +kernel) pool_Check_Λ0 pool_Check_cuts (fun x => pool_Check_run 2000000 x), bodied_of Try.func20 (by decide +kernel) (by decide +kernel)⟩

/-! tendril/pool.own -/
def pool_own (x : List Int × List Int × List Int × List Int) : Option (List Int × List Int × List Int × List Int) :=
  (slices_Clone (x.1)).bind fun r0 =>
  (slices_Clone (x.snd.1)).bind fun r1 =>
  (slices_Clone (x.snd.snd.1)).bind fun r2 =>
  (slices_Clone (x.snd.snd.2)).bind fun r3 =>
  some ((r0, r1, r2, r3))
def pool_own_S : Sig := ⟨[⟨true, (.pair (.sl .int) (.pair (.sl .int) (.pair (.sl .int) (.sl .int))))⟩], [⟨true, (.pair (.sl .int) (.pair (.sl .int) (.pair (.sl .int) (.sl .int))))⟩], true, pool_own⟩
set_option maxRecDepth 100000 in
theorem pool_own_run (x : Tup [⟨true, (.pair (.sl .int) (.pair (.sl .int) (.pair (.sl .int) (.sl .int))))⟩]) : (pxFn Try.prog (lkΓ [(33, slices_Clone_S)]) [] Try.f27 (bodyOf Try.f27) true [⟨true, (.pair (.sl .int) (.pair (.sl .int) (.pair (.sl .int) (.sl .int))))⟩] (encTup [⟨true, (.pair (.sl .int) (.pair (.sl .int) (.pair (.sl .int) (.sl .int))))⟩] x)).run (fun _ _ _ => none) = pool_own x := by kernel_rfl
theorem pool_own_cuts : ∀ p ∈ cuts Try.prog (lkΓ [(33, slices_Clone_S)]) Try.f27.ntmps [] (bodyOf Try.f27) (κ0 Try.prog Try.f27 true [⟨true, (.pair (.sl .int) (.pair (.sl .int) (.pair (.sl .int) (.sl .int))))⟩]), CutOk (fun _ _ _ _ => none) p := cutsNil (by kernel_rfl)
theorem pool_own_ok : SigOk Try.prog 27 pool_own_S ∧ Bodied Try.prog 27 :=
  ⟨fn_sound (s := pool_own_S) (T := []) (Λ := fun _ _ _ _ => none) 0 Try.func27 (c := bodyOf Try.f27) (by kernel_rfl) (by kernel_rfl) (lkΓ_cons (g := 33) (s0 := slices_Clone_S) slices_Clone_ok lkΓ_nil) (by decide +kernel) (by decide +kernel) (fun _ _ _ => rfl) pool_own_cuts (fun x => pool_own_run  x), bodied_of Try.func27 (by decide +kernel) (by decide +kernel)⟩

/-! tendril/tag.Pack -/
def tag_Pack (x : Int × Int) : Option (Int × Int) :=
  bif Decidable.decide (x.1 < (0 : Int)) then
    some (((0 : Int), (1 : Int)))
  else
    bif Decidable.decide ((1024 : Int) ≤ x.1) then
      some (((0 : Int), (1 : Int)))
    else
      bif Decidable.decide (x.2 < (0 : Int)) then
        some (((0 : Int), (1 : Int)))
      else
        bif Decidable.decide ((1099511627776 : Int) ≤ x.2) then
          some (((0 : Int), (1 : Int)))
        else
          some ((Go.RowKit.wrap64 (Go.RowKit.wrap64 (Go.RowKit.wrap64 (x.2 * (2 : Int) ^ Min.min (Int.toNat (10 : Int)) Go.IntKind.i64.bits) + x.1) + (1 : Int)), (0 : Int)))
def tag_Pack_S : Sig := ⟨[⟨false, .int⟩, ⟨false, .int⟩], [⟨false, .int⟩, ⟨false, .int⟩], false, tag_Pack⟩
set_option maxRecDepth 100000 in
theorem tag_Pack_run (x : Tup [⟨false, .int⟩, ⟨false, .int⟩]) : (pxFn Try.prog (lkΓ []) [] Try.f28 (bodyOf Try.f28) false [⟨false, .int⟩, ⟨false, .int⟩] (encTup [⟨false, .int⟩, ⟨false, .int⟩] x)).run (fun _ _ _ => none) = tag_Pack x := by kernel_rfl
theorem tag_Pack_cuts : ∀ p ∈ cuts Try.prog (lkΓ []) Try.f28.ntmps [] (bodyOf Try.f28) (κ0 Try.prog Try.f28 false [⟨false, .int⟩, ⟨false, .int⟩]), CutOk (fun _ _ _ _ => none) p := cutsNil (by kernel_rfl)
theorem tag_Pack_ok : SigOk Try.prog 28 tag_Pack_S ∧ Bodied Try.prog 28 :=
  ⟨fn_sound (s := tag_Pack_S) (T := []) (Λ := fun _ _ _ _ => none) 0 Try.func28 (c := bodyOf Try.f28) (by kernel_rfl) (by kernel_rfl) lkΓ_nil (by decide +kernel) (by decide +kernel) (fun _ _ _ => rfl) tag_Pack_cuts (fun x => tag_Pack_run  x), bodied_of Try.func28 (by decide +kernel) (by decide +kernel)⟩

/-! tendril/pool.Take -/
def pool_Take (x : List Int × List Int × List Int × List Int) : Option ((List Int × List Int × List Int × List Int) × Int × Int) :=
  (pool_Check ((x.1, x.snd.1, x.snd.snd.1, x.snd.snd.2))).bind fun r0 =>
  bif r0 != (0 : Int) then
    some ((([], [], [], []), (0 : Int), r0))
  else
    bif (↑(List.length x.snd.snd.2) : Int) == (0 : Int) then
      some ((([], [], [], []), (0 : Int), (3 : Int)))
    else
      (pool_own ((x.1, x.snd.1, x.snd.snd.1, x.snd.snd.2))).bind fun r1 =>
      bif Decidable.decide ((0 : Int) < (↑(List.length r1.snd.snd.2) : Int)) then
        bif Decidable.decide ((1 : Int) ≤ (↑(List.length r1.snd.snd.2) : Int)) then
          bif Decidable.decide ((0 : Int) ≤ List.getD r1.snd.snd.2 (Int.toNat (0 : Int)) (0 : Int)) then
            bif Decidable.decide (List.getD r1.snd.snd.2 (Int.toNat (0 : Int)) (0 : Int) < (↑(List.length r1.snd.1) : Int)) then
              bif Decidable.decide ((0 : Int) ≤ List.getD r1.snd.snd.2 (Int.toNat (0 : Int)) (0 : Int)) then
                bif Decidable.decide (List.getD r1.snd.snd.2 (Int.toNat (0 : Int)) (0 : Int) < (↑(List.length r1.1) : Int)) then
                  (tag_Pack ((List.getD r1.snd.snd.2 (Int.toNat (0 : Int)) (0 : Int), List.getD r1.1 (List.getD r1.snd.snd.2 (Int.toNat (0 : Int)) (0 : Int)).toNat (0 : Int)))).bind fun r2 =>
                  some (((r1.1, List.set r1.snd.1 (List.getD r1.snd.snd.2 (Int.toNat (0 : Int)) (0 : Int)).toNat (1 : Int), r1.snd.snd.1, List.drop (Int.toNat (1 : Int)) (List.take (List.length r1.snd.snd.2) r1.snd.snd.2)), r2.1, r2.2))
                else
                  none
              else
                none
            else
              none
          else
            none
        else
          none
      else
        none
def pool_Take_S : Sig := ⟨[⟨true, (.pair (.sl .int) (.pair (.sl .int) (.pair (.sl .int) (.sl .int))))⟩], [⟨true, (.pair (.sl .int) (.pair (.sl .int) (.pair (.sl .int) (.sl .int))))⟩, ⟨false, .int⟩, ⟨false, .int⟩], true, pool_Take⟩
set_option maxRecDepth 100000 in
theorem pool_Take_run (x : Tup [⟨true, (.pair (.sl .int) (.pair (.sl .int) (.pair (.sl .int) (.sl .int))))⟩]) : (pxFn Try.prog (lkΓ [(20, pool_Check_S), (27, pool_own_S), (28, tag_Pack_S)]) [] Try.f12 (bodyOf Try.f12) true [⟨true, (.pair (.sl .int) (.pair (.sl .int) (.pair (.sl .int) (.sl .int))))⟩, ⟨false, .int⟩, ⟨false, .int⟩] (encTup [⟨true, (.pair (.sl .int) (.pair (.sl .int) (.pair (.sl .int) (.sl .int))))⟩] x)).run (fun _ _ _ => none) = pool_Take x := by kernel_rfl
theorem pool_Take_cuts : ∀ p ∈ cuts Try.prog (lkΓ [(20, pool_Check_S), (27, pool_own_S), (28, tag_Pack_S)]) Try.f12.ntmps [] (bodyOf Try.f12) (κ0 Try.prog Try.f12 true [⟨true, (.pair (.sl .int) (.pair (.sl .int) (.pair (.sl .int) (.sl .int))))⟩, ⟨false, .int⟩, ⟨false, .int⟩]), CutOk (fun _ _ _ _ => none) p := cutsNil (by kernel_rfl)
theorem pool_Take_ok : SigOk Try.prog 12 pool_Take_S ∧ Bodied Try.prog 12 :=
  ⟨fn_sound (s := pool_Take_S) (T := []) (Λ := fun _ _ _ _ => none) 0 Try.func12 (c := bodyOf Try.f12) (by kernel_rfl) (by kernel_rfl) (lkΓ_cons (g := 20) (s0 := pool_Check_S) pool_Check_ok (lkΓ_cons (g := 27) (s0 := pool_own_S) pool_own_ok (lkΓ_cons (g := 28) (s0 := tag_Pack_S) tag_Pack_ok lkΓ_nil))) (by decide +kernel) (by decide +kernel) (fun _ _ _ => rfl) pool_Take_cuts (fun x => pool_Take_run  x), bodied_of Try.func12 (by decide +kernel) (by decide +kernel)⟩

/-! tendril/tag.Unpack -/
def tag_Unpack (x : Int) : Option (Int × Int × Int) :=
  bif Decidable.decide (x < (1 : Int)) then
    some (((0 : Int), (0 : Int), (1 : Int)))
  else
    bif Decidable.decide ((1099511627776 : Int) ≤ (Go.RowKit.wrap64 (x - (1 : Int))).fdiv ((2 : Int) ^ Min.min (Int.toNat (10 : Int)) Go.IntKind.i64.bits)) then
      some (((0 : Int), (0 : Int), (1 : Int)))
    else
      some ((Go.bits Go.BinOp.and Go.IntKind.i64 (Go.RowKit.wrap64 (x - (1 : Int))) (1023 : Int), (Go.RowKit.wrap64 (x - (1 : Int))).fdiv ((2 : Int) ^ Min.min (Int.toNat (10 : Int)) Go.IntKind.i64.bits), (0 : Int)))
def tag_Unpack_S : Sig := ⟨[⟨false, .int⟩], [⟨false, .int⟩, ⟨false, .int⟩, ⟨false, .int⟩], false, tag_Unpack⟩
set_option maxRecDepth 100000 in
theorem tag_Unpack_run (x : Tup [⟨false, .int⟩]) : (pxFn Try.prog (lkΓ []) [] Try.f21 (bodyOf Try.f21) false [⟨false, .int⟩, ⟨false, .int⟩, ⟨false, .int⟩] (encTup [⟨false, .int⟩] x)).run (fun _ _ _ => none) = tag_Unpack x := by kernel_rfl
theorem tag_Unpack_cuts : ∀ p ∈ cuts Try.prog (lkΓ []) Try.f21.ntmps [] (bodyOf Try.f21) (κ0 Try.prog Try.f21 false [⟨false, .int⟩, ⟨false, .int⟩, ⟨false, .int⟩]), CutOk (fun _ _ _ _ => none) p := cutsNil (by kernel_rfl)
theorem tag_Unpack_ok : SigOk Try.prog 21 tag_Unpack_S ∧ Bodied Try.prog 21 :=
  ⟨fn_sound (s := tag_Unpack_S) (T := []) (Λ := fun _ _ _ _ => none) 0 Try.func21 (c := bodyOf Try.f21) (by kernel_rfl) (by kernel_rfl) lkΓ_nil (by decide +kernel) (by decide +kernel) (fun _ _ _ => rfl) tag_Unpack_cuts (fun x => tag_Unpack_run  x), bodied_of Try.func21 (by decide +kernel) (by decide +kernel)⟩

/-! tendril/pool.Retire -/
def pool_Retire (x : (List Int × List Int × List Int × List Int) × Int × Int) : Option ((List Int × List Int × List Int × List Int) × Int) :=
  (tag_Unpack (x.snd.1)).bind fun r0 =>
  (pool_Check ((x.fst.1, x.fst.snd.1, x.fst.snd.snd.1, x.fst.snd.snd.2))).bind fun r1 =>
  bif r1 != (0 : Int) then
    some ((([], [], [], []), (1 : Int)))
  else
    bif r0.snd.2 != (0 : Int) then
      some ((([], [], [], []), (1 : Int)))
    else
      bif Decidable.decide ((↑(List.length x.fst.1) : Int) ≤ r0.1) then
        some ((([], [], [], []), (1 : Int)))
      else
        bif Decidable.decide ((0 : Int) ≤ r0.1) then
          bif Decidable.decide (r0.1 < (↑(List.length x.fst.snd.1) : Int)) then
            bif List.getD x.fst.snd.1 (Int.toNat r0.1) (0 : Int) != (1 : Int) then
              some ((([], [], [], []), (2 : Int)))
            else
              bif Decidable.decide ((0 : Int) ≤ r0.1) then
                bif Decidable.decide (r0.1 < (↑(List.length x.fst.1) : Int)) then
                  bif List.getD x.fst.1 (Int.toNat r0.1) (0 : Int) != r0.snd.1 then
                    some ((([], [], [], []), (2 : Int)))
                  else
                    (pool_own ((x.fst.1, x.fst.snd.1, x.fst.snd.snd.1, x.fst.snd.snd.2))).bind fun r2 =>
                    bif Decidable.decide ((0 : Int) ≤ r0.1) then
                      bif Decidable.decide (r0.1 < (↑(List.length r2.snd.1) : Int)) then
                        bif Decidable.decide ((0 : Int) ≤ r0.1) then
                          bif Decidable.decide (r0.1 < (↑(List.length r2.snd.snd.1) : Int)) then
                            some (((r2.1, List.set r2.snd.1 (Int.toNat r0.1) (2 : Int), List.set r2.snd.snd.1 (Int.toNat r0.1) x.snd.2, r2.snd.snd.2), (0 : Int)))
                          else
                            none
                        else
                          none
                      else
                        none
                    else
                      none
                else
                  none
              else
                none
          else
            none
        else
          none
def pool_Retire_S : Sig := ⟨[⟨true, (.pair (.sl .int) (.pair (.sl .int) (.pair (.sl .int) (.sl .int))))⟩, ⟨false, .int⟩, ⟨false, .int⟩], [⟨true, (.pair (.sl .int) (.pair (.sl .int) (.pair (.sl .int) (.sl .int))))⟩, ⟨false, .int⟩], true, pool_Retire⟩
set_option maxRecDepth 100000 in
theorem pool_Retire_run (x : Tup [⟨true, (.pair (.sl .int) (.pair (.sl .int) (.pair (.sl .int) (.sl .int))))⟩, ⟨false, .int⟩, ⟨false, .int⟩]) : (pxFn Try.prog (lkΓ [(20, pool_Check_S), (21, tag_Unpack_S), (27, pool_own_S)]) [] Try.f14 (bodyOf Try.f14) true [⟨true, (.pair (.sl .int) (.pair (.sl .int) (.pair (.sl .int) (.sl .int))))⟩, ⟨false, .int⟩] (encTup [⟨true, (.pair (.sl .int) (.pair (.sl .int) (.pair (.sl .int) (.sl .int))))⟩, ⟨false, .int⟩, ⟨false, .int⟩] x)).run (fun _ _ _ => none) = pool_Retire x := by kernel_rfl
theorem pool_Retire_cuts : ∀ p ∈ cuts Try.prog (lkΓ [(20, pool_Check_S), (21, tag_Unpack_S), (27, pool_own_S)]) Try.f14.ntmps [] (bodyOf Try.f14) (κ0 Try.prog Try.f14 true [⟨true, (.pair (.sl .int) (.pair (.sl .int) (.pair (.sl .int) (.sl .int))))⟩, ⟨false, .int⟩]), CutOk (fun _ _ _ _ => none) p := cutsNil (by kernel_rfl)
theorem pool_Retire_ok : SigOk Try.prog 14 pool_Retire_S ∧ Bodied Try.prog 14 :=
  ⟨fn_sound (s := pool_Retire_S) (T := []) (Λ := fun _ _ _ _ => none) 0 Try.func14 (c := bodyOf Try.f14) (by kernel_rfl) (by kernel_rfl) (lkΓ_cons (g := 20) (s0 := pool_Check_S) pool_Check_ok (lkΓ_cons (g := 21) (s0 := tag_Unpack_S) tag_Unpack_ok (lkΓ_cons (g := 27) (s0 := pool_own_S) pool_own_ok lkΓ_nil))) (by decide +kernel) (by decide +kernel) (fun _ _ _ => rfl) pool_Retire_cuts (fun x => pool_Retire_run  x), bodied_of Try.func14 (by decide +kernel) (by decide +kernel)⟩

/-! tendril/pool.Reclaim -/
def pool_Reclaim_L14 : Nat → (Int) → (Int) → (Int) → (Int) → (List Int) → (List Int) → (List Int) → (List Int) → Option ((List Int × List Int × List Int × List Int) × Int)
  | 0, _, _, _, _, _, _, _, _ => none
  | k + 1, p0, p1, p2, p3, p4, p5, p6, p7 =>
    bif Decidable.decide (p3 < p2) then
      bif Decidable.decide ((0 : Int) ≤ p3) then
        bif Decidable.decide (p3 < (↑p4.length : Int)) then
          bif p4.getD p3.toNat (0 : Int) == (2 : Int) then
            bif Decidable.decide ((0 : Int) ≤ p3) then
              bif Decidable.decide (p3 < (↑p6.length : Int)) then
                bif Decidable.decide (p6.getD p3.toNat (0 : Int) ≤ p0) then
                  bif Decidable.decide ((0 : Int) ≤ p3) then
                    bif Decidable.decide (p3 < (↑p5.length : Int)) then
                      bif p5.getD p3.toNat (0 : Int) != (1099511627775 : Int) then
                        bif Decidable.decide ((0 : Int) ≤ p3) then
                          bif Decidable.decide (p3 < (↑p5.length : Int)) then
                            bif Decidable.decide (p7.length + [p3].length ≤ (1000000 : Nat)) then
                              bif Decidable.decide ((0 : Int) ≤ p3) then
                                bif Decidable.decide (p3 < (↑p4.length : Int)) then
                                  bif Decidable.decide ((0 : Int) ≤ p3) then
                                    bif Decidable.decide (p3 < (↑p6.length : Int)) then
                                      bif Decidable.decide ((0 : Int) ≤ p3) then
                                        bif Decidable.decide (p3 < (↑p5.length : Int)) then
                                          pool_Reclaim_L14 k (p0) (p1) (p2) (Go.RowKit.wrap64 (p3 + (1 : Int))) (p4.set p3.toNat (0 : Int)) (p5.set p3.toNat (Go.RowKit.wrap64 (p5.getD p3.toNat (0 : Int) + (1 : Int)))) (p6.set p3.toNat (0 : Int)) (p7 ++ [p3])
                                        else
                                          none
                                      else
                                        none
                                    else
                                      none
                                  else
                                    none
                                else
                                  none
                              else
                                none
                            else
                              none
                          else
                            none
                        else
                          none
                      else
                        pool_Reclaim_L14 k (p0) (p1) (p2) (Go.RowKit.wrap64 (p3 + (1 : Int))) (p4) (p5) (p6) (p7)
                    else
                      none
                  else
                    none
                else
                  pool_Reclaim_L14 k (p0) (p1) (p2) (Go.RowKit.wrap64 (p3 + (1 : Int))) (p4) (p5) (p6) (p7)
              else
                none
            else
              none
          else
            pool_Reclaim_L14 k (p0) (p1) (p2) (Go.RowKit.wrap64 (p3 + (1 : Int))) (p4) (p5) (p6) (p7)
        else
          none
      else
        none
    else
      some (((p5, p4, p6, p7), Go.RowKit.wrap64 ((↑p7.length : Int) - p1)))
def pool_Reclaim_P14v0 (k : Nat) (vs : List SV) (bs : List Blk) : Option (Option ((List Int × List Int × List Int × List Int) × Int)) := match vs, bs with
  | [.val (.one (.int .i64 p0)), .val (.one (.ptr 0 0)), .val (.one (.ptr 1 0)), .val (.one (.int .i64 p1)), .val (.one (.row 2)), .val (.one (.int .i64 p2)), .val (.one (.int .i64 p3))], [.box [(.row 3), (.row 2), (.row 4), (.row 5)], .box [.nil, .nil, .nil, .nil], .row .int p4, .row .int p5, .row .int p6, .row .int p7] => some (pool_Reclaim_L14 k p0 p1 p2 p3 p4 p5 p6 p7)
  | _, _ => none
def pool_Reclaim_P14 (k : Nat) (vs : List SV) (bs : List Blk) : Option ((List Int × List Int × List Int × List Int) × Int) := match pool_Reclaim_P14v0 k vs bs with | some r => r | none => none
def pool_Reclaim_Λ (k L : Nat) (vs : List SV) (bs : List Blk) : Option ((List Int × List Int × List Int × List Int) × Int) := match Nat.beq L 14 with | true => pool_Reclaim_P14 k vs bs | false => none
def pool_Reclaim_K (K : Nat) (x : (List Int × List Int × List Int × List Int) × Int) : Option ((List Int × List Int × List Int × List Int) × Int) :=
  (pool_Check ((x.fst.1, x.fst.snd.1, x.fst.snd.snd.1, x.fst.snd.snd.2))).bind fun r0 =>
  bif r0 != (0 : Int) then
    some ((([], [], [], []), (0 : Int)))
  else
    (pool_own ((x.fst.1, x.fst.snd.1, x.fst.snd.snd.1, x.fst.snd.snd.2))).bind fun r1 =>
    pool_Reclaim_L14 K (x.2) ((↑(List.length r1.snd.snd.2) : Int)) ((↑(List.length r1.snd.1) : Int)) ((0 : Int)) (r1.snd.1) (r1.1) (r1.snd.snd.1) (r1.snd.snd.2)
def pool_Reclaim (x : ((List Int) × ((List Int) × ((List Int) × (List Int)))) × Int) : Option (((List Int) × ((List Int) × ((List Int) × (List Int)))) × Int) := pool_Reclaim_K 2000000 x
def pool_Reclaim_S : Sig := ⟨[⟨true, (.pair (.sl .int) (.pair (.sl .int) (.pair (.sl .int) (.sl .int))))⟩, ⟨false, .int⟩], [⟨true, (.pair (.sl .int) (.pair (.sl .int) (.pair (.sl .int) (.sl .int))))⟩, ⟨false, .int⟩], true, pool_Reclaim⟩
noncomputable def pool_Reclaim_C : List (Cut (Tup [⟨true, (.pair (.sl .int) (.pair (.sl .int) (.pair (.sl .int) (.sl .int))))⟩, ⟨false, .int⟩])) := cuts Try.prog (lkΓ [(20, pool_Check_S), (27, pool_own_S)]) Try.f16.ntmps [(14, [1, 2, 4, 6, 19, 20, 21])] (bodyOf Try.f16) (κ0 Try.prog Try.f16 true [⟨true, (.pair (.sl .int) (.pair (.sl .int) (.pair (.sl .int) (.sl .int))))⟩, ⟨false, .int⟩])
set_option maxRecDepth 100000 in
theorem pool_Reclaim_c14 (k : Nat) (p0 : Int) (p1 : Int) (p2 : Int) (p3 : Int) (p4 : List Int) (p5 : List Int) (p6 : List Int) (p7 : List Int) : ((nthC pool_Reclaim_C 0).g (mkSt [1, 2, 4, 6, 19, 20, 21] [.val (.one (.int .i64 p0)), .val (.one (.ptr 0 0)), .val (.one (.ptr 1 0)), .val (.one (.int .i64 p1)), .val (.one (.row 2)), .val (.one (.int .i64 p2)), .val (.one (.int .i64 p3))] [.box [(.row 3), (.row 2), (.row 4), (.row 5)], .box [.nil, .nil, .nil, .nil], .row .int p4, .row .int p5, .row .int p6, .row .int p7])).run (pool_Reclaim_Λ k) = pool_Reclaim_L14 (k + 1) p0 p1 p2 p3 p4 p5 p6 p7 := by kernel_rfl
theorem pool_Reclaim_e14 (k : Nat) (vs : List SV) (bs : List Blk) (r : ((List Int) × ((List Int) × ((List Int) × (List Int)))) × Int) (h : pool_Reclaim_P14v0 (k + 1) vs bs = some (some r)) : ((nthC pool_Reclaim_C 0).g (mkSt [1, 2, 4, 6, 19, 20, 21] vs bs)).run (pool_Reclaim_Λ k) = some r := by
  unfold pool_Reclaim_P14v0 at h
  split at h
  · exact (pool_Reclaim_c14 k _ _ _ _ _ _ _ _).trans (Option.some.inj h)
  · cases h
theorem pool_Reclaim_d14 : CutOk pool_Reclaim_Λ (nthC pool_Reclaim_C 0) := by
  refine cutOk_of (L := 14) (live := [1, 2, 4, 6, 19, 20, 21]) (by kernel_rfl) (by kernel_rfl) fun k vs bs r h => ?_
  change pool_Reclaim_P14 (k + 1) vs bs = some r at h
  unfold pool_Reclaim_P14 at h
  split at h
  · rename_i q hq
    exact pool_Reclaim_e14 k vs bs r (hq.trans (congrArg some h))
  cases h
theorem pool_Reclaim_cuts : ∀ p ∈ cuts Try.prog (lkΓ [(20, pool_Check_S), (27, pool_own_S)]) Try.f16.ntmps [(14, [1, 2, 4, 6, 19, 20, 21])] (bodyOf Try.f16) (κ0 Try.prog Try.f16 true [⟨true, (.pair (.sl .int) (.pair (.sl .int) (.pair (.sl .int) (.sl .int))))⟩, ⟨false, .int⟩]), CutOk pool_Reclaim_Λ p := cutsOk (l := pool_Reclaim_C) (n := 1) (by kernel_rfl) fun
  | 0, _ => pool_Reclaim_d14
  | k + 1, h => absurd h (by omega)
theorem pool_Reclaim_z14 (vs : List SV) (bs : List Blk) (q : Option (((List Int) × ((List Int) × ((List Int) × (List Int)))) × Int)) (h : pool_Reclaim_P14v0 0 vs bs = some q) : q = none := by
  unfold pool_Reclaim_P14v0 at h; split at h
  · have h := Option.some.inj h; rw [← h]; first | rfl | (unfold pool_Reclaim_L14; rfl)
  · cases h
theorem pool_Reclaim_Λ0 (L : Nat) (vs : List SV) (bs : List Blk) : pool_Reclaim_Λ 0 L vs bs = none := by
  unfold pool_Reclaim_Λ
  split
  · unfold pool_Reclaim_P14
    split
    · rename_i q hq; exact pool_Reclaim_z14 _ _ q hq
    rfl
  rfl
set_option maxRecDepth 100000 in
theorem pool_Reclaim_run (K : Nat) (x : Tup [⟨true, (.pair (.sl .int) (.pair (.sl .int) (.pair (.sl .int) (.sl .int))))⟩, ⟨false, .int⟩]) : (pxFn Try.prog (lkΓ [(20, pool_Check_S), (27, pool_own_S)]) [(14, [1, 2, 4, 6, 19, 20, 21])] Try.f16 (bodyOf Try.f16) true [⟨true, (.pair (.sl .int) (.pair (.sl .int) (.pair (.sl .int) (.sl .int))))⟩, ⟨false, .int⟩] (encTup [⟨true, (.pair (.sl .int) (.pair (.sl .int) (.pair (.sl .int) (.sl .int))))⟩, ⟨false, .int⟩] x)).run (pool_Reclaim_Λ K) = pool_Reclaim_K K x := by kernel_rfl
theorem pool_Reclaim_ok : SigOk Try.prog 16 pool_Reclaim_S ∧ Bodied Try.prog 16 :=
  ⟨fn_sound (s := pool_Reclaim_S) (T := [(14, [1, 2, 4, 6, 19, 20, 21])]) (Λ := pool_Reclaim_Λ) 2000000 Try.func16 (c := bodyOf Try.f16) (by kernel_rfl) (by kernel_rfl) (lkΓ_cons (g := 20) (s0 := pool_Check_S) pool_Check_ok (lkΓ_cons (g := 27) (s0 := pool_own_S) pool_own_ok lkΓ_nil)) (by decide +kernel) (by decide +kernel) pool_Reclaim_Λ0 pool_Reclaim_cuts (fun x => pool_Reclaim_run 2000000 x), bodied_of Try.func16 (by decide +kernel) (by decide +kernel)⟩

/-! tendril/pool.New -/
def pool_New_L12 : Nat → (Int) → (Int) → (List Int) → (List Int) → (List Int) → (List Int) → Option ((List Int × List Int × List Int × List Int) × Int)
  | 0, _, _, _, _, _, _ => none
  | k + 1, p0, p1, p2, p3, p4, p5 =>
    bif Decidable.decide (p1 < p0) then
      bif Decidable.decide ((0 : Int) ≤ p1) then
        bif Decidable.decide (p1 < (↑p5.length : Int)) then
          pool_New_L12 k (p0) (Go.RowKit.wrap64 (p1 + (1 : Int))) (p2) (p3) (p4) (p5.set p1.toNat p1)
        else
          none
      else
        none
    else
      some (((p2, p3, p4, p5), (0 : Int)))
def pool_New_P12v0 (k : Nat) (vs : List SV) (bs : List Blk) : Option (Option ((List Int × List Int × List Int × List Int) × Int)) := match vs, bs with
  | [.val (.one (.ptr 0 0)), .val (.one (.ptr 1 0)), .val (.one (.int .i64 p0)), .val (.one (.int .i64 p1))], [.box [.nil, .nil, .nil, .nil], .box [(.row 2), (.row 3), (.row 4), (.row 5)], .row .int p2, .row .int p3, .row .int p4, .row .int p5] => some (pool_New_L12 k p0 p1 p2 p3 p4 p5)
  | _, _ => none
def pool_New_P12 (k : Nat) (vs : List SV) (bs : List Blk) : Option ((List Int × List Int × List Int × List Int) × Int) := match pool_New_P12v0 k vs bs with | some r => r | none => none
def pool_New_Λ (k L : Nat) (vs : List SV) (bs : List Blk) : Option ((List Int × List Int × List Int × List Int) × Int) := match Nat.beq L 12 with | true => pool_New_P12 k vs bs | false => none
def pool_New_K (K : Nat) (x : Int) : Option ((List Int × List Int × List Int × List Int) × Int) :=
  bif Decidable.decide (x < (1 : Int)) then
    some ((([], [], [], []), (1 : Int)))
  else
    bif Decidable.decide ((64 : Int) < x) then
      some ((([], [], [], []), (1 : Int)))
    else
      bif Decidable.decide ((0 : Int) ≤ x) then
        bif Decidable.decide (x ≤ (1000000 : Int)) then
          bif Decidable.decide ((0 : Int) ≤ x) then
            bif Decidable.decide (x ≤ (1000000 : Int)) then
              bif Decidable.decide ((0 : Int) ≤ x) then
                bif Decidable.decide (x ≤ (1000000 : Int)) then
                  bif Decidable.decide ((0 : Int) ≤ x) then
                    bif Decidable.decide (x ≤ (1000000 : Int)) then
                      pool_New_L12 K ((↑(List.replicate (Int.toNat x) (0 : Int)).length : Int)) ((0 : Int)) (List.replicate (Int.toNat x) (0 : Int)) (List.replicate (Int.toNat x) (0 : Int)) (List.replicate (Int.toNat x) (0 : Int)) (List.replicate (Int.toNat x) (0 : Int))
                    else
                      none
                  else
                    none
                else
                  none
              else
                none
            else
              none
          else
            none
        else
          none
      else
        none
def pool_New (x : Int) : Option (((List Int) × ((List Int) × ((List Int) × (List Int)))) × Int) := pool_New_K 2000000 x
def pool_New_S : Sig := ⟨[⟨false, .int⟩], [⟨true, (.pair (.sl .int) (.pair (.sl .int) (.pair (.sl .int) (.sl .int))))⟩, ⟨false, .int⟩], true, pool_New⟩
noncomputable def pool_New_C : List (Cut (Tup [⟨true, (.pair (.sl .int) (.pair (.sl .int) (.pair (.sl .int) (.sl .int))))⟩, ⟨false, .int⟩])) := cuts Try.prog (lkΓ []) Try.f19.ntmps [(12, [2, 4, 24, 25])] (bodyOf Try.f19) (κ0 Try.prog Try.f19 true [⟨true, (.pair (.sl .int) (.pair (.sl .int) (.pair (.sl .int) (.sl .int))))⟩, ⟨false, .int⟩])
set_option maxRecDepth 100000 in
theorem pool_New_c12 (k : Nat) (p0 : Int) (p1 : Int) (p2 : List Int) (p3 : List Int) (p4 : List Int) (p5 : List Int) : ((nthC pool_New_C 0).g (mkSt [2, 4, 24, 25] [.val (.one (.ptr 0 0)), .val (.one (.ptr 1 0)), .val (.one (.int .i64 p0)), .val (.one (.int .i64 p1))] [.box [.nil, .nil, .nil, .nil], .box [(.row 2), (.row 3), (.row 4), (.row 5)], .row .int p2, .row .int p3, .row .int p4, .row .int p5])).run (pool_New_Λ k) = pool_New_L12 (k + 1) p0 p1 p2 p3 p4 p5 := by kernel_rfl
theorem pool_New_e12 (k : Nat) (vs : List SV) (bs : List Blk) (r : ((List Int) × ((List Int) × ((List Int) × (List Int)))) × Int) (h : pool_New_P12v0 (k + 1) vs bs = some (some r)) : ((nthC pool_New_C 0).g (mkSt [2, 4, 24, 25] vs bs)).run (pool_New_Λ k) = some r := by
  unfold pool_New_P12v0 at h
  split at h
  · exact (pool_New_c12 k _ _ _ _ _ _).trans (Option.some.inj h)
  · cases h
theorem pool_New_d12 : CutOk pool_New_Λ (nthC pool_New_C 0) := by
  refine cutOk_of (L := 12) (live := [2, 4, 24, 25]) (by kernel_rfl) (by kernel_rfl) fun k vs bs r h => ?_
  change pool_New_P12 (k + 1) vs bs = some r at h
  unfold pool_New_P12 at h
  split at h
  · rename_i q hq
    exact pool_New_e12 k vs bs r (hq.trans (congrArg some h))
  cases h
theorem pool_New_cuts : ∀ p ∈ cuts Try.prog (lkΓ []) Try.f19.ntmps [(12, [2, 4, 24, 25])] (bodyOf Try.f19) (κ0 Try.prog Try.f19 true [⟨true, (.pair (.sl .int) (.pair (.sl .int) (.pair (.sl .int) (.sl .int))))⟩, ⟨false, .int⟩]), CutOk pool_New_Λ p := cutsOk (l := pool_New_C) (n := 1) (by kernel_rfl) fun
  | 0, _ => pool_New_d12
  | k + 1, h => absurd h (by omega)
theorem pool_New_z12 (vs : List SV) (bs : List Blk) (q : Option (((List Int) × ((List Int) × ((List Int) × (List Int)))) × Int)) (h : pool_New_P12v0 0 vs bs = some q) : q = none := by
  unfold pool_New_P12v0 at h; split at h
  · have h := Option.some.inj h; rw [← h]; first | rfl | (unfold pool_New_L12; rfl)
  · cases h
theorem pool_New_Λ0 (L : Nat) (vs : List SV) (bs : List Blk) : pool_New_Λ 0 L vs bs = none := by
  unfold pool_New_Λ
  split
  · unfold pool_New_P12
    split
    · rename_i q hq; exact pool_New_z12 _ _ q hq
    rfl
  rfl
set_option maxRecDepth 100000 in
theorem pool_New_run (K : Nat) (x : Tup [⟨false, .int⟩]) : (pxFn Try.prog (lkΓ []) [(12, [2, 4, 24, 25])] Try.f19 (bodyOf Try.f19) true [⟨true, (.pair (.sl .int) (.pair (.sl .int) (.pair (.sl .int) (.sl .int))))⟩, ⟨false, .int⟩] (encTup [⟨false, .int⟩] x)).run (pool_New_Λ K) = pool_New_K K x := by kernel_rfl
theorem pool_New_ok : SigOk Try.prog 19 pool_New_S ∧ Bodied Try.prog 19 :=
  ⟨fn_sound (s := pool_New_S) (T := [(12, [2, 4, 24, 25])]) (Λ := pool_New_Λ) 2000000 Try.func19 (c := bodyOf Try.f19) (by kernel_rfl) (by kernel_rfl) lkΓ_nil (by decide +kernel) (by decide +kernel) pool_New_Λ0 pool_New_cuts (fun x => pool_New_run 2000000 x), bodied_of Try.func19 (by decide +kernel) (by decide +kernel)⟩

/-! tendril/tendrillaw05.live -/
def tendrillaw05_live (x : Unit) : Option (Bool) :=
  (pool_New ((1 : Int))).bind fun r0 =>
  (pool_Take ((r0.fst.1, r0.fst.snd.1, r0.fst.snd.snd.1, r0.fst.snd.snd.2))).bind fun r1 =>
  (pool_Retire (((r1.fst.1, r1.fst.snd.1, r1.fst.snd.snd.1, r1.fst.snd.snd.2), (1 : Int), (3 : Int)))).bind fun r2 =>
  (pool_Reclaim (((r2.fst.1, r2.fst.snd.1, r2.fst.snd.snd.1, r2.fst.snd.snd.2), (3 : Int)))).bind fun r3 =>
  (pool_Take ((r3.fst.1, r3.fst.snd.1, r3.fst.snd.snd.1, r3.fst.snd.snd.2))).bind fun r4 =>
  bif r0.2 == (0 : Int) then
    bif r1.snd.2 == (0 : Int) then
      bif r2.2 == (0 : Int) then
        bif r3.2 == (1 : Int) then
          bif r4.snd.2 == (0 : Int) then
            some (r4.snd.1 == (1025 : Int))
          else
            some (Bool.false)
        else
          some (Bool.false)
      else
        some (Bool.false)
    else
      some (Bool.false)
  else
    some (Bool.false)
def tendrillaw05_live_S : Sig := ⟨[], [⟨false, .bool⟩], false, tendrillaw05_live⟩
set_option maxRecDepth 100000 in
theorem tendrillaw05_live_run (x : Tup []) : (pxFn Try.prog (lkΓ [(12, pool_Take_S), (14, pool_Retire_S), (16, pool_Reclaim_S), (19, pool_New_S)]) [] Try.f9 (bodyOf Try.f9) false [⟨false, .bool⟩] (encTup [] x)).run (fun _ _ _ => none) = tendrillaw05_live x := by kernel_rfl
theorem tendrillaw05_live_cuts : ∀ p ∈ cuts Try.prog (lkΓ [(12, pool_Take_S), (14, pool_Retire_S), (16, pool_Reclaim_S), (19, pool_New_S)]) Try.f9.ntmps [] (bodyOf Try.f9) (κ0 Try.prog Try.f9 false [⟨false, .bool⟩]), CutOk (fun _ _ _ _ => none) p := cutsNil (by kernel_rfl)
theorem tendrillaw05_live_ok : SigOk Try.prog 9 tendrillaw05_live_S ∧ Bodied Try.prog 9 :=
  ⟨fn_sound (s := tendrillaw05_live_S) (T := []) (Λ := fun _ _ _ _ => none) 0 Try.func9 (c := bodyOf Try.f9) (by kernel_rfl) (by kernel_rfl) (lkΓ_cons (g := 12) (s0 := pool_Take_S) pool_Take_ok (lkΓ_cons (g := 14) (s0 := pool_Retire_S) pool_Retire_ok (lkΓ_cons (g := 16) (s0 := pool_Reclaim_S) pool_Reclaim_ok (lkΓ_cons (g := 19) (s0 := pool_New_S) pool_New_ok lkΓ_nil)))) (by decide +kernel) (by decide +kernel) (fun _ _ _ => rfl) tendrillaw05_live_cuts (fun x => tendrillaw05_live_run  x), bodied_of Try.func9 (by decide +kernel) (by decide +kernel)⟩

/-! tendril/tendrilref05.Few -/
def tendrilref05_Few (x : List Int × List Int × List Int × List Int) : Option (Bool) :=
  bif Decidable.decide ((↑(List.length x.1) : Int) ≤ (200 : Int)) then
    bif Decidable.decide ((↑(List.length x.snd.1) : Int) ≤ (200 : Int)) then
      bif Decidable.decide ((↑(List.length x.snd.snd.1) : Int) ≤ (200 : Int)) then
        some (Decidable.decide ((↑(List.length x.snd.snd.2) : Int) ≤ (200 : Int)))
      else
        some (Bool.false)
    else
      some (Bool.false)
  else
    some (Bool.false)
def tendrilref05_Few_S : Sig := ⟨[⟨true, (.pair (.sl .int) (.pair (.sl .int) (.pair (.sl .int) (.sl .int))))⟩], [⟨false, .bool⟩], false, tendrilref05_Few⟩
set_option maxRecDepth 100000 in
theorem tendrilref05_Few_run (x : Tup [⟨true, (.pair (.sl .int) (.pair (.sl .int) (.pair (.sl .int) (.sl .int))))⟩]) : (pxFn Try.prog (lkΓ []) [] Try.f10 (bodyOf Try.f10) false [⟨false, .bool⟩] (encTup [⟨true, (.pair (.sl .int) (.pair (.sl .int) (.pair (.sl .int) (.sl .int))))⟩] x)).run (fun _ _ _ => none) = tendrilref05_Few x := by kernel_rfl
theorem tendrilref05_Few_cuts : ∀ p ∈ cuts Try.prog (lkΓ []) Try.f10.ntmps [] (bodyOf Try.f10) (κ0 Try.prog Try.f10 false [⟨false, .bool⟩]), CutOk (fun _ _ _ _ => none) p := cutsNil (by kernel_rfl)
theorem tendrilref05_Few_ok : SigOk Try.prog 10 tendrilref05_Few_S ∧ Bodied Try.prog 10 :=
  ⟨fn_sound (s := tendrilref05_Few_S) (T := []) (Λ := fun _ _ _ _ => none) 0 Try.func10 (c := bodyOf Try.f10) (by kernel_rfl) (by kernel_rfl) lkΓ_nil (by decide +kernel) (by decide +kernel) (fun _ _ _ => rfl) tendrilref05_Few_cuts (fun x => tendrilref05_Few_run  x), bodied_of Try.func10 (by decide +kernel) (by decide +kernel)⟩

/-! tendril/tendrilref02.Copy -/
def tendrilref02_Copy (x : List Int) : Option (List Int) :=
  bif Decidable.decide ((0 : Nat) + List.length x ≤ (1000000 : Nat)) then
    some (x)
  else
    none
def tendrilref02_Copy_S : Sig := ⟨[⟨false, (.sl .int)⟩], [⟨false, (.sl .int)⟩], true, tendrilref02_Copy⟩
set_option maxRecDepth 100000 in
theorem tendrilref02_Copy_run (x : Tup [⟨false, (.sl .int)⟩]) : (pxFn Try.prog (lkΓ []) [] Try.f26 (bodyOf Try.f26) true [⟨false, (.sl .int)⟩] (encTup [⟨false, (.sl .int)⟩] x)).run (fun _ _ _ => none) = tendrilref02_Copy x := by kernel_rfl
theorem tendrilref02_Copy_cuts : ∀ p ∈ cuts Try.prog (lkΓ []) Try.f26.ntmps [] (bodyOf Try.f26) (κ0 Try.prog Try.f26 true [⟨false, (.sl .int)⟩]), CutOk (fun _ _ _ _ => none) p := cutsNil (by kernel_rfl)
theorem tendrilref02_Copy_ok : SigOk Try.prog 26 tendrilref02_Copy_S ∧ Bodied Try.prog 26 :=
  ⟨fn_sound (s := tendrilref02_Copy_S) (T := []) (Λ := fun _ _ _ _ => none) 0 Try.func26 (c := bodyOf Try.f26) (by kernel_rfl) (by kernel_rfl) lkΓ_nil (by decide +kernel) (by decide +kernel) (fun _ _ _ => rfl) tendrilref02_Copy_cuts (fun x => tendrilref02_Copy_run  x), bodied_of Try.func26 (by decide +kernel) (by decide +kernel)⟩

/-! tendril/tendrilref05.Copy -/
def tendrilref05_Copy (x : List Int × List Int × List Int × List Int) : Option (List Int × List Int × List Int × List Int) :=
  (tendrilref02_Copy (x.1)).bind fun r0 =>
  (tendrilref02_Copy (x.snd.1)).bind fun r1 =>
  (tendrilref02_Copy (x.snd.snd.1)).bind fun r2 =>
  (tendrilref02_Copy (x.snd.snd.2)).bind fun r3 =>
  some ((r0, r1, r2, r3))
def tendrilref05_Copy_S : Sig := ⟨[⟨true, (.pair (.sl .int) (.pair (.sl .int) (.pair (.sl .int) (.sl .int))))⟩], [⟨true, (.pair (.sl .int) (.pair (.sl .int) (.pair (.sl .int) (.sl .int))))⟩], true, tendrilref05_Copy⟩
set_option maxRecDepth 100000 in
theorem tendrilref05_Copy_run (x : Tup [⟨true, (.pair (.sl .int) (.pair (.sl .int) (.pair (.sl .int) (.sl .int))))⟩]) : (pxFn Try.prog (lkΓ [(26, tendrilref02_Copy_S)]) [] Try.f11 (bodyOf Try.f11) true [⟨true, (.pair (.sl .int) (.pair (.sl .int) (.pair (.sl .int) (.sl .int))))⟩] (encTup [⟨true, (.pair (.sl .int) (.pair (.sl .int) (.pair (.sl .int) (.sl .int))))⟩] x)).run (fun _ _ _ => none) = tendrilref05_Copy x := by kernel_rfl
theorem tendrilref05_Copy_cuts : ∀ p ∈ cuts Try.prog (lkΓ [(26, tendrilref02_Copy_S)]) Try.f11.ntmps [] (bodyOf Try.f11) (κ0 Try.prog Try.f11 true [⟨true, (.pair (.sl .int) (.pair (.sl .int) (.pair (.sl .int) (.sl .int))))⟩]), CutOk (fun _ _ _ _ => none) p := cutsNil (by kernel_rfl)
theorem tendrilref05_Copy_ok : SigOk Try.prog 11 tendrilref05_Copy_S ∧ Bodied Try.prog 11 :=
  ⟨fn_sound (s := tendrilref05_Copy_S) (T := []) (Λ := fun _ _ _ _ => none) 0 Try.func11 (c := bodyOf Try.f11) (by kernel_rfl) (by kernel_rfl) (lkΓ_cons (g := 26) (s0 := tendrilref02_Copy_S) tendrilref02_Copy_ok lkΓ_nil) (by decide +kernel) (by decide +kernel) (fun _ _ _ => rfl) tendrilref05_Copy_cuts (fun x => tendrilref05_Copy_run  x), bodied_of Try.func11 (by decide +kernel) (by decide +kernel)⟩

/-! tendril/tendrilref05.Check -/
mutual
def tendrilref05_Check_L14 : Nat → (Int) → (Int) → (Int) → (List Int) → (List Int) → (List Int) → (List Int) → Option (Int)
  | 0, _, _, _, _, _, _, _ => none
  | k + 1, p0, p1, p2, p3, p4, p5, p6 =>
    bif Decidable.decide (p2 < p1) then
      bif Decidable.decide ((0 : Int) ≤ p2) then
        bif Decidable.decide (p2 < (↑p3.length : Int)) then
          bif Decidable.decide (p3.getD p2.toNat (0 : Int) < (0 : Int)) then
            some ((1 : Int))
          else
            bif Decidable.decide ((0 : Int) ≤ p2) then
              bif Decidable.decide (p2 < (↑p3.length : Int)) then
                bif Decidable.decide ((1099511627776 : Int) ≤ p3.getD p2.toNat (0 : Int)) then
                  some ((1 : Int))
                else
                  bif Decidable.decide ((0 : Int) ≤ p2) then
                    bif Decidable.decide (p2 < (↑p4.length : Int)) then
                      bif Decidable.decide (p4.getD p2.toNat (0 : Int) < (0 : Int)) then
                        some ((1 : Int))
                      else
                        bif Decidable.decide ((0 : Int) ≤ p2) then
                          bif Decidable.decide (p2 < (↑p4.length : Int)) then
                            bif Decidable.decide ((2 : Int) < p4.getD p2.toNat (0 : Int)) then
                              some ((1 : Int))
                            else
                              bif Decidable.decide ((0 : Int) ≤ p2) then
                                bif Decidable.decide (p2 < (↑p4.length : Int)) then
                                  bif p4.getD p2.toNat (0 : Int) != (2 : Int) then
                                    bif Decidable.decide ((0 : Int) ≤ p2) then
                                      bif Decidable.decide (p2 < (↑p5.length : Int)) then
                                        bif p5.getD p2.toNat (0 : Int) != (0 : Int) then
                                          some ((1 : Int))
                                        else
                                          tendrilref05_Check_L26 k (p0) (p2) ((0 : Int)) (p1) (p2) (p6) ((↑p6.length : Int)) ((0 : Int)) (p3) (p4) (p5) (p6)
                                      else
                                        none
                                    else
                                      none
                                  else
                                    tendrilref05_Check_L26 k (p0) (p2) ((0 : Int)) (p1) (p2) (p6) ((↑p6.length : Int)) ((0 : Int)) (p3) (p4) (p5) (p6)
                                else
                                  none
                              else
                                none
                          else
                            none
                        else
                          none
                    else
                      none
                  else
                    none
              else
                none
            else
              none
        else
          none
      else
        none
    else
      bif p0 != (↑p6.length : Int) then
        some ((1 : Int))
      else
        some ((0 : Int))
def tendrilref05_Check_L26 : Nat → (Int) → (Int) → (Int) → (Int) → (Int) → (List Int) → (Int) → (Int) → (List Int) → (List Int) → (List Int) → (List Int) → Option (Int)
  | 0, _, _, _, _, _, _, _, _, _, _, _, _ => none
  | k + 1, p0, p1, p2, p3, p4, p5, p6, p7, p8, p9, p10, p11 =>
    bif Decidable.decide (p7 < p6) then
      bif Decidable.decide ((0 : Int) ≤ p7) then
        bif Decidable.decide (p7 < (↑p5.length : Int)) then
          bif p5.getD p7.toNat (0 : Int) == p1 then
            tendrilref05_Check_L26 k (p0) (p1) (Go.RowKit.wrap64 (p2 + (1 : Int))) (p3) (p4) (p5) (p6) (Go.RowKit.wrap64 (p7 + (1 : Int))) (p8) (p9) (p10) (p11)
          else
            tendrilref05_Check_L26 k (p0) (p1) (p2) (p3) (p4) (p5) (p6) (Go.RowKit.wrap64 (p7 + (1 : Int))) (p8) (p9) (p10) (p11)
        else
          none
      else
        none
    else
      bif Decidable.decide ((1 : Int) < p2) then
        some ((1 : Int))
      else
        bif Decidable.decide ((0 : Int) ≤ p1) then
          bif Decidable.decide (p1 < (↑p9.length : Int)) then
            bif !(p2 == (1 : Int)) == (p9.getD p1.toNat (0 : Int) == (0 : Int)) then
              some ((1 : Int))
            else
              tendrilref05_Check_L14 k (Go.RowKit.wrap64 (p0 + p2)) (p3) (Go.RowKit.wrap64 (p4 + (1 : Int))) (p8) (p9) (p10) (p11)
          else
            none
        else
          none
end
def tendrilref05_Check_P14v0 (k : Nat) (vs : List SV) (bs : List Blk) : Option (Option (Int)) := match vs, bs with
  | [.val (.one (.ptr 0 0)), .val (.one (.int .i64 p0)), .val (.one (.int .i64 p1)), .val (.one (.int .i64 p2))], [.box [(.sl .int p3), (.sl .int p4), (.sl .int p5), (.sl .int p6)]] => some (tendrilref05_Check_L14 k p0 p1 p2 p3 p4 p5 p6)
  | _, _ => none
def tendrilref05_Check_P26v0 (k : Nat) (vs : List SV) (bs : List Blk) : Option (Option (Int)) := match vs, bs with
  | [.val (.one (.ptr 0 0)), .val (.one (.int .i64 p0)), .val (.one (.int .i64 p1)), .val (.one (.int .i64 p2)), .val (.one (.int .i64 p3)), .val (.one (.int .i64 p4)), .val (.one (.sl .int p5)), .val (.one (.int .i64 p6)), .val (.one (.int .i64 p7))], [.box [(.sl .int p8), (.sl .int p9), (.sl .int p10), (.sl .int p11)]] => some (tendrilref05_Check_L26 k p0 p1 p2 p3 p4 p5 p6 p7 p8 p9 p10 p11)
  | _, _ => none
def tendrilref05_Check_P14 (k : Nat) (vs : List SV) (bs : List Blk) : Option (Int) := match tendrilref05_Check_P14v0 k vs bs with | some r => r | none => none
def tendrilref05_Check_P26 (k : Nat) (vs : List SV) (bs : List Blk) : Option (Int) := match tendrilref05_Check_P26v0 k vs bs with | some r => r | none => none
def tendrilref05_Check_Λ (k L : Nat) (vs : List SV) (bs : List Blk) : Option (Int) := match Nat.beq L 14 with | true => tendrilref05_Check_P14 k vs bs | false => match Nat.beq L 26 with | true => tendrilref05_Check_P26 k vs bs | false => none
def tendrilref05_Check_K (K : Nat) (x : List Int × List Int × List Int × List Int) : Option (Int) :=
  bif Decidable.decide ((↑(List.length x.1) : Int) < (1 : Int)) then
    some ((1 : Int))
  else
    bif Decidable.decide ((64 : Int) < (↑(List.length x.1) : Int)) then
      some ((1 : Int))
    else
      bif (↑(List.length x.snd.1) : Int) != (↑(List.length x.1) : Int) then
        some ((1 : Int))
      else
        bif (↑(List.length x.snd.snd.1) : Int) != (↑(List.length x.1) : Int) then
          some ((1 : Int))
        else
          tendrilref05_Check_L14 K ((0 : Int)) ((↑(List.length x.1) : Int)) ((0 : Int)) (x.1) (x.snd.1) (x.snd.snd.1) (x.snd.snd.2)
def tendrilref05_Check (x : ((List Int) × ((List Int) × ((List Int) × (List Int))))) : Option (Int) := tendrilref05_Check_K 2000000 x
def tendrilref05_Check_S : Sig := ⟨[⟨true, (.pair (.sl .int) (.pair (.sl .int) (.pair (.sl .int) (.sl .int))))⟩], [⟨false, .int⟩], false, tendrilref05_Check⟩
noncomputable def tendrilref05_Check_C : List (Cut (Tup [⟨false, .int⟩])) := cuts Try.prog (lkΓ []) Try.f25.ntmps [(26, [1, 4, 5, 6, 32, 33, 83, 84, 85]), (14, [1, 4, 32, 33])] (bodyOf Try.f25) (κ0 Try.prog Try.f25 false [⟨false, .int⟩])
set_option maxRecDepth 100000 in
theorem tendrilref05_Check_c14 (k : Nat) (p0 : Int) (p1 : Int) (p2 : Int) (p3 : List Int) (p4 : List Int) (p5 : List Int) (p6 : List Int) : ((nthC tendrilref05_Check_C 0).g (mkSt [1, 4, 32, 33] [.val (.one (.ptr 0 0)), .val (.one (.int .i64 p0)), .val (.one (.int .i64 p1)), .val (.one (.int .i64 p2))] [.box [(.sl .int p3), (.sl .int p4), (.sl .int p5), (.sl .int p6)]])).run (tendrilref05_Check_Λ k) = tendrilref05_Check_L14 (k + 1) p0 p1 p2 p3 p4 p5 p6 := by kernel_rfl
theorem tendrilref05_Check_e14 (k : Nat) (vs : List SV) (bs : List Blk) (r : Int) (h : tendrilref05_Check_P14v0 (k + 1) vs bs = some (some r)) : ((nthC tendrilref05_Check_C 0).g (mkSt [1, 4, 32, 33] vs bs)).run (tendrilref05_Check_Λ k) = some r := by
  unfold tendrilref05_Check_P14v0 at h
  split at h
  · exact (tendrilref05_Check_c14 k _ _ _ _ _ _ _).trans (Option.some.inj h)
  · cases h
set_option maxRecDepth 100000 in
theorem tendrilref05_Check_c26 (k : Nat) (p0 : Int) (p1 : Int) (p2 : Int) (p3 : Int) (p4 : Int) (p5 : List Int) (p6 : Int) (p7 : Int) (p8 : List Int) (p9 : List Int) (p10 : List Int) (p11 : List Int) : ((nthC tendrilref05_Check_C 1).g (mkSt [1, 4, 5, 6, 32, 33, 83, 84, 85] [.val (.one (.ptr 0 0)), .val (.one (.int .i64 p0)), .val (.one (.int .i64 p1)), .val (.one (.int .i64 p2)), .val (.one (.int .i64 p3)), .val (.one (.int .i64 p4)), .val (.one (.sl .int p5)), .val (.one (.int .i64 p6)), .val (.one (.int .i64 p7))] [.box [(.sl .int p8), (.sl .int p9), (.sl .int p10), (.sl .int p11)]])).run (tendrilref05_Check_Λ k) = tendrilref05_Check_L26 (k + 1) p0 p1 p2 p3 p4 p5 p6 p7 p8 p9 p10 p11 := by kernel_rfl
theorem tendrilref05_Check_e26 (k : Nat) (vs : List SV) (bs : List Blk) (r : Int) (h : tendrilref05_Check_P26v0 (k + 1) vs bs = some (some r)) : ((nthC tendrilref05_Check_C 1).g (mkSt [1, 4, 5, 6, 32, 33, 83, 84, 85] vs bs)).run (tendrilref05_Check_Λ k) = some r := by
  unfold tendrilref05_Check_P26v0 at h
  split at h
  · exact (tendrilref05_Check_c26 k _ _ _ _ _ _ _ _ _ _ _ _).trans (Option.some.inj h)
  · cases h
theorem tendrilref05_Check_d14 : CutOk tendrilref05_Check_Λ (nthC tendrilref05_Check_C 0) := by
  refine cutOk_of (L := 14) (live := [1, 4, 32, 33]) (by kernel_rfl) (by kernel_rfl) fun k vs bs r h => ?_
  change tendrilref05_Check_P14 (k + 1) vs bs = some r at h
  unfold tendrilref05_Check_P14 at h
  split at h
  · rename_i q hq
    exact tendrilref05_Check_e14 k vs bs r (hq.trans (congrArg some h))
  cases h
theorem tendrilref05_Check_d26 : CutOk tendrilref05_Check_Λ (nthC tendrilref05_Check_C 1) := by
  refine cutOk_of (L := 26) (live := [1, 4, 5, 6, 32, 33, 83, 84, 85]) (by kernel_rfl) (by kernel_rfl) fun k vs bs r h => ?_
  change tendrilref05_Check_P26 (k + 1) vs bs = some r at h
  unfold tendrilref05_Check_P26 at h
  split at h
  · rename_i q hq
    exact tendrilref05_Check_e26 k vs bs r (hq.trans (congrArg some h))
  cases h
theorem tendrilref05_Check_cuts : ∀ p ∈ cuts Try.prog (lkΓ []) Try.f25.ntmps [(26, [1, 4, 5, 6, 32, 33, 83, 84, 85]), (14, [1, 4, 32, 33])] (bodyOf Try.f25) (κ0 Try.prog Try.f25 false [⟨false, .int⟩]), CutOk tendrilref05_Check_Λ p := cutsOk (l := tendrilref05_Check_C) (n := 2) (by kernel_rfl) fun
  | 0, _ => tendrilref05_Check_d14
  | 1, _ => tendrilref05_Check_d26
  | k + 2, h => absurd h (by omega)
theorem tendrilref05_Check_z14 (vs : List SV) (bs : List Blk) (q : Option (Int)) (h : tendrilref05_Check_P14v0 0 vs bs = some q) : q = none := by
  unfold tendrilref05_Check_P14v0 at h; split at h
  · have h := Option.some.inj h; rw [← h]; first | rfl | (unfold tendrilref05_Check_L14; rfl)
  · cases h
theorem tendrilref05_Check_z26 (vs : List SV) (bs : List Blk) (q : Option (Int)) (h : tendrilref05_Check_P26v0 0 vs bs = some q) : q = none := by
  unfold tendrilref05_Check_P26v0 at h; split at h
  · have h := Option.some.inj h; rw [← h]; first | rfl | (unfold tendrilref05_Check_L26; rfl)
  · cases h
theorem tendrilref05_Check_Λ0 (L : Nat) (vs : List SV) (bs : List Blk) : tendrilref05_Check_Λ 0 L vs bs = none := by
  unfold tendrilref05_Check_Λ
  split
  · unfold tendrilref05_Check_P14
    split
    · rename_i q hq; exact tendrilref05_Check_z14 _ _ q hq
    rfl
  split
  · unfold tendrilref05_Check_P26
    split
    · rename_i q hq; exact tendrilref05_Check_z26 _ _ q hq
    rfl
  rfl
set_option maxRecDepth 100000 in
theorem tendrilref05_Check_run (K : Nat) (x : Tup [⟨true, (.pair (.sl .int) (.pair (.sl .int) (.pair (.sl .int) (.sl .int))))⟩]) : (pxFn Try.prog (lkΓ []) [(26, [1, 4, 5, 6, 32, 33, 83, 84, 85]), (14, [1, 4, 32, 33])] Try.f25 (bodyOf Try.f25) false [⟨false, .int⟩] (encTup [⟨true, (.pair (.sl .int) (.pair (.sl .int) (.pair (.sl .int) (.sl .int))))⟩] x)).run (tendrilref05_Check_Λ K) = tendrilref05_Check_K K x := by kernel_rfl
theorem tendrilref05_Check_ok : SigOk Try.prog 25 tendrilref05_Check_S ∧ Bodied Try.prog 25 :=
  ⟨fn_sound (s := tendrilref05_Check_S) (T := [(26, [1, 4, 5, 6, 32, 33, 83, 84, 85]), (14, [1, 4, 32, 33])]) (Λ := tendrilref05_Check_Λ) 2000000 Try.func25 (c := bodyOf Try.f25) (by kernel_rfl) (by kernel_rfl) lkΓ_nil (by decide +kernel) (by decide +kernel) tendrilref05_Check_Λ0 tendrilref05_Check_cuts (fun x => tendrilref05_Check_run 2000000 x), bodied_of Try.func25 (by decide +kernel) (by decide +kernel)⟩

/-! tendril/tendrilref01.Pack -/
def tendrilref01_Pack (x : Int × Int) : Option (Int × Int) :=
  bif Decidable.decide (x.1 < (0 : Int)) then
    some (((0 : Int), (1 : Int)))
  else
    bif Decidable.decide ((1023 : Int) < x.1) then
      some (((0 : Int), (1 : Int)))
    else
      bif Decidable.decide (x.2 < (0 : Int)) then
        some (((0 : Int), (1 : Int)))
      else
        bif Decidable.decide ((1099511627776 : Int) ≤ x.2) then
          some (((0 : Int), (1 : Int)))
        else
          some ((Go.RowKit.wrap64 (Go.RowKit.wrap64 ((1 : Int) + Go.RowKit.wrap64 ((1024 : Int) * x.2)) + x.1), (0 : Int)))
def tendrilref01_Pack_S : Sig := ⟨[⟨false, .int⟩, ⟨false, .int⟩], [⟨false, .int⟩, ⟨false, .int⟩], false, tendrilref01_Pack⟩
set_option maxRecDepth 100000 in
theorem tendrilref01_Pack_run (x : Tup [⟨false, .int⟩, ⟨false, .int⟩]) : (pxFn Try.prog (lkΓ []) [] Try.f29 (bodyOf Try.f29) false [⟨false, .int⟩, ⟨false, .int⟩] (encTup [⟨false, .int⟩, ⟨false, .int⟩] x)).run (fun _ _ _ => none) = tendrilref01_Pack x := by kernel_rfl
theorem tendrilref01_Pack_cuts : ∀ p ∈ cuts Try.prog (lkΓ []) Try.f29.ntmps [] (bodyOf Try.f29) (κ0 Try.prog Try.f29 false [⟨false, .int⟩, ⟨false, .int⟩]), CutOk (fun _ _ _ _ => none) p := cutsNil (by kernel_rfl)
theorem tendrilref01_Pack_ok : SigOk Try.prog 29 tendrilref01_Pack_S ∧ Bodied Try.prog 29 :=
  ⟨fn_sound (s := tendrilref01_Pack_S) (T := []) (Λ := fun _ _ _ _ => none) 0 Try.func29 (c := bodyOf Try.f29) (by kernel_rfl) (by kernel_rfl) lkΓ_nil (by decide +kernel) (by decide +kernel) (fun _ _ _ => rfl) tendrilref01_Pack_cuts (fun x => tendrilref01_Pack_run  x), bodied_of Try.func29 (by decide +kernel) (by decide +kernel)⟩

/-! tendril/tendrilref05.Take -/
def tendrilref05_Take (x : List Int × List Int × List Int × List Int) : Option ((List Int × List Int × List Int × List Int) × Int × Int) :=
  (tendrilref05_Check ((x.1, x.snd.1, x.snd.snd.1, x.snd.snd.2))).bind fun r0 =>
  bif r0 != (0 : Int) then
    some ((([], [], [], []), (0 : Int), r0))
  else
    bif (↑(List.length x.snd.snd.2) : Int) == (0 : Int) then
      some ((([], [], [], []), (0 : Int), (3 : Int)))
    else
      (tendrilref05_Copy ((x.1, x.snd.1, x.snd.snd.1, x.snd.snd.2))).bind fun r1 =>
      bif Decidable.decide ((0 : Int) < (↑(List.length r1.snd.snd.2) : Int)) then
        bif Decidable.decide ((1 : Int) ≤ (↑(List.length r1.snd.snd.2) : Int)) then
          bif Decidable.decide ((0 : Int) ≤ List.getD r1.snd.snd.2 (Int.toNat (0 : Int)) (0 : Int)) then
            bif Decidable.decide (List.getD r1.snd.snd.2 (Int.toNat (0 : Int)) (0 : Int) < (↑(List.length r1.snd.1) : Int)) then
              bif Decidable.decide ((0 : Int) ≤ List.getD r1.snd.snd.2 (Int.toNat (0 : Int)) (0 : Int)) then
                bif Decidable.decide (List.getD r1.snd.snd.2 (Int.toNat (0 : Int)) (0 : Int) < (↑(List.length x.1) : Int)) then
                  (tendrilref01_Pack ((List.getD r1.snd.snd.2 (Int.toNat (0 : Int)) (0 : Int), List.getD x.1 (List.getD r1.snd.snd.2 (Int.toNat (0 : Int)) (0 : Int)).toNat (0 : Int)))).bind fun r2 =>
                  some (((r1.1, List.set r1.snd.1 (List.getD r1.snd.snd.2 (Int.toNat (0 : Int)) (0 : Int)).toNat (1 : Int), r1.snd.snd.1, List.drop (Int.toNat (1 : Int)) (List.take (List.length r1.snd.snd.2) r1.snd.snd.2)), r2.1, (0 : Int)))
                else
                  none
              else
                none
            else
              none
          else
            none
        else
          none
      else
        none
def tendrilref05_Take_S : Sig := ⟨[⟨true, (.pair (.sl .int) (.pair (.sl .int) (.pair (.sl .int) (.sl .int))))⟩], [⟨true, (.pair (.sl .int) (.pair (.sl .int) (.pair (.sl .int) (.sl .int))))⟩, ⟨false, .int⟩, ⟨false, .int⟩], true, tendrilref05_Take⟩
set_option maxRecDepth 100000 in
theorem tendrilref05_Take_run (x : Tup [⟨true, (.pair (.sl .int) (.pair (.sl .int) (.pair (.sl .int) (.sl .int))))⟩]) : (pxFn Try.prog (lkΓ [(11, tendrilref05_Copy_S), (25, tendrilref05_Check_S), (29, tendrilref01_Pack_S)]) [] Try.f13 (bodyOf Try.f13) true [⟨true, (.pair (.sl .int) (.pair (.sl .int) (.pair (.sl .int) (.sl .int))))⟩, ⟨false, .int⟩, ⟨false, .int⟩] (encTup [⟨true, (.pair (.sl .int) (.pair (.sl .int) (.pair (.sl .int) (.sl .int))))⟩] x)).run (fun _ _ _ => none) = tendrilref05_Take x := by kernel_rfl
theorem tendrilref05_Take_cuts : ∀ p ∈ cuts Try.prog (lkΓ [(11, tendrilref05_Copy_S), (25, tendrilref05_Check_S), (29, tendrilref01_Pack_S)]) Try.f13.ntmps [] (bodyOf Try.f13) (κ0 Try.prog Try.f13 true [⟨true, (.pair (.sl .int) (.pair (.sl .int) (.pair (.sl .int) (.sl .int))))⟩, ⟨false, .int⟩, ⟨false, .int⟩]), CutOk (fun _ _ _ _ => none) p := cutsNil (by kernel_rfl)
theorem tendrilref05_Take_ok : SigOk Try.prog 13 tendrilref05_Take_S ∧ Bodied Try.prog 13 :=
  ⟨fn_sound (s := tendrilref05_Take_S) (T := []) (Λ := fun _ _ _ _ => none) 0 Try.func13 (c := bodyOf Try.f13) (by kernel_rfl) (by kernel_rfl) (lkΓ_cons (g := 11) (s0 := tendrilref05_Copy_S) tendrilref05_Copy_ok (lkΓ_cons (g := 25) (s0 := tendrilref05_Check_S) tendrilref05_Check_ok (lkΓ_cons (g := 29) (s0 := tendrilref01_Pack_S) tendrilref01_Pack_ok lkΓ_nil))) (by decide +kernel) (by decide +kernel) (fun _ _ _ => rfl) tendrilref05_Take_cuts (fun x => tendrilref05_Take_run  x), bodied_of Try.func13 (by decide +kernel) (by decide +kernel)⟩

/-! tendril/tendrilref01.Unpack -/
def tendrilref01_Unpack (x : Int) : Option (Int × Int × Int) :=
  bif Decidable.decide (x < (1 : Int)) then
    some (((0 : Int), (0 : Int), (1 : Int)))
  else
    bif Decidable.decide ((1125899906842624 : Int) < x) then
      some (((0 : Int), (0 : Int), (1 : Int)))
    else
      some (((Go.RowKit.wrap64 (x - (1 : Int))).tmod (1024 : Int), Go.RowKit.wrap64 ((Go.RowKit.wrap64 (x - (1 : Int))).tdiv (1024 : Int)), (0 : Int)))
def tendrilref01_Unpack_S : Sig := ⟨[⟨false, .int⟩], [⟨false, .int⟩, ⟨false, .int⟩, ⟨false, .int⟩], false, tendrilref01_Unpack⟩
set_option maxRecDepth 100000 in
theorem tendrilref01_Unpack_run (x : Tup [⟨false, .int⟩]) : (pxFn Try.prog (lkΓ []) [] Try.f30 (bodyOf Try.f30) false [⟨false, .int⟩, ⟨false, .int⟩, ⟨false, .int⟩] (encTup [⟨false, .int⟩] x)).run (fun _ _ _ => none) = tendrilref01_Unpack x := by kernel_rfl
theorem tendrilref01_Unpack_cuts : ∀ p ∈ cuts Try.prog (lkΓ []) Try.f30.ntmps [] (bodyOf Try.f30) (κ0 Try.prog Try.f30 false [⟨false, .int⟩, ⟨false, .int⟩, ⟨false, .int⟩]), CutOk (fun _ _ _ _ => none) p := cutsNil (by kernel_rfl)
theorem tendrilref01_Unpack_ok : SigOk Try.prog 30 tendrilref01_Unpack_S ∧ Bodied Try.prog 30 :=
  ⟨fn_sound (s := tendrilref01_Unpack_S) (T := []) (Λ := fun _ _ _ _ => none) 0 Try.func30 (c := bodyOf Try.f30) (by kernel_rfl) (by kernel_rfl) lkΓ_nil (by decide +kernel) (by decide +kernel) (fun _ _ _ => rfl) tendrilref01_Unpack_cuts (fun x => tendrilref01_Unpack_run  x), bodied_of Try.func30 (by decide +kernel) (by decide +kernel)⟩

/-! tendril/tendrilref05.Retire -/
def tendrilref05_Retire (x : (List Int × List Int × List Int × List Int) × Int × Int) : Option ((List Int × List Int × List Int × List Int) × Int) :=
  (tendrilref05_Check ((x.fst.1, x.fst.snd.1, x.fst.snd.snd.1, x.fst.snd.snd.2))).bind fun r0 =>
  bif r0 != (0 : Int) then
    some ((([], [], [], []), r0))
  else
    (tendrilref01_Unpack (x.snd.1)).bind fun r1 =>
    bif r1.snd.2 != (0 : Int) then
      some ((([], [], [], []), (1 : Int)))
    else
      bif Decidable.decide ((↑(List.length x.fst.1) : Int) ≤ r1.1) then
        some ((([], [], [], []), (1 : Int)))
      else
        bif Decidable.decide ((0 : Int) ≤ r1.1) then
          bif Decidable.decide (r1.1 < (↑(List.length x.fst.snd.1) : Int)) then
            bif List.getD x.fst.snd.1 (Int.toNat r1.1) (0 : Int) != (1 : Int) then
              some ((([], [], [], []), (2 : Int)))
            else
              bif Decidable.decide ((0 : Int) ≤ r1.1) then
                bif Decidable.decide (r1.1 < (↑(List.length x.fst.1) : Int)) then
                  bif List.getD x.fst.1 (Int.toNat r1.1) (0 : Int) != r1.snd.1 then
                    some ((([], [], [], []), (2 : Int)))
                  else
                    (tendrilref05_Copy ((x.fst.1, x.fst.snd.1, x.fst.snd.snd.1, x.fst.snd.snd.2))).bind fun r2 =>
                    bif Decidable.decide ((0 : Int) ≤ r1.1) then
                      bif Decidable.decide (r1.1 < (↑(List.length r2.snd.1) : Int)) then
                        bif Decidable.decide ((0 : Int) ≤ r1.1) then
                          bif Decidable.decide (r1.1 < (↑(List.length r2.snd.snd.1) : Int)) then
                            some (((r2.1, List.set r2.snd.1 (Int.toNat r1.1) (2 : Int), List.set r2.snd.snd.1 (Int.toNat r1.1) x.snd.2, r2.snd.snd.2), (0 : Int)))
                          else
                            none
                        else
                          none
                      else
                        none
                    else
                      none
                else
                  none
              else
                none
          else
            none
        else
          none
def tendrilref05_Retire_S : Sig := ⟨[⟨true, (.pair (.sl .int) (.pair (.sl .int) (.pair (.sl .int) (.sl .int))))⟩, ⟨false, .int⟩, ⟨false, .int⟩], [⟨true, (.pair (.sl .int) (.pair (.sl .int) (.pair (.sl .int) (.sl .int))))⟩, ⟨false, .int⟩], true, tendrilref05_Retire⟩
set_option maxRecDepth 100000 in
theorem tendrilref05_Retire_run (x : Tup [⟨true, (.pair (.sl .int) (.pair (.sl .int) (.pair (.sl .int) (.sl .int))))⟩, ⟨false, .int⟩, ⟨false, .int⟩]) : (pxFn Try.prog (lkΓ [(11, tendrilref05_Copy_S), (25, tendrilref05_Check_S), (30, tendrilref01_Unpack_S)]) [] Try.f15 (bodyOf Try.f15) true [⟨true, (.pair (.sl .int) (.pair (.sl .int) (.pair (.sl .int) (.sl .int))))⟩, ⟨false, .int⟩] (encTup [⟨true, (.pair (.sl .int) (.pair (.sl .int) (.pair (.sl .int) (.sl .int))))⟩, ⟨false, .int⟩, ⟨false, .int⟩] x)).run (fun _ _ _ => none) = tendrilref05_Retire x := by kernel_rfl
theorem tendrilref05_Retire_cuts : ∀ p ∈ cuts Try.prog (lkΓ [(11, tendrilref05_Copy_S), (25, tendrilref05_Check_S), (30, tendrilref01_Unpack_S)]) Try.f15.ntmps [] (bodyOf Try.f15) (κ0 Try.prog Try.f15 true [⟨true, (.pair (.sl .int) (.pair (.sl .int) (.pair (.sl .int) (.sl .int))))⟩, ⟨false, .int⟩]), CutOk (fun _ _ _ _ => none) p := cutsNil (by kernel_rfl)
theorem tendrilref05_Retire_ok : SigOk Try.prog 15 tendrilref05_Retire_S ∧ Bodied Try.prog 15 :=
  ⟨fn_sound (s := tendrilref05_Retire_S) (T := []) (Λ := fun _ _ _ _ => none) 0 Try.func15 (c := bodyOf Try.f15) (by kernel_rfl) (by kernel_rfl) (lkΓ_cons (g := 11) (s0 := tendrilref05_Copy_S) tendrilref05_Copy_ok (lkΓ_cons (g := 25) (s0 := tendrilref05_Check_S) tendrilref05_Check_ok (lkΓ_cons (g := 30) (s0 := tendrilref01_Unpack_S) tendrilref01_Unpack_ok lkΓ_nil))) (by decide +kernel) (by decide +kernel) (fun _ _ _ => rfl) tendrilref05_Retire_cuts (fun x => tendrilref05_Retire_run  x), bodied_of Try.func15 (by decide +kernel) (by decide +kernel)⟩

/-! tendril/tendrilref05.Reclaim -/
def tendrilref05_Reclaim_L14 : Nat → (Int) → (Int) → (Int) → (Int) → (List Int) → (List Int) → (List Int) → (List Int) → (List Int) → (List Int) → (List Int) → (List Int) → Option ((List Int × List Int × List Int × List Int) × Int)
  | 0, _, _, _, _, _, _, _, _, _, _, _, _ => none
  | k + 1, p0, p1, p2, p3, p4, p5, p6, p7, p8, p9, p10, p11 =>
    bif Decidable.decide (p3 < p2) then
      bif Decidable.decide ((0 : Int) ≤ p3) then
        bif Decidable.decide (p3 < (↑p5.length : Int)) then
          bif p5.getD p3.toNat (0 : Int) == (2 : Int) then
            bif Decidable.decide ((0 : Int) ≤ p3) then
              bif Decidable.decide (p3 < (↑p6.length : Int)) then
                bif Decidable.decide (p6.getD p3.toNat (0 : Int) ≤ p0) then
                  bif Decidable.decide ((0 : Int) ≤ p3) then
                    bif Decidable.decide (p3 < (↑p4.length : Int)) then
                      bif Decidable.decide (p4.getD p3.toNat (0 : Int) < (1099511627775 : Int)) then
                        bif Decidable.decide ((0 : Int) ≤ p3) then
                          bif Decidable.decide (p3 < (↑p9.length : Int)) then
                            bif Decidable.decide ((0 : Int) ≤ p3) then
                              bif Decidable.decide (p3 < (↑p10.length : Int)) then
                                bif Decidable.decide ((0 : Int) ≤ p3) then
                                  bif Decidable.decide (p3 < (↑p8.length : Int)) then
                                    bif Decidable.decide ((0 : Int) ≤ p3) then
                                      bif Decidable.decide (p3 < (↑p8.length : Int)) then
                                        bif Decidable.decide (p11.length + [p3].length ≤ (1000000 : Nat)) then
                                          tendrilref05_Reclaim_L14 k (p0) (Go.RowKit.wrap64 (p1 + (1 : Int))) (p2) (Go.RowKit.wrap64 (p3 + (1 : Int))) (p4) (p5) (p6) (p7) (p8.set p3.toNat (Go.RowKit.wrap64 (p8.getD p3.toNat (0 : Int) + (1 : Int)))) (p9.set p3.toNat (0 : Int)) (p10.set p3.toNat (0 : Int)) (p11 ++ [p3])
                                        else
                                          none
                                      else
                                        none
                                    else
                                      none
                                  else
                                    none
                                else
                                  none
                              else
                                none
                            else
                              none
                          else
                            none
                        else
                          none
                      else
                        tendrilref05_Reclaim_L14 k (p0) (p1) (p2) (Go.RowKit.wrap64 (p3 + (1 : Int))) (p4) (p5) (p6) (p7) (p8) (p9) (p10) (p11)
                    else
                      none
                  else
                    none
                else
                  tendrilref05_Reclaim_L14 k (p0) (p1) (p2) (Go.RowKit.wrap64 (p3 + (1 : Int))) (p4) (p5) (p6) (p7) (p8) (p9) (p10) (p11)
              else
                none
            else
              none
          else
            tendrilref05_Reclaim_L14 k (p0) (p1) (p2) (Go.RowKit.wrap64 (p3 + (1 : Int))) (p4) (p5) (p6) (p7) (p8) (p9) (p10) (p11)
        else
          none
      else
        none
    else
      some (((p8, p9, p10, p11), p1))
def tendrilref05_Reclaim_P14v0 (k : Nat) (vs : List SV) (bs : List Blk) : Option (Option ((List Int × List Int × List Int × List Int) × Int)) := match vs, bs with
  | [.val (.one (.int .i64 p0)), .val (.one (.ptr 0 0)), .val (.one (.ptr 1 0)), .val (.one (.ptr 2 0)), .val (.one (.int .i64 p1)), .val (.one (.int .i64 p2)), .val (.one (.int .i64 p3))], [.box [(.sl .int p4), (.sl .int p5), (.sl .int p6), (.sl .int p7)], .box [.nil, .nil, .nil, .nil], .box [(.row 3), (.row 4), (.row 5), (.row 6)], .row .int p8, .row .int p9, .row .int p10, .row .int p11] => some (tendrilref05_Reclaim_L14 k p0 p1 p2 p3 p4 p5 p6 p7 p8 p9 p10 p11)
  | _, _ => none
def tendrilref05_Reclaim_P14 (k : Nat) (vs : List SV) (bs : List Blk) : Option ((List Int × List Int × List Int × List Int) × Int) := match tendrilref05_Reclaim_P14v0 k vs bs with | some r => r | none => none
def tendrilref05_Reclaim_Λ (k L : Nat) (vs : List SV) (bs : List Blk) : Option ((List Int × List Int × List Int × List Int) × Int) := match Nat.beq L 14 with | true => tendrilref05_Reclaim_P14 k vs bs | false => none
def tendrilref05_Reclaim_K (K : Nat) (x : (List Int × List Int × List Int × List Int) × Int) : Option ((List Int × List Int × List Int × List Int) × Int) :=
  (tendrilref05_Check ((x.fst.1, x.fst.snd.1, x.fst.snd.snd.1, x.fst.snd.snd.2))).bind fun r0 =>
  bif r0 != (0 : Int) then
    some ((([], [], [], []), (0 : Int)))
  else
    (tendrilref05_Copy ((x.fst.1, x.fst.snd.1, x.fst.snd.snd.1, x.fst.snd.snd.2))).bind fun r1 =>
    tendrilref05_Reclaim_L14 K (x.2) ((0 : Int)) ((↑(List.length x.fst.1) : Int)) ((0 : Int)) (x.fst.1) (x.fst.snd.1) (x.fst.snd.snd.1) (x.fst.snd.snd.2) (r1.1) (r1.snd.1) (r1.snd.snd.1) (r1.snd.snd.2)
def tendrilref05_Reclaim (x : ((List Int) × ((List Int) × ((List Int) × (List Int)))) × Int) : Option (((List Int) × ((List Int) × ((List Int) × (List Int)))) × Int) := tendrilref05_Reclaim_K 2000000 x
def tendrilref05_Reclaim_S : Sig := ⟨[⟨true, (.pair (.sl .int) (.pair (.sl .int) (.pair (.sl .int) (.sl .int))))⟩, ⟨false, .int⟩], [⟨true, (.pair (.sl .int) (.pair (.sl .int) (.pair (.sl .int) (.sl .int))))⟩, ⟨false, .int⟩], true, tendrilref05_Reclaim⟩
noncomputable def tendrilref05_Reclaim_C : List (Cut (Tup [⟨true, (.pair (.sl .int) (.pair (.sl .int) (.pair (.sl .int) (.sl .int))))⟩, ⟨false, .int⟩])) := cuts Try.prog (lkΓ [(11, tendrilref05_Copy_S), (25, tendrilref05_Check_S)]) Try.f17.ntmps [(14, [1, 2, 4, 6, 7, 17, 18])] (bodyOf Try.f17) (κ0 Try.prog Try.f17 true [⟨true, (.pair (.sl .int) (.pair (.sl .int) (.pair (.sl .int) (.sl .int))))⟩, ⟨false, .int⟩])
set_option maxRecDepth 100000 in
theorem tendrilref05_Reclaim_c14 (k : Nat) (p0 : Int) (p1 : Int) (p2 : Int) (p3 : Int) (p4 : List Int) (p5 : List Int) (p6 : List Int) (p7 : List Int) (p8 : List Int) (p9 : List Int) (p10 : List Int) (p11 : List Int) : ((nthC tendrilref05_Reclaim_C 0).g (mkSt [1, 2, 4, 6, 7, 17, 18] [.val (.one (.int .i64 p0)), .val (.one (.ptr 0 0)), .val (.one (.ptr 1 0)), .val (.one (.ptr 2 0)), .val (.one (.int .i64 p1)), .val (.one (.int .i64 p2)), .val (.one (.int .i64 p3))] [.box [(.sl .int p4), (.sl .int p5), (.sl .int p6), (.sl .int p7)], .box [.nil, .nil, .nil, .nil], .box [(.row 3), (.row 4), (.row 5), (.row 6)], .row .int p8, .row .int p9, .row .int p10, .row .int p11])).run (tendrilref05_Reclaim_Λ k) = tendrilref05_Reclaim_L14 (k + 1) p0 p1 p2 p3 p4 p5 p6 p7 p8 p9 p10 p11 := by kernel_rfl
theorem tendrilref05_Reclaim_e14 (k : Nat) (vs : List SV) (bs : List Blk) (r : ((List Int) × ((List Int) × ((List Int) × (List Int)))) × Int) (h : tendrilref05_Reclaim_P14v0 (k + 1) vs bs = some (some r)) : ((nthC tendrilref05_Reclaim_C 0).g (mkSt [1, 2, 4, 6, 7, 17, 18] vs bs)).run (tendrilref05_Reclaim_Λ k) = some r := by
  unfold tendrilref05_Reclaim_P14v0 at h
  split at h
  · exact (tendrilref05_Reclaim_c14 k _ _ _ _ _ _ _ _ _ _ _ _).trans (Option.some.inj h)
  · cases h
theorem tendrilref05_Reclaim_d14 : CutOk tendrilref05_Reclaim_Λ (nthC tendrilref05_Reclaim_C 0) := by
  refine cutOk_of (L := 14) (live := [1, 2, 4, 6, 7, 17, 18]) (by kernel_rfl) (by kernel_rfl) fun k vs bs r h => ?_
  change tendrilref05_Reclaim_P14 (k + 1) vs bs = some r at h
  unfold tendrilref05_Reclaim_P14 at h
  split at h
  · rename_i q hq
    exact tendrilref05_Reclaim_e14 k vs bs r (hq.trans (congrArg some h))
  cases h
theorem tendrilref05_Reclaim_cuts : ∀ p ∈ cuts Try.prog (lkΓ [(11, tendrilref05_Copy_S), (25, tendrilref05_Check_S)]) Try.f17.ntmps [(14, [1, 2, 4, 6, 7, 17, 18])] (bodyOf Try.f17) (κ0 Try.prog Try.f17 true [⟨true, (.pair (.sl .int) (.pair (.sl .int) (.pair (.sl .int) (.sl .int))))⟩, ⟨false, .int⟩]), CutOk tendrilref05_Reclaim_Λ p := cutsOk (l := tendrilref05_Reclaim_C) (n := 1) (by kernel_rfl) fun
  | 0, _ => tendrilref05_Reclaim_d14
  | k + 1, h => absurd h (by omega)
theorem tendrilref05_Reclaim_z14 (vs : List SV) (bs : List Blk) (q : Option (((List Int) × ((List Int) × ((List Int) × (List Int)))) × Int)) (h : tendrilref05_Reclaim_P14v0 0 vs bs = some q) : q = none := by
  unfold tendrilref05_Reclaim_P14v0 at h; split at h
  · have h := Option.some.inj h; rw [← h]; first | rfl | (unfold tendrilref05_Reclaim_L14; rfl)
  · cases h
theorem tendrilref05_Reclaim_Λ0 (L : Nat) (vs : List SV) (bs : List Blk) : tendrilref05_Reclaim_Λ 0 L vs bs = none := by
  unfold tendrilref05_Reclaim_Λ
  split
  · unfold tendrilref05_Reclaim_P14
    split
    · rename_i q hq; exact tendrilref05_Reclaim_z14 _ _ q hq
    rfl
  rfl
set_option maxRecDepth 100000 in
theorem tendrilref05_Reclaim_run (K : Nat) (x : Tup [⟨true, (.pair (.sl .int) (.pair (.sl .int) (.pair (.sl .int) (.sl .int))))⟩, ⟨false, .int⟩]) : (pxFn Try.prog (lkΓ [(11, tendrilref05_Copy_S), (25, tendrilref05_Check_S)]) [(14, [1, 2, 4, 6, 7, 17, 18])] Try.f17 (bodyOf Try.f17) true [⟨true, (.pair (.sl .int) (.pair (.sl .int) (.pair (.sl .int) (.sl .int))))⟩, ⟨false, .int⟩] (encTup [⟨true, (.pair (.sl .int) (.pair (.sl .int) (.pair (.sl .int) (.sl .int))))⟩, ⟨false, .int⟩] x)).run (tendrilref05_Reclaim_Λ K) = tendrilref05_Reclaim_K K x := by kernel_rfl
theorem tendrilref05_Reclaim_ok : SigOk Try.prog 17 tendrilref05_Reclaim_S ∧ Bodied Try.prog 17 :=
  ⟨fn_sound (s := tendrilref05_Reclaim_S) (T := [(14, [1, 2, 4, 6, 7, 17, 18])]) (Λ := tendrilref05_Reclaim_Λ) 2000000 Try.func17 (c := bodyOf Try.f17) (by kernel_rfl) (by kernel_rfl) (lkΓ_cons (g := 11) (s0 := tendrilref05_Copy_S) tendrilref05_Copy_ok (lkΓ_cons (g := 25) (s0 := tendrilref05_Check_S) tendrilref05_Check_ok lkΓ_nil)) (by decide +kernel) (by decide +kernel) tendrilref05_Reclaim_Λ0 tendrilref05_Reclaim_cuts (fun x => tendrilref05_Reclaim_run 2000000 x), bodied_of Try.func17 (by decide +kernel) (by decide +kernel)⟩

/-! tendril/tendrilref02.Same -/
def tendrilref02_Same_L10 : Nat → (List Int) → (List Int) → (Int) → (Int) → Option (Bool)
  | 0, _, _, _, _ => none
  | k + 1, p0, p1, p2, p3 =>
    bif Decidable.decide (p3 < p2) then
      bif Decidable.decide ((0 : Int) ≤ p3) then
        bif Decidable.decide (p3 < (↑p0.length : Int)) then
          bif Decidable.decide ((0 : Int) ≤ p3) then
            bif Decidable.decide (p3 < (↑p1.length : Int)) then
              bif p0.getD p3.toNat (0 : Int) != p1.getD p3.toNat (0 : Int) then
                some (Bool.false)
              else
                tendrilref02_Same_L10 k (p0) (p1) (p2) (Go.RowKit.wrap64 (p3 + (1 : Int)))
            else
              none
          else
            none
        else
          none
      else
        none
    else
      some (Bool.true)
def tendrilref02_Same_P10v0 (k : Nat) (vs : List SV) (bs : List Blk) : Option (Option (Bool)) := match vs, bs with
  | [.val (.one (.sl .int p0)), .val (.one (.sl .int p1)), .val (.one (.int .i64 p2)), .val (.one (.int .i64 p3))], [] => some (tendrilref02_Same_L10 k p0 p1 p2 p3)
  | _, _ => none
def tendrilref02_Same_P10 (k : Nat) (vs : List SV) (bs : List Blk) : Option (Bool) := match tendrilref02_Same_P10v0 k vs bs with | some r => r | none => none
def tendrilref02_Same_Λ (k L : Nat) (vs : List SV) (bs : List Blk) : Option (Bool) := match Nat.beq L 10 with | true => tendrilref02_Same_P10 k vs bs | false => none
def tendrilref02_Same_K (K : Nat) (x : List Int × List Int) : Option (Bool) :=
  bif (↑(List.length x.1) : Int) != (↑(List.length x.2) : Int) then
    some (Bool.false)
  else
    tendrilref02_Same_L10 K (x.1) (x.2) ((↑(List.length x.1) : Int)) ((0 : Int))
def tendrilref02_Same (x : (List Int) × (List Int)) : Option (Bool) := tendrilref02_Same_K 2000000 x
def tendrilref02_Same_S : Sig := ⟨[⟨false, (.sl .int)⟩, ⟨false, (.sl .int)⟩], [⟨false, .bool⟩], false, tendrilref02_Same⟩
noncomputable def tendrilref02_Same_C : List (Cut (Tup [⟨false, .bool⟩])) := cuts Try.prog (lkΓ []) Try.f31.ntmps [(10, [0, 1, 12, 13])] (bodyOf Try.f31) (κ0 Try.prog Try.f31 false [⟨false, .bool⟩])
set_option maxRecDepth 100000 in
theorem tendrilref02_Same_c10 (k : Nat) (p0 : List Int) (p1 : List Int) (p2 : Int) (p3 : Int) : ((nthC tendrilref02_Same_C 0).g (mkSt [0, 1, 12, 13] [.val (.one (.sl .int p0)), .val (.one (.sl .int p1)), .val (.one (.int .i64 p2)), .val (.one (.int .i64 p3))] [])).run (tendrilref02_Same_Λ k) = tendrilref02_Same_L10 (k + 1) p0 p1 p2 p3 := by kernel_rfl
theorem tendrilref02_Same_e10 (k : Nat) (vs : List SV) (bs : List Blk) (r : Bool) (h : tendrilref02_Same_P10v0 (k + 1) vs bs = some (some r)) : ((nthC tendrilref02_Same_C 0).g (mkSt [0, 1, 12, 13] vs bs)).run (tendrilref02_Same_Λ k) = some r := by
  unfold tendrilref02_Same_P10v0 at h
  split at h
  · exact (tendrilref02_Same_c10 k _ _ _ _).trans (Option.some.inj h)
  · cases h
theorem tendrilref02_Same_d10 : CutOk tendrilref02_Same_Λ (nthC tendrilref02_Same_C 0) := by
  refine cutOk_of (L := 10) (live := [0, 1, 12, 13]) (by kernel_rfl) (by kernel_rfl) fun k vs bs r h => ?_
  change tendrilref02_Same_P10 (k + 1) vs bs = some r at h
  unfold tendrilref02_Same_P10 at h
  split at h
  · rename_i q hq
    exact tendrilref02_Same_e10 k vs bs r (hq.trans (congrArg some h))
  cases h
theorem tendrilref02_Same_cuts : ∀ p ∈ cuts Try.prog (lkΓ []) Try.f31.ntmps [(10, [0, 1, 12, 13])] (bodyOf Try.f31) (κ0 Try.prog Try.f31 false [⟨false, .bool⟩]), CutOk tendrilref02_Same_Λ p := cutsOk (l := tendrilref02_Same_C) (n := 1) (by kernel_rfl) fun
  | 0, _ => tendrilref02_Same_d10
  | k + 1, h => absurd h (by omega)
theorem tendrilref02_Same_z10 (vs : List SV) (bs : List Blk) (q : Option (Bool)) (h : tendrilref02_Same_P10v0 0 vs bs = some q) : q = none := by
  unfold tendrilref02_Same_P10v0 at h; split at h
  · have h := Option.some.inj h; rw [← h]; first | rfl | (unfold tendrilref02_Same_L10; rfl)
  · cases h
theorem tendrilref02_Same_Λ0 (L : Nat) (vs : List SV) (bs : List Blk) : tendrilref02_Same_Λ 0 L vs bs = none := by
  unfold tendrilref02_Same_Λ
  split
  · unfold tendrilref02_Same_P10
    split
    · rename_i q hq; exact tendrilref02_Same_z10 _ _ q hq
    rfl
  rfl
set_option maxRecDepth 100000 in
theorem tendrilref02_Same_run (K : Nat) (x : Tup [⟨false, (.sl .int)⟩, ⟨false, (.sl .int)⟩]) : (pxFn Try.prog (lkΓ []) [(10, [0, 1, 12, 13])] Try.f31 (bodyOf Try.f31) false [⟨false, .bool⟩] (encTup [⟨false, (.sl .int)⟩, ⟨false, (.sl .int)⟩] x)).run (tendrilref02_Same_Λ K) = tendrilref02_Same_K K x := by kernel_rfl
theorem tendrilref02_Same_ok : SigOk Try.prog 31 tendrilref02_Same_S ∧ Bodied Try.prog 31 :=
  ⟨fn_sound (s := tendrilref02_Same_S) (T := [(10, [0, 1, 12, 13])]) (Λ := tendrilref02_Same_Λ) 2000000 Try.func31 (c := bodyOf Try.f31) (by kernel_rfl) (by kernel_rfl) lkΓ_nil (by decide +kernel) (by decide +kernel) tendrilref02_Same_Λ0 tendrilref02_Same_cuts (fun x => tendrilref02_Same_run 2000000 x), bodied_of Try.func31 (by decide +kernel) (by decide +kernel)⟩

/-! tendril/tendrilref05.Same -/
def tendrilref05_Same (x : (List Int × List Int × List Int × List Int) × List Int × List Int × List Int × List Int) : Option (Bool) :=
  (tendrilref02_Same ((x.fst.1, x.snd.1))).bind fun r0 =>
  bif r0 then
    (tendrilref02_Same ((x.fst.snd.1, x.snd.snd.1))).bind fun r1 =>
    bif r1 then
      (tendrilref02_Same ((x.fst.snd.snd.1, x.snd.snd.snd.1))).bind fun r2 =>
      bif r2 then
        (tendrilref02_Same ((x.fst.snd.snd.2, x.snd.snd.snd.2))).bind fun r3 =>
        some (r3)
      else
        some (Bool.false)
    else
      some (Bool.false)
  else
    some (Bool.false)
def tendrilref05_Same_S : Sig := ⟨[⟨true, (.pair (.sl .int) (.pair (.sl .int) (.pair (.sl .int) (.sl .int))))⟩, ⟨true, (.pair (.sl .int) (.pair (.sl .int) (.pair (.sl .int) (.sl .int))))⟩], [⟨false, .bool⟩], false, tendrilref05_Same⟩
set_option maxRecDepth 100000 in
theorem tendrilref05_Same_run (x : Tup [⟨true, (.pair (.sl .int) (.pair (.sl .int) (.pair (.sl .int) (.sl .int))))⟩, ⟨true, (.pair (.sl .int) (.pair (.sl .int) (.pair (.sl .int) (.sl .int))))⟩]) : (pxFn Try.prog (lkΓ [(31, tendrilref02_Same_S)]) [] Try.f18 (bodyOf Try.f18) false [⟨false, .bool⟩] (encTup [⟨true, (.pair (.sl .int) (.pair (.sl .int) (.pair (.sl .int) (.sl .int))))⟩, ⟨true, (.pair (.sl .int) (.pair (.sl .int) (.pair (.sl .int) (.sl .int))))⟩] x)).run (fun _ _ _ => none) = tendrilref05_Same x := by kernel_rfl
theorem tendrilref05_Same_cuts : ∀ p ∈ cuts Try.prog (lkΓ [(31, tendrilref02_Same_S)]) Try.f18.ntmps [] (bodyOf Try.f18) (κ0 Try.prog Try.f18 false [⟨false, .bool⟩]), CutOk (fun _ _ _ _ => none) p := cutsNil (by kernel_rfl)
theorem tendrilref05_Same_ok : SigOk Try.prog 18 tendrilref05_Same_S ∧ Bodied Try.prog 18 :=
  ⟨fn_sound (s := tendrilref05_Same_S) (T := []) (Λ := fun _ _ _ _ => none) 0 Try.func18 (c := bodyOf Try.f18) (by kernel_rfl) (by kernel_rfl) (lkΓ_cons (g := 31) (s0 := tendrilref02_Same_S) tendrilref02_Same_ok lkΓ_nil) (by decide +kernel) (by decide +kernel) (fun _ _ _ => rfl) tendrilref05_Same_cuts (fun x => tendrilref05_Same_run  x), bodied_of Try.func18 (by decide +kernel) (by decide +kernel)⟩

/-! tendril/tendrillaw05.PoolDoes -/
mutual
def tendrillaw05_PoolDoes_L30 : Nat → (Bool) → (Int) → (Int) → (List Int) → (List Int) → (List Int) → (List Int) → (List Int) → (List Int) → (List Int) → (List Int) → (List Int) → (List Int) → (List Int) → (List Int) → (List Int) → (List Int) → (List Int) → (List Int) → (List Int) → (List Int) → (List Int) → (List Int) → Option (Bool)
  | 0, _, _, _, _, _, _, _, _, _, _, _, _, _, _, _, _, _, _, _, _, _, _, _ => none
  | k + 1, p0, p1, p2, p3, p4, p5, p6, p7, p8, p9, p10, p11, p12, p13, p14, p15, p16, p17, p18, p19, p20, p21, p22 =>
    bif Decidable.decide (p2 < p1) then
      bif Decidable.decide (p2 = (↑(nat_lit 2) : Int)) then
        tendrillaw05_PoolDoes_L36 k (p0) (p1) (p2) ((↑p20.length : Int)) ((0 : Int)) (p3) (p4) (p5) (p6) (p7) (p8) (p9) (p10) (p19) (p20) (p21) (p22) (p11) (p12) (p13) (p14) (p15) (p16) (p17) (p18)
      else
        bif Decidable.decide (p2 = (↑(nat_lit 1) : Int)) then
          tendrillaw05_PoolDoes_L36x1 k (p0) (p1) (p2) ((↑p16.length : Int)) ((0 : Int)) (p3) (p4) (p5) (p6) (p7) (p8) (p9) (p10) (p15) (p16) (p17) (p18) (p11) (p12) (p13) (p14) (p19) (p20) (p21) (p22)
        else
          bif Decidable.decide (p2 = (↑(nat_lit 0) : Int)) then
            tendrillaw05_PoolDoes_L36x2 k (p0) (p1) (p2) ((↑p12.length : Int)) ((0 : Int)) (p3) (p4) (p5) (p6) (p7) (p8) (p9) (p10) (p11) (p12) (p13) (p14) (p15) (p16) (p17) (p18) (p19) (p20) (p21) (p22)
          else
            none
    else
      bif p0 then
        (tendrilref05_Same (((p3, p4, p5, p6), p7, p8, p9, p10))).bind fun r12 =>
        some (r12)
      else
        some (Bool.false)
def tendrillaw05_PoolDoes_L36 : Nat → (Bool) → (Int) → (Int) → (Int) → (Int) → (List Int) → (List Int) → (List Int) → (List Int) → (List Int) → (List Int) → (List Int) → (List Int) → (List Int) → (List Int) → (List Int) → (List Int) → (List Int) → (List Int) → (List Int) → (List Int) → (List Int) → (List Int) → (List Int) → (List Int) → Option (Bool)
  | 0, _, _, _, _, _, _, _, _, _, _, _, _, _, _, _, _, _, _, _, _, _, _, _, _, _ => none
  | k + 1, p0, p1, p2, p3, p4, p5, p6, p7, p8, p9, p10, p11, p12, p13, p14, p15, p16, p17, p18, p19, p20, p21, p22, p23, p24 =>
    bif Decidable.decide (p4 < p3) then
      bif Decidable.decide ((0 : Int) ≤ p4) then
        bif Decidable.decide (p4 < (↑p14.length : Int)) then
          bif Decidable.decide ((0 : Int) ≤ p4) then
            bif Decidable.decide (p4 < (↑p14.length : Int)) then
              tendrillaw05_PoolDoes_L36 k (p0) (p1) (p2) (p3) (Go.RowKit.wrap64 (p4 + (1 : Int))) (p5) (p6) (p7) (p8) (p9) (p10) (p11) (p12) (p13) (p14.set p4.toNat (Go.RowKit.wrap64 (p14.getD p4.toNat (0 : Int) + (1 : Int)))) (p15) (p16) (p17) (p18) (p19) (p20) (p21) (p22) (p23) (p24)
            else
              none
          else
            none
        else
          none
      else
        none
    else
      tendrillaw05_PoolDoes_L46 k (p0) (p1) (p2) ((↑p16.length : Int)) ((0 : Int)) (p5) (p6) (p7) (p8) (p9) (p10) (p11) (p12) (p13) (p14) (p15) (p16) (p17) (p18) (p19) (p20) (p21) (p22) (p23) (p24)
def tendrillaw05_PoolDoes_L36x1 : Nat → (Bool) → (Int) → (Int) → (Int) → (Int) → (List Int) → (List Int) → (List Int) → (List Int) → (List Int) → (List Int) → (List Int) → (List Int) → (List Int) → (List Int) → (List Int) → (List Int) → (List Int) → (List Int) → (List Int) → (List Int) → (List Int) → (List Int) → (List Int) → (List Int) → Option (Bool)
  | 0, _, _, _, _, _, _, _, _, _, _, _, _, _, _, _, _, _, _, _, _, _, _, _, _, _ => none
  | k + 1, p0, p1, p2, p3, p4, p5, p6, p7, p8, p9, p10, p11, p12, p13, p14, p15, p16, p17, p18, p19, p20, p21, p22, p23, p24 =>
    bif Decidable.decide (p4 < p3) then
      bif Decidable.decide ((0 : Int) ≤ p4) then
        bif Decidable.decide (p4 < (↑p14.length : Int)) then
          bif Decidable.decide ((0 : Int) ≤ p4) then
            bif Decidable.decide (p4 < (↑p14.length : Int)) then
              tendrillaw05_PoolDoes_L36x1 k (p0) (p1) (p2) (p3) (Go.RowKit.wrap64 (p4 + (1 : Int))) (p5) (p6) (p7) (p8) (p9) (p10) (p11) (p12) (p13) (p14.set p4.toNat (Go.RowKit.wrap64 (p14.getD p4.toNat (0 : Int) + (1 : Int)))) (p15) (p16) (p17) (p18) (p19) (p20) (p21) (p22) (p23) (p24)
            else
              none
          else
            none
        else
          none
      else
        none
    else
      tendrillaw05_PoolDoes_L46x1 k (p0) (p1) (p2) ((↑p16.length : Int)) ((0 : Int)) (p5) (p6) (p7) (p8) (p9) (p10) (p11) (p12) (p13) (p14) (p15) (p16) (p17) (p18) (p19) (p20) (p21) (p22) (p23) (p24)
def tendrillaw05_PoolDoes_L36x2 : Nat → (Bool) → (Int) → (Int) → (Int) → (Int) → (List Int) → (List Int) → (List Int) → (List Int) → (List Int) → (List Int) → (List Int) → (List Int) → (List Int) → (List Int) → (List Int) → (List Int) → (List Int) → (List Int) → (List Int) → (List Int) → (List Int) → (List Int) → (List Int) → (List Int) → Option (Bool)
  | 0, _, _, _, _, _, _, _, _, _, _, _, _, _, _, _, _, _, _, _, _, _, _, _, _, _ => none
  | k + 1, p0, p1, p2, p3, p4, p5, p6, p7, p8, p9, p10, p11, p12, p13, p14, p15, p16, p17, p18, p19, p20, p21, p22, p23, p24 =>
    bif Decidable.decide (p4 < p3) then
      bif Decidable.decide ((0 : Int) ≤ p4) then
        bif Decidable.decide (p4 < (↑p14.length : Int)) then
          bif Decidable.decide ((0 : Int) ≤ p4) then
            bif Decidable.decide (p4 < (↑p14.length : Int)) then
              tendrillaw05_PoolDoes_L36x2 k (p0) (p1) (p2) (p3) (Go.RowKit.wrap64 (p4 + (1 : Int))) (p5) (p6) (p7) (p8) (p9) (p10) (p11) (p12) (p13) (p14.set p4.toNat (Go.RowKit.wrap64 (p14.getD p4.toNat (0 : Int) + (1 : Int)))) (p15) (p16) (p17) (p18) (p19) (p20) (p21) (p22) (p23) (p24)
            else
              none
          else
            none
        else
          none
      else
        none
    else
      tendrillaw05_PoolDoes_L46x2 k (p0) (p1) (p2) ((↑p16.length : Int)) ((0 : Int)) (p5) (p6) (p7) (p8) (p9) (p10) (p11) (p12) (p13) (p14) (p15) (p16) (p17) (p18) (p19) (p20) (p21) (p22) (p23) (p24)
def tendrillaw05_PoolDoes_L46 : Nat → (Bool) → (Int) → (Int) → (Int) → (Int) → (List Int) → (List Int) → (List Int) → (List Int) → (List Int) → (List Int) → (List Int) → (List Int) → (List Int) → (List Int) → (List Int) → (List Int) → (List Int) → (List Int) → (List Int) → (List Int) → (List Int) → (List Int) → (List Int) → (List Int) → Option (Bool)
  | 0, _, _, _, _, _, _, _, _, _, _, _, _, _, _, _, _, _, _, _, _, _, _, _, _, _ => none
  | k + 1, p0, p1, p2, p3, p4, p5, p6, p7, p8, p9, p10, p11, p12, p13, p14, p15, p16, p17, p18, p19, p20, p21, p22, p23, p24 =>
    bif Decidable.decide (p4 < p3) then
      bif Decidable.decide ((0 : Int) ≤ p4) then
        bif Decidable.decide (p4 < (↑p16.length : Int)) then
          bif Decidable.decide ((0 : Int) ≤ p4) then
            bif Decidable.decide (p4 < (↑p16.length : Int)) then
              tendrillaw05_PoolDoes_L46 k (p0) (p1) (p2) (p3) (Go.RowKit.wrap64 (p4 + (1 : Int))) (p5) (p6) (p7) (p8) (p9) (p10) (p11) (p12) (p13) (p14) (p15) (p16.set p4.toNat (Go.RowKit.wrap64 (p16.getD p4.toNat (0 : Int) + (1 : Int)))) (p17) (p18) (p19) (p20) (p21) (p22) (p23) (p24)
            else
              none
          else
            none
        else
          none
      else
        none
    else
      tendrillaw05_PoolDoes_L30 k (p0) (p1) (Go.RowKit.wrap64 (p2 + (1 : Int))) (p5) (p6) (p7) (p8) (p9) (p10) (p11) (p12) (p17) (p18) (p19) (p20) (p21) (p22) (p23) (p24) (p13) (p14) (p15) (p16)
def tendrillaw05_PoolDoes_L46x1 : Nat → (Bool) → (Int) → (Int) → (Int) → (Int) → (List Int) → (List Int) → (List Int) → (List Int) → (List Int) → (List Int) → (List Int) → (List Int) → (List Int) → (List Int) → (List Int) → (List Int) → (List Int) → (List Int) → (List Int) → (List Int) → (List Int) → (List Int) → (List Int) → (List Int) → Option (Bool)
  | 0, _, _, _, _, _, _, _, _, _, _, _, _, _, _, _, _, _, _, _, _, _, _, _, _, _ => none
  | k + 1, p0, p1, p2, p3, p4, p5, p6, p7, p8, p9, p10, p11, p12, p13, p14, p15, p16, p17, p18, p19, p20, p21, p22, p23, p24 =>
    bif Decidable.decide (p4 < p3) then
      bif Decidable.decide ((0 : Int) ≤ p4) then
        bif Decidable.decide (p4 < (↑p16.length : Int)) then
          bif Decidable.decide ((0 : Int) ≤ p4) then
            bif Decidable.decide (p4 < (↑p16.length : Int)) then
              tendrillaw05_PoolDoes_L46x1 k (p0) (p1) (p2) (p3) (Go.RowKit.wrap64 (p4 + (1 : Int))) (p5) (p6) (p7) (p8) (p9) (p10) (p11) (p12) (p13) (p14) (p15) (p16.set p4.toNat (Go.RowKit.wrap64 (p16.getD p4.toNat (0 : Int) + (1 : Int)))) (p17) (p18) (p19) (p20) (p21) (p22) (p23) (p24)
            else
              none
          else
            none
        else
          none
      else
        none
    else
      tendrillaw05_PoolDoes_L30 k (p0) (p1) (Go.RowKit.wrap64 (p2 + (1 : Int))) (p5) (p6) (p7) (p8) (p9) (p10) (p11) (p12) (p17) (p18) (p19) (p20) (p13) (p14) (p15) (p16) (p21) (p22) (p23) (p24)
def tendrillaw05_PoolDoes_L46x2 : Nat → (Bool) → (Int) → (Int) → (Int) → (Int) → (List Int) → (List Int) → (List Int) → (List Int) → (List Int) → (List Int) → (List Int) → (List Int) → (List Int) → (List Int) → (List Int) → (List Int) → (List Int) → (List Int) → (List Int) → (List Int) → (List Int) → (List Int) → (List Int) → (List Int) → Option (Bool)
  | 0, _, _, _, _, _, _, _, _, _, _, _, _, _, _, _, _, _, _, _, _, _, _, _, _, _ => none
  | k + 1, p0, p1, p2, p3, p4, p5, p6, p7, p8, p9, p10, p11, p12, p13, p14, p15, p16, p17, p18, p19, p20, p21, p22, p23, p24 =>
    bif Decidable.decide (p4 < p3) then
      bif Decidable.decide ((0 : Int) ≤ p4) then
        bif Decidable.decide (p4 < (↑p16.length : Int)) then
          bif Decidable.decide ((0 : Int) ≤ p4) then
            bif Decidable.decide (p4 < (↑p16.length : Int)) then
              tendrillaw05_PoolDoes_L46x2 k (p0) (p1) (p2) (p3) (Go.RowKit.wrap64 (p4 + (1 : Int))) (p5) (p6) (p7) (p8) (p9) (p10) (p11) (p12) (p13) (p14) (p15) (p16.set p4.toNat (Go.RowKit.wrap64 (p16.getD p4.toNat (0 : Int) + (1 : Int)))) (p17) (p18) (p19) (p20) (p21) (p22) (p23) (p24)
            else
              none
          else
            none
        else
          none
      else
        none
    else
      tendrillaw05_PoolDoes_L30 k (p0) (p1) (Go.RowKit.wrap64 (p2 + (1 : Int))) (p5) (p6) (p7) (p8) (p9) (p10) (p11) (p12) (p13) (p14) (p15) (p16) (p17) (p18) (p19) (p20) (p21) (p22) (p23) (p24)
end
def tendrillaw05_PoolDoes_P30v0 (k : Nat) (vs : List SV) (bs : List Blk) : Option (Option (Bool)) := match vs, bs with
  | [.val (.one (.ptr 0 0)), .val (.one (.ptr 1 0)), .val (.one (.bool p0)), .val (.one (.bsl 2 0 3)), .val (.one (.int .i64 p1)), .val (.one (.int .i64 p2))], [.box [(.sl .int p3), (.sl .int p4), (.sl .int p5), (.sl .int p6)], .box [(.row 3), (.row 4), (.row 5), (.row 6)], .box [(.row 7), (.row 8), (.row 9), (.row 10), (.row 11), (.row 12), (.row 13), (.row 14), (.row 15), (.row 16), (.row 17), (.row 18)], .row .int p7, .row .int p8, .row .int p9, .row .int p10, .row .int p11, .row .int p12, .row .int p13, .row .int p14, .row .int p15, .row .int p16, .row .int p17, .row .int p18, .row .int p19, .row .int p20, .row .int p21, .row .int p22] => some (tendrillaw05_PoolDoes_L30 k p0 p1 p2 p3 p4 p5 p6 p7 p8 p9 p10 p11 p12 p13 p14 p15 p16 p17 p18 p19 p20 p21 p22)
  | _, _ => none
def tendrillaw05_PoolDoes_P36v0 (k : Nat) (vs : List SV) (bs : List Blk) : Option (Option (Bool)) := match vs, bs with
  | [.val (.one (.ptr 0 0)), .val (.one (.ptr 1 0)), .val (.one (.bool p0)), .val (.one (.ptr 2 0)), .val (.one (.bsl 3 0 3)), .val (.one (.int .i64 p1)), .val (.one (.int .i64 p2)), .val (.one (.int .i64 p3)), .val (.one (.int .i64 p4))], [.box [(.sl .int p5), (.sl .int p6), (.sl .int p7), (.sl .int p8)], .box [(.row 4), (.row 5), (.row 6), (.row 7)], .box [(.row 8), (.row 9), (.row 10), (.row 11)], .box [(.row 12), (.row 13), (.row 14), (.row 15), (.row 16), (.row 17), (.row 18), (.row 19), (.row 8), (.row 9), (.row 10), (.row 11)], .row .int p9, .row .int p10, .row .int p11, .row .int p12, .row .int p13, .row .int p14, .row .int p15, .row .int p16, .row .int p17, .row .int p18, .row .int p19, .row .int p20, .row .int p21, .row .int p22, .row .int p23, .row .int p24] => some (tendrillaw05_PoolDoes_L36 k p0 p1 p2 p3 p4 p5 p6 p7 p8 p9 p10 p11 p12 p13 p14 p15 p16 p17 p18 p19 p20 p21 p22 p23 p24)
  | _, _ => none
def tendrillaw05_PoolDoes_P36v1 (k : Nat) (vs : List SV) (bs : List Blk) : Option (Option (Bool)) := match vs, bs with
  | [.val (.one (.ptr 0 0)), .val (.one (.ptr 1 0)), .val (.one (.bool p0)), .val (.one (.ptr 2 0)), .val (.one (.bsl 3 0 3)), .val (.one (.int .i64 p1)), .val (.one (.int .i64 p2)), .val (.one (.int .i64 p3)), .val (.one (.int .i64 p4))], [.box [(.sl .int p5), (.sl .int p6), (.sl .int p7), (.sl .int p8)], .box [(.row 4), (.row 5), (.row 6), (.row 7)], .box [(.row 8), (.row 9), (.row 10), (.row 11)], .box [(.row 12), (.row 13), (.row 14), (.row 15), (.row 8), (.row 9), (.row 10), (.row 11), (.row 16), (.row 17), (.row 18), (.row 19)], .row .int p9, .row .int p10, .row .int p11, .row .int p12, .row .int p13, .row .int p14, .row .int p15, .row .int p16, .row .int p17, .row .int p18, .row .int p19, .row .int p20, .row .int p21, .row .int p22, .row .int p23, .row .int p24] => some (tendrillaw05_PoolDoes_L36x1 k p0 p1 p2 p3 p4 p5 p6 p7 p8 p9 p10 p11 p12 p13 p14 p15 p16 p17 p18 p19 p20 p21 p22 p23 p24)
  | _, _ => none
def tendrillaw05_PoolDoes_P36v2 (k : Nat) (vs : List SV) (bs : List Blk) : Option (Option (Bool)) := match vs, bs with
  | [.val (.one (.ptr 0 0)), .val (.one (.ptr 1 0)), .val (.one (.bool p0)), .val (.one (.ptr 2 0)), .val (.one (.bsl 3 0 3)), .val (.one (.int .i64 p1)), .val (.one (.int .i64 p2)), .val (.one (.int .i64 p3)), .val (.one (.int .i64 p4))], [.box [(.sl .int p5), (.sl .int p6), (.sl .int p7), (.sl .int p8)], .box [(.row 4), (.row 5), (.row 6), (.row 7)], .box [(.row 8), (.row 9), (.row 10), (.row 11)], .box [(.row 8), (.row 9), (.row 10), (.row 11), (.row 12), (.row 13), (.row 14), (.row 15), (.row 16), (.row 17), (.row 18), (.row 19)], .row .int p9, .row .int p10, .row .int p11, .row .int p12, .row .int p13, .row .int p14, .row .int p15, .row .int p16, .row .int p17, .row .int p18, .row .int p19, .row .int p20, .row .int p21, .row .int p22, .row .int p23, .row .int p24] => some (tendrillaw05_PoolDoes_L36x2 k p0 p1 p2 p3 p4 p5 p6 p7 p8 p9 p10 p11 p12 p13 p14 p15 p16 p17 p18 p19 p20 p21 p22 p23 p24)
  | _, _ => none
def tendrillaw05_PoolDoes_P46v0 (k : Nat) (vs : List SV) (bs : List Blk) : Option (Option (Bool)) := match vs, bs with
  | [.val (.one (.ptr 0 0)), .val (.one (.ptr 1 0)), .val (.one (.bool p0)), .val (.one (.ptr 2 0)), .val (.one (.bsl 3 0 3)), .val (.one (.int .i64 p1)), .val (.one (.int .i64 p2)), .val (.one (.int .i64 p3)), .val (.one (.int .i64 p4))], [.box [(.sl .int p5), (.sl .int p6), (.sl .int p7), (.sl .int p8)], .box [(.row 4), (.row 5), (.row 6), (.row 7)], .box [(.row 8), (.row 9), (.row 10), (.row 11)], .box [(.row 12), (.row 13), (.row 14), (.row 15), (.row 16), (.row 17), (.row 18), (.row 19), (.row 8), (.row 9), (.row 10), (.row 11)], .row .int p9, .row .int p10, .row .int p11, .row .int p12, .row .int p13, .row .int p14, .row .int p15, .row .int p16, .row .int p17, .row .int p18, .row .int p19, .row .int p20, .row .int p21, .row .int p22, .row .int p23, .row .int p24] => some (tendrillaw05_PoolDoes_L46 k p0 p1 p2 p3 p4 p5 p6 p7 p8 p9 p10 p11 p12 p13 p14 p15 p16 p17 p18 p19 p20 p21 p22 p23 p24)
  | _, _ => none
def tendrillaw05_PoolDoes_P46v1 (k : Nat) (vs : List SV) (bs : List Blk) : Option (Option (Bool)) := match vs, bs with
  | [.val (.one (.ptr 0 0)), .val (.one (.ptr 1 0)), .val (.one (.bool p0)), .val (.one (.ptr 2 0)), .val (.one (.bsl 3 0 3)), .val (.one (.int .i64 p1)), .val (.one (.int .i64 p2)), .val (.one (.int .i64 p3)), .val (.one (.int .i64 p4))], [.box [(.sl .int p5), (.sl .int p6), (.sl .int p7), (.sl .int p8)], .box [(.row 4), (.row 5), (.row 6), (.row 7)], .box [(.row 8), (.row 9), (.row 10), (.row 11)], .box [(.row 12), (.row 13), (.row 14), (.row 15), (.row 8), (.row 9), (.row 10), (.row 11), (.row 16), (.row 17), (.row 18), (.row 19)], .row .int p9, .row .int p10, .row .int p11, .row .int p12, .row .int p13, .row .int p14, .row .int p15, .row .int p16, .row .int p17, .row .int p18, .row .int p19, .row .int p20, .row .int p21, .row .int p22, .row .int p23, .row .int p24] => some (tendrillaw05_PoolDoes_L46x1 k p0 p1 p2 p3 p4 p5 p6 p7 p8 p9 p10 p11 p12 p13 p14 p15 p16 p17 p18 p19 p20 p21 p22 p23 p24)
  | _, _ => none
def tendrillaw05_PoolDoes_P46v2 (k : Nat) (vs : List SV) (bs : List Blk) : Option (Option (Bool)) := match vs, bs with
  | [.val (.one (.ptr 0 0)), .val (.one (.ptr 1 0)), .val (.one (.bool p0)), .val (.one (.ptr 2 0)), .val (.one (.bsl 3 0 3)), .val (.one (.int .i64 p1)), .val (.one (.int .i64 p2)), .val (.one (.int .i64 p3)), .val (.one (.int .i64 p4))], [.box [(.sl .int p5), (.sl .int p6), (.sl .int p7), (.sl .int p8)], .box [(.row 4), (.row 5), (.row 6), (.row 7)], .box [(.row 8), (.row 9), (.row 10), (.row 11)], .box [(.row 8), (.row 9), (.row 10), (.row 11), (.row 12), (.row 13), (.row 14), (.row 15), (.row 16), (.row 17), (.row 18), (.row 19)], .row .int p9, .row .int p10, .row .int p11, .row .int p12, .row .int p13, .row .int p14, .row .int p15, .row .int p16, .row .int p17, .row .int p18, .row .int p19, .row .int p20, .row .int p21, .row .int p22, .row .int p23, .row .int p24] => some (tendrillaw05_PoolDoes_L46x2 k p0 p1 p2 p3 p4 p5 p6 p7 p8 p9 p10 p11 p12 p13 p14 p15 p16 p17 p18 p19 p20 p21 p22 p23 p24)
  | _, _ => none
def tendrillaw05_PoolDoes_P30 (k : Nat) (vs : List SV) (bs : List Blk) : Option (Bool) := match tendrillaw05_PoolDoes_P30v0 k vs bs with | some r => r | none => none
def tendrillaw05_PoolDoes_P36 (k : Nat) (vs : List SV) (bs : List Blk) : Option (Bool) := match tendrillaw05_PoolDoes_P36v0 k vs bs with | some r => r | none => match tendrillaw05_PoolDoes_P36v1 k vs bs with | some r => r | none => match tendrillaw05_PoolDoes_P36v2 k vs bs with | some r => r | none => none
def tendrillaw05_PoolDoes_P46 (k : Nat) (vs : List SV) (bs : List Blk) : Option (Bool) := match tendrillaw05_PoolDoes_P46v0 k vs bs with | some r => r | none => match tendrillaw05_PoolDoes_P46v1 k vs bs with | some r => r | none => match tendrillaw05_PoolDoes_P46v2 k vs bs with | some r => r | none => none
def tendrillaw05_PoolDoes_Λ (k L : Nat) (vs : List SV) (bs : List Blk) : Option (Bool) := match Nat.beq L 30 with | true => tendrillaw05_PoolDoes_P30 k vs bs | false => match Nat.beq L 36 with | true => tendrillaw05_PoolDoes_P36 k vs bs | false => match Nat.beq L 46 with | true => tendrillaw05_PoolDoes_P46 k vs bs | false => none
def tendrillaw05_PoolDoes_K (K : Nat) (x : (List Int × List Int × List Int × List Int) × Int × Int × Int) : Option (Bool) :=
  (tendrillaw05_live (())).bind fun r0 =>
  bif !r0 then
    some (Bool.false)
  else
    (tendrilref05_Few ((x.fst.1, x.fst.snd.1, x.fst.snd.snd.1, x.fst.snd.snd.2))).bind fun r1 =>
    bif !r1 then
      some (Bool.true)
    else
      (tendrilref05_Copy ((x.fst.1, x.fst.snd.1, x.fst.snd.snd.1, x.fst.snd.snd.2))).bind fun r2 =>
      (pool_Take ((x.fst.1, x.fst.snd.1, x.fst.snd.snd.1, x.fst.snd.snd.2))).bind fun r3 =>
      (tendrilref05_Take ((x.fst.1, x.fst.snd.1, x.fst.snd.snd.1, x.fst.snd.snd.2))).bind fun r4 =>
      (pool_Retire (((x.fst.1, x.fst.snd.1, x.fst.snd.snd.1, x.fst.snd.snd.2), x.snd.1, x.snd.snd.1))).bind fun r5 =>
      (tendrilref05_Retire (((x.fst.1, x.fst.snd.1, x.fst.snd.snd.1, x.fst.snd.snd.2), x.snd.1, x.snd.snd.1))).bind fun r6 =>
      (pool_Reclaim (((x.fst.1, x.fst.snd.1, x.fst.snd.snd.1, x.fst.snd.snd.2), x.snd.snd.2))).bind fun r7 =>
      (tendrilref05_Reclaim (((x.fst.1, x.fst.snd.1, x.fst.snd.snd.1, x.fst.snd.snd.2), x.snd.snd.2))).bind fun r8 =>
      (tendrilref05_Same (((r3.fst.1, r3.fst.snd.1, r3.fst.snd.snd.1, r3.fst.snd.snd.2), r4.fst.1, r4.fst.snd.1, r4.fst.snd.snd.1, r4.fst.snd.snd.2))).bind fun r9 =>
      bif r9 then
        bif r3.snd.1 == r4.snd.1 then
          bif r3.snd.2 == r4.snd.2 then
            (tendrilref05_Same (((r5.fst.1, r5.fst.snd.1, r5.fst.snd.snd.1, r5.fst.snd.snd.2), r6.fst.1, r6.fst.snd.1, r6.fst.snd.snd.1, r6.fst.snd.snd.2))).bind fun r10 =>
            bif r10 then
              bif r5.2 == r6.2 then
                (tendrilref05_Same (((r7.fst.1, r7.fst.snd.1, r7.fst.snd.snd.1, r7.fst.snd.snd.2), r8.fst.1, r8.fst.snd.1, r8.fst.snd.snd.1, r8.fst.snd.snd.2))).bind fun r11 =>
                bif r11 then
                  tendrillaw05_PoolDoes_L30 K (r7.2 == r8.2) ((↑(3 : Nat) : Int)) ((0 : Int)) (x.fst.1) (x.fst.snd.1) (x.fst.snd.snd.1) (x.fst.snd.snd.2) (r2.1) (r2.snd.1) (r2.snd.snd.1) (r2.snd.snd.2) (r3.fst.1) (r3.fst.snd.1) (r3.fst.snd.snd.1) (r3.fst.snd.snd.2) (r5.fst.1) (r5.fst.snd.1) (r5.fst.snd.snd.1) (r5.fst.snd.snd.2) (r7.fst.1) (r7.fst.snd.1) (r7.fst.snd.snd.1) (r7.fst.snd.snd.2)
                else
                  tendrillaw05_PoolDoes_L30 K (Bool.false) ((↑(3 : Nat) : Int)) ((0 : Int)) (x.fst.1) (x.fst.snd.1) (x.fst.snd.snd.1) (x.fst.snd.snd.2) (r2.1) (r2.snd.1) (r2.snd.snd.1) (r2.snd.snd.2) (r3.fst.1) (r3.fst.snd.1) (r3.fst.snd.snd.1) (r3.fst.snd.snd.2) (r5.fst.1) (r5.fst.snd.1) (r5.fst.snd.snd.1) (r5.fst.snd.snd.2) (r7.fst.1) (r7.fst.snd.1) (r7.fst.snd.snd.1) (r7.fst.snd.snd.2)
              else
                tendrillaw05_PoolDoes_L30 K (Bool.false) ((↑(3 : Nat) : Int)) ((0 : Int)) (x.fst.1) (x.fst.snd.1) (x.fst.snd.snd.1) (x.fst.snd.snd.2) (r2.1) (r2.snd.1) (r2.snd.snd.1) (r2.snd.snd.2) (r3.fst.1) (r3.fst.snd.1) (r3.fst.snd.snd.1) (r3.fst.snd.snd.2) (r5.fst.1) (r5.fst.snd.1) (r5.fst.snd.snd.1) (r5.fst.snd.snd.2) (r7.fst.1) (r7.fst.snd.1) (r7.fst.snd.snd.1) (r7.fst.snd.snd.2)
            else
              tendrillaw05_PoolDoes_L30 K (Bool.false) ((↑(3 : Nat) : Int)) ((0 : Int)) (x.fst.1) (x.fst.snd.1) (x.fst.snd.snd.1) (x.fst.snd.snd.2) (r2.1) (r2.snd.1) (r2.snd.snd.1) (r2.snd.snd.2) (r3.fst.1) (r3.fst.snd.1) (r3.fst.snd.snd.1) (r3.fst.snd.snd.2) (r5.fst.1) (r5.fst.snd.1) (r5.fst.snd.snd.1) (r5.fst.snd.snd.2) (r7.fst.1) (r7.fst.snd.1) (r7.fst.snd.snd.1) (r7.fst.snd.snd.2)
          else
            tendrillaw05_PoolDoes_L30 K (Bool.false) ((↑(3 : Nat) : Int)) ((0 : Int)) (x.fst.1) (x.fst.snd.1) (x.fst.snd.snd.1) (x.fst.snd.snd.2) (r2.1) (r2.snd.1) (r2.snd.snd.1) (r2.snd.snd.2) (r3.fst.1) (r3.fst.snd.1) (r3.fst.snd.snd.1) (r3.fst.snd.snd.2) (r5.fst.1) (r5.fst.snd.1) (r5.fst.snd.snd.1) (r5.fst.snd.snd.2) (r7.fst.1) (r7.fst.snd.1) (r7.fst.snd.snd.1) (r7.fst.snd.snd.2)
        else
          tendrillaw05_PoolDoes_L30 K (Bool.false) ((↑(3 : Nat) : Int)) ((0 : Int)) (x.fst.1) (x.fst.snd.1) (x.fst.snd.snd.1) (x.fst.snd.snd.2) (r2.1) (r2.snd.1) (r2.snd.snd.1) (r2.snd.snd.2) (r3.fst.1) (r3.fst.snd.1) (r3.fst.snd.snd.1) (r3.fst.snd.snd.2) (r5.fst.1) (r5.fst.snd.1) (r5.fst.snd.snd.1) (r5.fst.snd.snd.2) (r7.fst.1) (r7.fst.snd.1) (r7.fst.snd.snd.1) (r7.fst.snd.snd.2)
      else
        tendrillaw05_PoolDoes_L30 K (Bool.false) ((↑(3 : Nat) : Int)) ((0 : Int)) (x.fst.1) (x.fst.snd.1) (x.fst.snd.snd.1) (x.fst.snd.snd.2) (r2.1) (r2.snd.1) (r2.snd.snd.1) (r2.snd.snd.2) (r3.fst.1) (r3.fst.snd.1) (r3.fst.snd.snd.1) (r3.fst.snd.snd.2) (r5.fst.1) (r5.fst.snd.1) (r5.fst.snd.snd.1) (r5.fst.snd.snd.2) (r7.fst.1) (r7.fst.snd.1) (r7.fst.snd.snd.1) (r7.fst.snd.snd.2)
def tendrillaw05_PoolDoes (x : ((List Int) × ((List Int) × ((List Int) × (List Int)))) × Int × Int × Int) : Option (Bool) := tendrillaw05_PoolDoes_K 2000000 x
def tendrillaw05_PoolDoes_S : Sig := ⟨[⟨true, (.pair (.sl .int) (.pair (.sl .int) (.pair (.sl .int) (.sl .int))))⟩, ⟨false, .int⟩, ⟨false, .int⟩, ⟨false, .int⟩], [⟨false, .bool⟩], false, tendrillaw05_PoolDoes⟩
noncomputable def tendrillaw05_PoolDoes_C : List (Cut (Tup [⟨false, .bool⟩])) := cuts Try.prog (lkΓ [(9, tendrillaw05_live_S), (10, tendrilref05_Few_S), (11, tendrilref05_Copy_S), (12, pool_Take_S), (13, tendrilref05_Take_S), (14, pool_Retire_S), (15, tendrilref05_Retire_S), (16, pool_Reclaim_S), (17, tendrilref05_Reclaim_S), (18, tendrilref05_Same_S)]) Try.f3.ntmps [(46, [4, 9, 24, 26, 110, 111, 112, 132, 133]), (36, [4, 9, 24, 26, 110, 111, 112, 118, 119]), (30, [4, 9, 24, 110, 111, 112])] (bodyOf Try.f3) (κ0 Try.prog Try.f3 false [⟨false, .bool⟩])
set_option maxRecDepth 100000 in
theorem tendrillaw05_PoolDoes_c30 (k : Nat) (p0 : Bool) (p1 : Int) (p2 : Int) (p3 : List Int) (p4 : List Int) (p5 : List Int) (p6 : List Int) (p7 : List Int) (p8 : List Int) (p9 : List Int) (p10 : List Int) (p11 : List Int) (p12 : List Int) (p13 : List Int) (p14 : List Int) (p15 : List Int) (p16 : List Int) (p17 : List Int) (p18 : List Int) (p19 : List Int) (p20 : List Int) (p21 : List Int) (p22 : List Int) : ((nthC tendrillaw05_PoolDoes_C 0).g (mkSt [4, 9, 24, 110, 111, 112] [.val (.one (.ptr 0 0)), .val (.one (.ptr 1 0)), .val (.one (.bool p0)), .val (.one (.bsl 2 0 3)), .val (.one (.int .i64 p1)), .val (.one (.int .i64 p2))] [.box [(.sl .int p3), (.sl .int p4), (.sl .int p5), (.sl .int p6)], .box [(.row 3), (.row 4), (.row 5), (.row 6)], .box [(.row 7), (.row 8), (.row 9), (.row 10), (.row 11), (.row 12), (.row 13), (.row 14), (.row 15), (.row 16), (.row 17), (.row 18)], .row .int p7, .row .int p8, .row .int p9, .row .int p10, .row .int p11, .row .int p12, .row .int p13, .row .int p14, .row .int p15, .row .int p16, .row .int p17, .row .int p18, .row .int p19, .row .int p20, .row .int p21, .row .int p22])).run (tendrillaw05_PoolDoes_Λ k) = tendrillaw05_PoolDoes_L30 (k + 1) p0 p1 p2 p3 p4 p5 p6 p7 p8 p9 p10 p11 p12 p13 p14 p15 p16 p17 p18 p19 p20 p21 p22 := by kernel_rfl
theorem tendrillaw05_PoolDoes_e30 (k : Nat) (vs : List SV) (bs : List Blk) (r : Bool) (h : tendrillaw05_PoolDoes_P30v0 (k + 1) vs bs = some (some r)) : ((nthC tendrillaw05_PoolDoes_C 0).g (mkSt [4, 9, 24, 110, 111, 112] vs bs)).run (tendrillaw05_PoolDoes_Λ k) = some r := by
  unfold tendrillaw05_PoolDoes_P30v0 at h
  split at h
  · exact (tendrillaw05_PoolDoes_c30 k _ _ _ _ _ _ _ _ _ _ _ _ _ _ _ _ _ _ _ _ _ _ _).trans (Option.some.inj h)
  · cases h
set_option maxRecDepth 100000 in
theorem tendrillaw05_PoolDoes_c36 (k : Nat) (p0 : Bool) (p1 : Int) (p2 : Int) (p3 : Int) (p4 : Int) (p5 : List Int) (p6 : List Int) (p7 : List Int) (p8 : List Int) (p9 : List Int) (p10 : List Int) (p11 : List Int) (p12 : List Int) (p13 : List Int) (p14 : List Int) (p15 : List Int) (p16 : List Int) (p17 : List Int) (p18 : List Int) (p19 : List Int) (p20 : List Int) (p21 : List Int) (p22 : List Int) (p23 : List Int) (p24 : List Int) : ((nthC tendrillaw05_PoolDoes_C 1).g (mkSt [4, 9, 24, 26, 110, 111, 112, 118, 119] [.val (.one (.ptr 0 0)), .val (.one (.ptr 1 0)), .val (.one (.bool p0)), .val (.one (.ptr 2 0)), .val (.one (.bsl 3 0 3)), .val (.one (.int .i64 p1)), .val (.one (.int .i64 p2)), .val (.one (.int .i64 p3)), .val (.one (.int .i64 p4))] [.box [(.sl .int p5), (.sl .int p6), (.sl .int p7), (.sl .int p8)], .box [(.row 4), (.row 5), (.row 6), (.row 7)], .box [(.row 8), (.row 9), (.row 10), (.row 11)], .box [(.row 12), (.row 13), (.row 14), (.row 15), (.row 16), (.row 17), (.row 18), (.row 19), (.row 8), (.row 9), (.row 10), (.row 11)], .row .int p9, .row .int p10, .row .int p11, .row .int p12, .row .int p13, .row .int p14, .row .int p15, .row .int p16, .row .int p17, .row .int p18, .row .int p19, .row .int p20, .row .int p21, .row .int p22, .row .int p23, .row .int p24])).run (tendrillaw05_PoolDoes_Λ k) = tendrillaw05_PoolDoes_L36 (k + 1) p0 p1 p2 p3 p4 p5 p6 p7 p8 p9 p10 p11 p12 p13 p14 p15 p16 p17 p18 p19 p20 p21 p22 p23 p24 := by kernel_rfl
theorem tendrillaw05_PoolDoes_e36 (k : Nat) (vs : List SV) (bs : List Blk) (r : Bool) (h : tendrillaw05_PoolDoes_P36v0 (k + 1) vs bs = some (some r)) : ((nthC tendrillaw05_PoolDoes_C 1).g (mkSt [4, 9, 24, 26, 110, 111, 112, 118, 119] vs bs)).run (tendrillaw05_PoolDoes_Λ k) = some r := by
  unfold tendrillaw05_PoolDoes_P36v0 at h
  split at h
  · exact (tendrillaw05_PoolDoes_c36 k _ _ _ _ _ _ _ _ _ _ _ _ _ _ _ _ _ _ _ _ _ _ _ _ _).trans (Option.some.inj h)
  · cases h
set_option maxRecDepth 100000 in
theorem tendrillaw05_PoolDoes_c36x1 (k : Nat) (p0 : Bool) (p1 : Int) (p2 : Int) (p3 : Int) (p4 : Int) (p5 : List Int) (p6 : List Int) (p7 : List Int) (p8 : List Int) (p9 : List Int) (p10 : List Int) (p11 : List Int) (p12 : List Int) (p13 : List Int) (p14 : List Int) (p15 : List Int) (p16 : List Int) (p17 : List Int) (p18 : List Int) (p19 : List Int) (p20 : List Int) (p21 : List Int) (p22 : List Int) (p23 : List Int) (p24 : List Int) : ((nthC tendrillaw05_PoolDoes_C 1).g (mkSt [4, 9, 24, 26, 110, 111, 112, 118, 119] [.val (.one (.ptr 0 0)), .val (.one (.ptr 1 0)), .val (.one (.bool p0)), .val (.one (.ptr 2 0)), .val (.one (.bsl 3 0 3)), .val (.one (.int .i64 p1)), .val (.one (.int .i64 p2)), .val (.one (.int .i64 p3)), .val (.one (.int .i64 p4))] [.box [(.sl .int p5), (.sl .int p6), (.sl .int p7), (.sl .int p8)], .box [(.row 4), (.row 5), (.row 6), (.row 7)], .box [(.row 8), (.row 9), (.row 10), (.row 11)], .box [(.row 12), (.row 13), (.row 14), (.row 15), (.row 8), (.row 9), (.row 10), (.row 11), (.row 16), (.row 17), (.row 18), (.row 19)], .row .int p9, .row .int p10, .row .int p11, .row .int p12, .row .int p13, .row .int p14, .row .int p15, .row .int p16, .row .int p17, .row .int p18, .row .int p19, .row .int p20, .row .int p21, .row .int p22, .row .int p23, .row .int p24])).run (tendrillaw05_PoolDoes_Λ k) = tendrillaw05_PoolDoes_L36x1 (k + 1) p0 p1 p2 p3 p4 p5 p6 p7 p8 p9 p10 p11 p12 p13 p14 p15 p16 p17 p18 p19 p20 p21 p22 p23 p24 := by kernel_rfl
theorem tendrillaw05_PoolDoes_e36x1 (k : Nat) (vs : List SV) (bs : List Blk) (r : Bool) (h : tendrillaw05_PoolDoes_P36v1 (k + 1) vs bs = some (some r)) : ((nthC tendrillaw05_PoolDoes_C 1).g (mkSt [4, 9, 24, 26, 110, 111, 112, 118, 119] vs bs)).run (tendrillaw05_PoolDoes_Λ k) = some r := by
  unfold tendrillaw05_PoolDoes_P36v1 at h
  split at h
  · exact (tendrillaw05_PoolDoes_c36x1 k _ _ _ _ _ _ _ _ _ _ _ _ _ _ _ _ _ _ _ _ _ _ _ _ _).trans (Option.some.inj h)
  · cases h
set_option maxRecDepth 100000 in
theorem tendrillaw05_PoolDoes_c36x2 (k : Nat) (p0 : Bool) (p1 : Int) (p2 : Int) (p3 : Int) (p4 : Int) (p5 : List Int) (p6 : List Int) (p7 : List Int) (p8 : List Int) (p9 : List Int) (p10 : List Int) (p11 : List Int) (p12 : List Int) (p13 : List Int) (p14 : List Int) (p15 : List Int) (p16 : List Int) (p17 : List Int) (p18 : List Int) (p19 : List Int) (p20 : List Int) (p21 : List Int) (p22 : List Int) (p23 : List Int) (p24 : List Int) : ((nthC tendrillaw05_PoolDoes_C 1).g (mkSt [4, 9, 24, 26, 110, 111, 112, 118, 119] [.val (.one (.ptr 0 0)), .val (.one (.ptr 1 0)), .val (.one (.bool p0)), .val (.one (.ptr 2 0)), .val (.one (.bsl 3 0 3)), .val (.one (.int .i64 p1)), .val (.one (.int .i64 p2)), .val (.one (.int .i64 p3)), .val (.one (.int .i64 p4))] [.box [(.sl .int p5), (.sl .int p6), (.sl .int p7), (.sl .int p8)], .box [(.row 4), (.row 5), (.row 6), (.row 7)], .box [(.row 8), (.row 9), (.row 10), (.row 11)], .box [(.row 8), (.row 9), (.row 10), (.row 11), (.row 12), (.row 13), (.row 14), (.row 15), (.row 16), (.row 17), (.row 18), (.row 19)], .row .int p9, .row .int p10, .row .int p11, .row .int p12, .row .int p13, .row .int p14, .row .int p15, .row .int p16, .row .int p17, .row .int p18, .row .int p19, .row .int p20, .row .int p21, .row .int p22, .row .int p23, .row .int p24])).run (tendrillaw05_PoolDoes_Λ k) = tendrillaw05_PoolDoes_L36x2 (k + 1) p0 p1 p2 p3 p4 p5 p6 p7 p8 p9 p10 p11 p12 p13 p14 p15 p16 p17 p18 p19 p20 p21 p22 p23 p24 := by kernel_rfl
theorem tendrillaw05_PoolDoes_e36x2 (k : Nat) (vs : List SV) (bs : List Blk) (r : Bool) (h : tendrillaw05_PoolDoes_P36v2 (k + 1) vs bs = some (some r)) : ((nthC tendrillaw05_PoolDoes_C 1).g (mkSt [4, 9, 24, 26, 110, 111, 112, 118, 119] vs bs)).run (tendrillaw05_PoolDoes_Λ k) = some r := by
  unfold tendrillaw05_PoolDoes_P36v2 at h
  split at h
  · exact (tendrillaw05_PoolDoes_c36x2 k _ _ _ _ _ _ _ _ _ _ _ _ _ _ _ _ _ _ _ _ _ _ _ _ _).trans (Option.some.inj h)
  · cases h
set_option maxRecDepth 100000 in
theorem tendrillaw05_PoolDoes_c46 (k : Nat) (p0 : Bool) (p1 : Int) (p2 : Int) (p3 : Int) (p4 : Int) (p5 : List Int) (p6 : List Int) (p7 : List Int) (p8 : List Int) (p9 : List Int) (p10 : List Int) (p11 : List Int) (p12 : List Int) (p13 : List Int) (p14 : List Int) (p15 : List Int) (p16 : List Int) (p17 : List Int) (p18 : List Int) (p19 : List Int) (p20 : List Int) (p21 : List Int) (p22 : List Int) (p23 : List Int) (p24 : List Int) : ((nthC tendrillaw05_PoolDoes_C 2).g (mkSt [4, 9, 24, 26, 110, 111, 112, 132, 133] [.val (.one (.ptr 0 0)), .val (.one (.ptr 1 0)), .val (.one (.bool p0)), .val (.one (.ptr 2 0)), .val (.one (.bsl 3 0 3)), .val (.one (.int .i64 p1)), .val (.one (.int .i64 p2)), .val (.one (.int .i64 p3)), .val (.one (.int .i64 p4))] [.box [(.sl .int p5), (.sl .int p6), (.sl .int p7), (.sl .int p8)], .box [(.row 4), (.row 5), (.row 6), (.row 7)], .box [(.row 8), (.row 9), (.row 10), (.row 11)], .box [(.row 12), (.row 13), (.row 14), (.row 15), (.row 16), (.row 17), (.row 18), (.row 19), (.row 8), (.row 9), (.row 10), (.row 11)], .row .int p9, .row .int p10, .row .int p11, .row .int p12, .row .int p13, .row .int p14, .row .int p15, .row .int p16, .row .int p17, .row .int p18, .row .int p19, .row .int p20, .row .int p21, .row .int p22, .row .int p23, .row .int p24])).run (tendrillaw05_PoolDoes_Λ k) = tendrillaw05_PoolDoes_L46 (k + 1) p0 p1 p2 p3 p4 p5 p6 p7 p8 p9 p10 p11 p12 p13 p14 p15 p16 p17 p18 p19 p20 p21 p22 p23 p24 := by kernel_rfl
theorem tendrillaw05_PoolDoes_e46 (k : Nat) (vs : List SV) (bs : List Blk) (r : Bool) (h : tendrillaw05_PoolDoes_P46v0 (k + 1) vs bs = some (some r)) : ((nthC tendrillaw05_PoolDoes_C 2).g (mkSt [4, 9, 24, 26, 110, 111, 112, 132, 133] vs bs)).run (tendrillaw05_PoolDoes_Λ k) = some r := by
  unfold tendrillaw05_PoolDoes_P46v0 at h
  split at h
  · exact (tendrillaw05_PoolDoes_c46 k _ _ _ _ _ _ _ _ _ _ _ _ _ _ _ _ _ _ _ _ _ _ _ _ _).trans (Option.some.inj h)
  · cases h
set_option maxRecDepth 100000 in
theorem tendrillaw05_PoolDoes_c46x1 (k : Nat) (p0 : Bool) (p1 : Int) (p2 : Int) (p3 : Int) (p4 : Int) (p5 : List Int) (p6 : List Int) (p7 : List Int) (p8 : List Int) (p9 : List Int) (p10 : List Int) (p11 : List Int) (p12 : List Int) (p13 : List Int) (p14 : List Int) (p15 : List Int) (p16 : List Int) (p17 : List Int) (p18 : List Int) (p19 : List Int) (p20 : List Int) (p21 : List Int) (p22 : List Int) (p23 : List Int) (p24 : List Int) : ((nthC tendrillaw05_PoolDoes_C 2).g (mkSt [4, 9, 24, 26, 110, 111, 112, 132, 133] [.val (.one (.ptr 0 0)), .val (.one (.ptr 1 0)), .val (.one (.bool p0)), .val (.one (.ptr 2 0)), .val (.one (.bsl 3 0 3)), .val (.one (.int .i64 p1)), .val (.one (.int .i64 p2)), .val (.one (.int .i64 p3)), .val (.one (.int .i64 p4))] [.box [(.sl .int p5), (.sl .int p6), (.sl .int p7), (.sl .int p8)], .box [(.row 4), (.row 5), (.row 6), (.row 7)], .box [(.row 8), (.row 9), (.row 10), (.row 11)], .box [(.row 12), (.row 13), (.row 14), (.row 15), (.row 8), (.row 9), (.row 10), (.row 11), (.row 16), (.row 17), (.row 18), (.row 19)], .row .int p9, .row .int p10, .row .int p11, .row .int p12, .row .int p13, .row .int p14, .row .int p15, .row .int p16, .row .int p17, .row .int p18, .row .int p19, .row .int p20, .row .int p21, .row .int p22, .row .int p23, .row .int p24])).run (tendrillaw05_PoolDoes_Λ k) = tendrillaw05_PoolDoes_L46x1 (k + 1) p0 p1 p2 p3 p4 p5 p6 p7 p8 p9 p10 p11 p12 p13 p14 p15 p16 p17 p18 p19 p20 p21 p22 p23 p24 := by kernel_rfl
theorem tendrillaw05_PoolDoes_e46x1 (k : Nat) (vs : List SV) (bs : List Blk) (r : Bool) (h : tendrillaw05_PoolDoes_P46v1 (k + 1) vs bs = some (some r)) : ((nthC tendrillaw05_PoolDoes_C 2).g (mkSt [4, 9, 24, 26, 110, 111, 112, 132, 133] vs bs)).run (tendrillaw05_PoolDoes_Λ k) = some r := by
  unfold tendrillaw05_PoolDoes_P46v1 at h
  split at h
  · exact (tendrillaw05_PoolDoes_c46x1 k _ _ _ _ _ _ _ _ _ _ _ _ _ _ _ _ _ _ _ _ _ _ _ _ _).trans (Option.some.inj h)
  · cases h
set_option maxRecDepth 100000 in
theorem tendrillaw05_PoolDoes_c46x2 (k : Nat) (p0 : Bool) (p1 : Int) (p2 : Int) (p3 : Int) (p4 : Int) (p5 : List Int) (p6 : List Int) (p7 : List Int) (p8 : List Int) (p9 : List Int) (p10 : List Int) (p11 : List Int) (p12 : List Int) (p13 : List Int) (p14 : List Int) (p15 : List Int) (p16 : List Int) (p17 : List Int) (p18 : List Int) (p19 : List Int) (p20 : List Int) (p21 : List Int) (p22 : List Int) (p23 : List Int) (p24 : List Int) : ((nthC tendrillaw05_PoolDoes_C 2).g (mkSt [4, 9, 24, 26, 110, 111, 112, 132, 133] [.val (.one (.ptr 0 0)), .val (.one (.ptr 1 0)), .val (.one (.bool p0)), .val (.one (.ptr 2 0)), .val (.one (.bsl 3 0 3)), .val (.one (.int .i64 p1)), .val (.one (.int .i64 p2)), .val (.one (.int .i64 p3)), .val (.one (.int .i64 p4))] [.box [(.sl .int p5), (.sl .int p6), (.sl .int p7), (.sl .int p8)], .box [(.row 4), (.row 5), (.row 6), (.row 7)], .box [(.row 8), (.row 9), (.row 10), (.row 11)], .box [(.row 8), (.row 9), (.row 10), (.row 11), (.row 12), (.row 13), (.row 14), (.row 15), (.row 16), (.row 17), (.row 18), (.row 19)], .row .int p9, .row .int p10, .row .int p11, .row .int p12, .row .int p13, .row .int p14, .row .int p15, .row .int p16, .row .int p17, .row .int p18, .row .int p19, .row .int p20, .row .int p21, .row .int p22, .row .int p23, .row .int p24])).run (tendrillaw05_PoolDoes_Λ k) = tendrillaw05_PoolDoes_L46x2 (k + 1) p0 p1 p2 p3 p4 p5 p6 p7 p8 p9 p10 p11 p12 p13 p14 p15 p16 p17 p18 p19 p20 p21 p22 p23 p24 := by kernel_rfl
theorem tendrillaw05_PoolDoes_e46x2 (k : Nat) (vs : List SV) (bs : List Blk) (r : Bool) (h : tendrillaw05_PoolDoes_P46v2 (k + 1) vs bs = some (some r)) : ((nthC tendrillaw05_PoolDoes_C 2).g (mkSt [4, 9, 24, 26, 110, 111, 112, 132, 133] vs bs)).run (tendrillaw05_PoolDoes_Λ k) = some r := by
  unfold tendrillaw05_PoolDoes_P46v2 at h
  split at h
  · exact (tendrillaw05_PoolDoes_c46x2 k _ _ _ _ _ _ _ _ _ _ _ _ _ _ _ _ _ _ _ _ _ _ _ _ _).trans (Option.some.inj h)
  · cases h
theorem tendrillaw05_PoolDoes_d30 : CutOk tendrillaw05_PoolDoes_Λ (nthC tendrillaw05_PoolDoes_C 0) := by
  refine cutOk_of (L := 30) (live := [4, 9, 24, 110, 111, 112]) (by kernel_rfl) (by kernel_rfl) fun k vs bs r h => ?_
  change tendrillaw05_PoolDoes_P30 (k + 1) vs bs = some r at h
  unfold tendrillaw05_PoolDoes_P30 at h
  split at h
  · rename_i q hq
    exact tendrillaw05_PoolDoes_e30 k vs bs r (hq.trans (congrArg some h))
  cases h
theorem tendrillaw05_PoolDoes_d36 : CutOk tendrillaw05_PoolDoes_Λ (nthC tendrillaw05_PoolDoes_C 1) := by
  refine cutOk_of (L := 36) (live := [4, 9, 24, 26, 110, 111, 112, 118, 119]) (by kernel_rfl) (by kernel_rfl) fun k vs bs r h => ?_
  change tendrillaw05_PoolDoes_P36 (k + 1) vs bs = some r at h
  unfold tendrillaw05_PoolDoes_P36 at h
  split at h
  · rename_i q hq
    exact tendrillaw05_PoolDoes_e36 k vs bs r (hq.trans (congrArg some h))
  split at h
  · rename_i q hq
    exact tendrillaw05_PoolDoes_e36x1 k vs bs r (hq.trans (congrArg some h))
  split at h
  · rename_i q hq
    exact tendrillaw05_PoolDoes_e36x2 k vs bs r (hq.trans (congrArg some h))
  cases h
theorem tendrillaw05_PoolDoes_d46 : CutOk tendrillaw05_PoolDoes_Λ (nthC tendrillaw05_PoolDoes_C 2) := by
  refine cutOk_of (L := 46) (live := [4, 9, 24, 26, 110, 111, 112, 132, 133]) (by kernel_rfl) (by kernel_rfl) fun k vs bs r h => ?_
  change tendrillaw05_PoolDoes_P46 (k + 1) vs bs = some r at h
  unfold tendrillaw05_PoolDoes_P46 at h
  split at h
  · rename_i q hq
    exact tendrillaw05_PoolDoes_e46 k vs bs r (hq.trans (congrArg some h))
  split at h
  · rename_i q hq
    exact tendrillaw05_PoolDoes_e46x1 k vs bs r (hq.trans (congrArg some h))
  split at h
  · rename_i q hq
    exact tendrillaw05_PoolDoes_e46x2 k vs bs r (hq.trans (congrArg some h))
  cases h
theorem tendrillaw05_PoolDoes_cuts : ∀ p ∈ cuts Try.prog (lkΓ [(9, tendrillaw05_live_S), (10, tendrilref05_Few_S), (11, tendrilref05_Copy_S), (12, pool_Take_S), (13, tendrilref05_Take_S), (14, pool_Retire_S), (15, tendrilref05_Retire_S), (16, pool_Reclaim_S), (17, tendrilref05_Reclaim_S), (18, tendrilref05_Same_S)]) Try.f3.ntmps [(46, [4, 9, 24, 26, 110, 111, 112, 132, 133]), (36, [4, 9, 24, 26, 110, 111, 112, 118, 119]), (30, [4, 9, 24, 110, 111, 112])] (bodyOf Try.f3) (κ0 Try.prog Try.f3 false [⟨false, .bool⟩]), CutOk tendrillaw05_PoolDoes_Λ p := cutsOk (l := tendrillaw05_PoolDoes_C) (n := 3) (by kernel_rfl) fun
  | 0, _ => tendrillaw05_PoolDoes_d30
  | 1, _ => tendrillaw05_PoolDoes_d36
  | 2, _ => tendrillaw05_PoolDoes_d46
  | k + 3, h => absurd h (by omega)
theorem tendrillaw05_PoolDoes_z30 (vs : List SV) (bs : List Blk) (q : Option (Bool)) (h : tendrillaw05_PoolDoes_P30v0 0 vs bs = some q) : q = none := by
  unfold tendrillaw05_PoolDoes_P30v0 at h; split at h
  · have h := Option.some.inj h; rw [← h]; first | rfl | (unfold tendrillaw05_PoolDoes_L30; rfl)
  · cases h
theorem tendrillaw05_PoolDoes_z36 (vs : List SV) (bs : List Blk) (q : Option (Bool)) (h : tendrillaw05_PoolDoes_P36v0 0 vs bs = some q) : q = none := by
  unfold tendrillaw05_PoolDoes_P36v0 at h; split at h
  · have h := Option.some.inj h; rw [← h]; first | rfl | (unfold tendrillaw05_PoolDoes_L36; rfl)
  · cases h
theorem tendrillaw05_PoolDoes_z36x1 (vs : List SV) (bs : List Blk) (q : Option (Bool)) (h : tendrillaw05_PoolDoes_P36v1 0 vs bs = some q) : q = none := by
  unfold tendrillaw05_PoolDoes_P36v1 at h; split at h
  · have h := Option.some.inj h; rw [← h]; first | rfl | (unfold tendrillaw05_PoolDoes_L36x1; rfl)
  · cases h
theorem tendrillaw05_PoolDoes_z36x2 (vs : List SV) (bs : List Blk) (q : Option (Bool)) (h : tendrillaw05_PoolDoes_P36v2 0 vs bs = some q) : q = none := by
  unfold tendrillaw05_PoolDoes_P36v2 at h; split at h
  · have h := Option.some.inj h; rw [← h]; first | rfl | (unfold tendrillaw05_PoolDoes_L36x2; rfl)
  · cases h
theorem tendrillaw05_PoolDoes_z46 (vs : List SV) (bs : List Blk) (q : Option (Bool)) (h : tendrillaw05_PoolDoes_P46v0 0 vs bs = some q) : q = none := by
  unfold tendrillaw05_PoolDoes_P46v0 at h; split at h
  · have h := Option.some.inj h; rw [← h]; first | rfl | (unfold tendrillaw05_PoolDoes_L46; rfl)
  · cases h
theorem tendrillaw05_PoolDoes_z46x1 (vs : List SV) (bs : List Blk) (q : Option (Bool)) (h : tendrillaw05_PoolDoes_P46v1 0 vs bs = some q) : q = none := by
  unfold tendrillaw05_PoolDoes_P46v1 at h; split at h
  · have h := Option.some.inj h; rw [← h]; first | rfl | (unfold tendrillaw05_PoolDoes_L46x1; rfl)
  · cases h
theorem tendrillaw05_PoolDoes_z46x2 (vs : List SV) (bs : List Blk) (q : Option (Bool)) (h : tendrillaw05_PoolDoes_P46v2 0 vs bs = some q) : q = none := by
  unfold tendrillaw05_PoolDoes_P46v2 at h; split at h
  · have h := Option.some.inj h; rw [← h]; first | rfl | (unfold tendrillaw05_PoolDoes_L46x2; rfl)
  · cases h
theorem tendrillaw05_PoolDoes_Λ0 (L : Nat) (vs : List SV) (bs : List Blk) : tendrillaw05_PoolDoes_Λ 0 L vs bs = none := by
  unfold tendrillaw05_PoolDoes_Λ
  split
  · unfold tendrillaw05_PoolDoes_P30
    split
    · rename_i q hq; exact tendrillaw05_PoolDoes_z30 _ _ q hq
    rfl
  split
  · unfold tendrillaw05_PoolDoes_P36
    split
    · rename_i q hq; exact tendrillaw05_PoolDoes_z36 _ _ q hq
    split
    · rename_i q hq; exact tendrillaw05_PoolDoes_z36x1 _ _ q hq
    split
    · rename_i q hq; exact tendrillaw05_PoolDoes_z36x2 _ _ q hq
    rfl
  split
  · unfold tendrillaw05_PoolDoes_P46
    split
    · rename_i q hq; exact tendrillaw05_PoolDoes_z46 _ _ q hq
    split
    · rename_i q hq; exact tendrillaw05_PoolDoes_z46x1 _ _ q hq
    split
    · rename_i q hq; exact tendrillaw05_PoolDoes_z46x2 _ _ q hq
    rfl
  rfl
set_option maxRecDepth 100000 in
theorem tendrillaw05_PoolDoes_run (K : Nat) (x : Tup [⟨true, (.pair (.sl .int) (.pair (.sl .int) (.pair (.sl .int) (.sl .int))))⟩, ⟨false, .int⟩, ⟨false, .int⟩, ⟨false, .int⟩]) : (pxFn Try.prog (lkΓ [(9, tendrillaw05_live_S), (10, tendrilref05_Few_S), (11, tendrilref05_Copy_S), (12, pool_Take_S), (13, tendrilref05_Take_S), (14, pool_Retire_S), (15, tendrilref05_Retire_S), (16, pool_Reclaim_S), (17, tendrilref05_Reclaim_S), (18, tendrilref05_Same_S)]) [(46, [4, 9, 24, 26, 110, 111, 112, 132, 133]), (36, [4, 9, 24, 26, 110, 111, 112, 118, 119]), (30, [4, 9, 24, 110, 111, 112])] Try.f3 (bodyOf Try.f3) false [⟨false, .bool⟩] (encTup [⟨true, (.pair (.sl .int) (.pair (.sl .int) (.pair (.sl .int) (.sl .int))))⟩, ⟨false, .int⟩, ⟨false, .int⟩, ⟨false, .int⟩] x)).run (tendrillaw05_PoolDoes_Λ K) = tendrillaw05_PoolDoes_K K x := by kernel_rfl
theorem tendrillaw05_PoolDoes_ok : SigOk Try.prog 3 tendrillaw05_PoolDoes_S ∧ Bodied Try.prog 3 :=
  ⟨fn_sound (s := tendrillaw05_PoolDoes_S) (T := [(46, [4, 9, 24, 26, 110, 111, 112, 132, 133]), (36, [4, 9, 24, 26, 110, 111, 112, 118, 119]), (30, [4, 9, 24, 110, 111, 112])]) (Λ := tendrillaw05_PoolDoes_Λ) 2000000 Try.func3 (c := bodyOf Try.f3) (by kernel_rfl) (by kernel_rfl) (lkΓ_cons (g := 9) (s0 := tendrillaw05_live_S) tendrillaw05_live_ok (lkΓ_cons (g := 10) (s0 := tendrilref05_Few_S) tendrilref05_Few_ok (lkΓ_cons (g := 11) (s0 := tendrilref05_Copy_S) tendrilref05_Copy_ok (lkΓ_cons (g := 12) (s0 := pool_Take_S) pool_Take_ok (lkΓ_cons (g := 13) (s0 := tendrilref05_Take_S) tendrilref05_Take_ok (lkΓ_cons (g := 14) (s0 := pool_Retire_S) pool_Retire_ok (lkΓ_cons (g := 15) (s0 := tendrilref05_Retire_S) tendrilref05_Retire_ok (lkΓ_cons (g := 16) (s0 := pool_Reclaim_S) pool_Reclaim_ok (lkΓ_cons (g := 17) (s0 := tendrilref05_Reclaim_S) tendrilref05_Reclaim_ok (lkΓ_cons (g := 18) (s0 := tendrilref05_Same_S) tendrilref05_Same_ok lkΓ_nil)))))))))) (by decide +kernel) (by decide +kernel) tendrillaw05_PoolDoes_Λ0 tendrillaw05_PoolDoes_cuts (fun x => tendrillaw05_PoolDoes_run 2000000 x), bodied_of Try.func3 (by decide +kernel) (by decide +kernel)⟩

/-! tendril/tendrillaw05.PoolOnce -/
mutual
def tendrillaw05_PoolOnce_L18 : Nat → (List Int) → (Int) → (Int) → (List Int) → (List Int) → (List Int) → (List Int) → (List Int) → Option (Bool)
  | 0, _, _, _, _, _, _, _, _ => none
  | k + 1, p0, p1, p2, p3, p4, p5, p6, p7 =>
    bif Decidable.decide (p2 < p1) then
      bif Decidable.decide ((0 : Int) ≤ p2) then
        bif Decidable.decide (p2 < (↑p0.length : Int)) then
          (pool_Take ((p4, p5, p6, p7))).bind fun r2 =>
          bif r2.snd.2 == (0 : Int) then
            tendrillaw05_PoolOnce_L30 k (p2) (p0.getD p2.toNat (0 : Int)) (r2.snd.1) (p0) (p1) (p2) ((↑p3.length : Int)) ((0 : Int)) (p3) (r2.fst.1) (r2.fst.snd.1) (r2.fst.snd.snd.1) (r2.fst.snd.snd.2)
          else
            bif Decidable.decide ((0 : Int) < (↑p3.length : Int)) then
              bif Decidable.decide ((0 : Int) ≤ p0.getD p2.toNat (0 : Int)) then
                bif Decidable.decide ((↑p3.length : Int) = (0 : Int)) then
                  none
                else
                  bif Decidable.decide ((0 : Int) ≤ (p0.getD p2.toNat (0 : Int)).tmod (↑p3.length : Int)) then
                    bif Decidable.decide ((p0.getD p2.toNat (0 : Int)).tmod (↑p3.length : Int) < (↑p3.length : Int)) then
                      (pool_Retire (((p4, p5, p6, p7), p3.getD ((p0.getD p2.toNat (0 : Int)).tmod (↑p3.length : Int)).toNat (0 : Int), p2))).bind fun r3 =>
                      bif r3.2 == (0 : Int) then
                        bif Go.bits Go.BinOp.and Go.IntKind.i64 (p0.getD p2.toNat (0 : Int)) (1 : Int) == (0 : Int) then
                          (pool_Reclaim (((r3.fst.1, r3.fst.snd.1, r3.fst.snd.snd.1, r3.fst.snd.snd.2), p2))).bind fun r4 =>
                          tendrillaw05_PoolOnce_L18 k (p0) (p1) (Go.RowKit.wrap64 (p2 + (1 : Int))) (p3) (r4.fst.1) (r4.fst.snd.1) (r4.fst.snd.snd.1) (r4.fst.snd.snd.2)
                        else
                          tendrillaw05_PoolOnce_L18 k (p0) (p1) (Go.RowKit.wrap64 (p2 + (1 : Int))) (p3) (r3.fst.1) (r3.fst.snd.1) (r3.fst.snd.snd.1) (r3.fst.snd.snd.2)
                      else
                        bif Go.bits Go.BinOp.and Go.IntKind.i64 (p0.getD p2.toNat (0 : Int)) (1 : Int) == (0 : Int) then
                          (pool_Reclaim (((p4, p5, p6, p7), p2))).bind fun r5 =>
                          tendrillaw05_PoolOnce_L18 k (p0) (p1) (Go.RowKit.wrap64 (p2 + (1 : Int))) (p3) (r5.fst.1) (r5.fst.snd.1) (r5.fst.snd.snd.1) (r5.fst.snd.snd.2)
                        else
                          tendrillaw05_PoolOnce_L18 k (p0) (p1) (Go.RowKit.wrap64 (p2 + (1 : Int))) (p3) (p4) (p5) (p6) (p7)
                    else
                      none
                  else
                    none
              else
                bif Go.bits Go.BinOp.and Go.IntKind.i64 (p0.getD p2.toNat (0 : Int)) (1 : Int) == (0 : Int) then
                  (pool_Reclaim (((p4, p5, p6, p7), p2))).bind fun r6 =>
                  tendrillaw05_PoolOnce_L18 k (p0) (p1) (Go.RowKit.wrap64 (p2 + (1 : Int))) (p3) (r6.fst.1) (r6.fst.snd.1) (r6.fst.snd.snd.1) (r6.fst.snd.snd.2)
                else
                  tendrillaw05_PoolOnce_L18 k (p0) (p1) (Go.RowKit.wrap64 (p2 + (1 : Int))) (p3) (p4) (p5) (p6) (p7)
            else
              bif Go.bits Go.BinOp.and Go.IntKind.i64 (p0.getD p2.toNat (0 : Int)) (1 : Int) == (0 : Int) then
                (pool_Reclaim (((p4, p5, p6, p7), p2))).bind fun r7 =>
                tendrillaw05_PoolOnce_L18 k (p0) (p1) (Go.RowKit.wrap64 (p2 + (1 : Int))) (p3) (r7.fst.1) (r7.fst.snd.1) (r7.fst.snd.snd.1) (r7.fst.snd.snd.2)
              else
                tendrillaw05_PoolOnce_L18 k (p0) (p1) (Go.RowKit.wrap64 (p2 + (1 : Int))) (p3) (p4) (p5) (p6) (p7)
        else
          none
      else
        none
    else
      some (Bool.true)
def tendrillaw05_PoolOnce_L30 : Nat → (Int) → (Int) → (Int) → (List Int) → (Int) → (Int) → (Int) → (Int) → (List Int) → (List Int) → (List Int) → (List Int) → (List Int) → Option (Bool)
  | 0, _, _, _, _, _, _, _, _, _, _, _, _, _ => none
  | k + 1, p0, p1, p2, p3, p4, p5, p6, p7, p8, p9, p10, p11, p12 =>
    bif Decidable.decide (p7 < p6) then
      bif Decidable.decide ((0 : Int) ≤ p7) then
        bif Decidable.decide (p7 < (↑p8.length : Int)) then
          bif p8.getD p7.toNat (0 : Int) == p2 then
            some (Bool.false)
          else
            tendrillaw05_PoolOnce_L30 k (p0) (p1) (p2) (p3) (p4) (p5) (p6) (Go.RowKit.wrap64 (p7 + (1 : Int))) (p8) (p9) (p10) (p11) (p12)
        else
          none
      else
        none
    else
      bif Decidable.decide (p8.length + [p2].length ≤ (1000000 : Nat)) then
        bif Decidable.decide ((0 : Int) < (↑(p8 ++ [p2]).length : Int)) then
          bif Decidable.decide ((0 : Int) ≤ p1) then
            bif Decidable.decide ((↑(p8 ++ [p2]).length : Int) = (0 : Int)) then
              none
            else
              bif Decidable.decide ((0 : Int) ≤ p1.tmod (↑(p8 ++ [p2]).length : Int)) then
                bif Decidable.decide (p1.tmod (↑(p8 ++ [p2]).length : Int) < (↑(p8 ++ [p2]).length : Int)) then
                  (pool_Retire (((p9, p10, p11, p12), (p8 ++ [p2]).getD (p1.tmod (↑(p8 ++ [p2]).length : Int)).toNat (0 : Int), p0))).bind fun r8 =>
                  bif r8.2 == (0 : Int) then
                    bif Go.bits Go.BinOp.and Go.IntKind.i64 p1 (1 : Int) == (0 : Int) then
                      (pool_Reclaim (((r8.fst.1, r8.fst.snd.1, r8.fst.snd.snd.1, r8.fst.snd.snd.2), p0))).bind fun r9 =>
                      tendrillaw05_PoolOnce_L18 k (p3) (p4) (Go.RowKit.wrap64 (p5 + (1 : Int))) (p8 ++ [p2]) (r9.fst.1) (r9.fst.snd.1) (r9.fst.snd.snd.1) (r9.fst.snd.snd.2)
                    else
                      tendrillaw05_PoolOnce_L18 k (p3) (p4) (Go.RowKit.wrap64 (p5 + (1 : Int))) (p8 ++ [p2]) (r8.fst.1) (r8.fst.snd.1) (r8.fst.snd.snd.1) (r8.fst.snd.snd.2)
                  else
                    bif Go.bits Go.BinOp.and Go.IntKind.i64 p1 (1 : Int) == (0 : Int) then
                      (pool_Reclaim (((p9, p10, p11, p12), p0))).bind fun r10 =>
                      tendrillaw05_PoolOnce_L18 k (p3) (p4) (Go.RowKit.wrap64 (p5 + (1 : Int))) (p8 ++ [p2]) (r10.fst.1) (r10.fst.snd.1) (r10.fst.snd.snd.1) (r10.fst.snd.snd.2)
                    else
                      tendrillaw05_PoolOnce_L18 k (p3) (p4) (Go.RowKit.wrap64 (p5 + (1 : Int))) (p8 ++ [p2]) (p9) (p10) (p11) (p12)
                else
                  none
              else
                none
          else
            bif Go.bits Go.BinOp.and Go.IntKind.i64 p1 (1 : Int) == (0 : Int) then
              (pool_Reclaim (((p9, p10, p11, p12), p0))).bind fun r11 =>
              tendrillaw05_PoolOnce_L18 k (p3) (p4) (Go.RowKit.wrap64 (p5 + (1 : Int))) (p8 ++ [p2]) (r11.fst.1) (r11.fst.snd.1) (r11.fst.snd.snd.1) (r11.fst.snd.snd.2)
            else
              tendrillaw05_PoolOnce_L18 k (p3) (p4) (Go.RowKit.wrap64 (p5 + (1 : Int))) (p8 ++ [p2]) (p9) (p10) (p11) (p12)
        else
          bif Go.bits Go.BinOp.and Go.IntKind.i64 p1 (1 : Int) == (0 : Int) then
            (pool_Reclaim (((p9, p10, p11, p12), p0))).bind fun r12 =>
            tendrillaw05_PoolOnce_L18 k (p3) (p4) (Go.RowKit.wrap64 (p5 + (1 : Int))) (p8 ++ [p2]) (r12.fst.1) (r12.fst.snd.1) (r12.fst.snd.snd.1) (r12.fst.snd.snd.2)
          else
            tendrillaw05_PoolOnce_L18 k (p3) (p4) (Go.RowKit.wrap64 (p5 + (1 : Int))) (p8 ++ [p2]) (p9) (p10) (p11) (p12)
      else
        none
end
def tendrillaw05_PoolOnce_P18v0 (k : Nat) (vs : List SV) (bs : List Blk) : Option (Option (Bool)) := match vs, bs with
  | [.val (.one (.ptr 0 0)), .val (.one (.row 1)), .val (.one (.sl .int p0)), .val (.one (.int .i64 p1)), .val (.one (.int .i64 p2))], [.box [(.row 2), (.row 3), (.row 4), (.row 5)], .row .int p3, .row .int p4, .row .int p5, .row .int p6, .row .int p7] => some (tendrillaw05_PoolOnce_L18 k p0 p1 p2 p3 p4 p5 p6 p7)
  | _, _ => none
def tendrillaw05_PoolOnce_P30v0 (k : Nat) (vs : List SV) (bs : List Blk) : Option (Option (Bool)) := match vs, bs with
  | [.val (.one (.ptr 0 0)), .val (.one (.row 1)), .val (.one (.int .i64 p0)), .val (.one (.int .i64 p1)), .val (.one (.int .i64 p2)), .val (.one (.sl .int p3)), .val (.one (.int .i64 p4)), .val (.one (.int .i64 p5)), .val (.one (.row 1)), .val (.one (.int .i64 p6)), .val (.one (.int .i64 p7))], [.box [(.row 2), (.row 3), (.row 4), (.row 5)], .row .int p8, .row .int p9, .row .int p10, .row .int p11, .row .int p12] => some (tendrillaw05_PoolOnce_L30 k p0 p1 p2 p3 p4 p5 p6 p7 p8 p9 p10 p11 p12)
  | _, _ => none
def tendrillaw05_PoolOnce_P18 (k : Nat) (vs : List SV) (bs : List Blk) : Option (Bool) := match tendrillaw05_PoolOnce_P18v0 k vs bs with | some r => r | none => none
def tendrillaw05_PoolOnce_P30 (k : Nat) (vs : List SV) (bs : List Blk) : Option (Bool) := match tendrillaw05_PoolOnce_P30v0 k vs bs with | some r => r | none => none
def tendrillaw05_PoolOnce_Λ (k L : Nat) (vs : List SV) (bs : List Blk) : Option (Bool) := match Nat.beq L 18 with | true => tendrillaw05_PoolOnce_P18 k vs bs | false => match Nat.beq L 30 with | true => tendrillaw05_PoolOnce_P30 k vs bs | false => none
def tendrillaw05_PoolOnce_K (K : Nat) (x : Int × List Int) : Option (Bool) :=
  (tendrillaw05_live (())).bind fun r0 =>
  bif !r0 then
    some (Bool.false)
  else
    (pool_New (x.1)).bind fun r1 =>
    bif r1.2 != (0 : Int) then
      some (Bool.true)
    else
      bif Decidable.decide ((60 : Int) < (↑(List.length x.2) : Int)) then
        some (Bool.true)
      else
        tendrillaw05_PoolOnce_L18 K (x.2) ((↑(List.length x.2) : Int)) ((0 : Int)) ([]) (r1.fst.1) (r1.fst.snd.1) (r1.fst.snd.snd.1) (r1.fst.snd.snd.2)
def tendrillaw05_PoolOnce (x : Int × (List Int)) : Option (Bool) := tendrillaw05_PoolOnce_K 2000000 x
def tendrillaw05_PoolOnce_S : Sig := ⟨[⟨false, .int⟩, ⟨false, (.sl .int)⟩], [⟨false, .bool⟩], false, tendrillaw05_PoolOnce⟩
noncomputable def tendrillaw05_PoolOnce_C : List (Cut (Tup [⟨false, .bool⟩])) := cuts Try.prog (lkΓ [(9, tendrillaw05_live_S), (12, pool_Take_S), (14, pool_Retire_S), (16, pool_Reclaim_S), (19, pool_New_S)]) Try.f4.ntmps [(30, [5, 7, 8, 9, 11, 31, 32, 33, 47, 48, 49]), (18, [5, 7, 31, 32, 33])] (bodyOf Try.f4) (κ0 Try.prog Try.f4 false [⟨false, .bool⟩])
set_option maxRecDepth 100000 in
theorem tendrillaw05_PoolOnce_c18 (k : Nat) (p0 : List Int) (p1 : Int) (p2 : Int) (p3 : List Int) (p4 : List Int) (p5 : List Int) (p6 : List Int) (p7 : List Int) : ((nthC tendrillaw05_PoolOnce_C 0).g (mkSt [5, 7, 31, 32, 33] [.val (.one (.ptr 0 0)), .val (.one (.row 1)), .val (.one (.sl .int p0)), .val (.one (.int .i64 p1)), .val (.one (.int .i64 p2))] [.box [(.row 2), (.row 3), (.row 4), (.row 5)], .row .int p3, .row .int p4, .row .int p5, .row .int p6, .row .int p7])).run (tendrillaw05_PoolOnce_Λ k) = tendrillaw05_PoolOnce_L18 (k + 1) p0 p1 p2 p3 p4 p5 p6 p7 := by kernel_rfl
theorem tendrillaw05_PoolOnce_e18 (k : Nat) (vs : List SV) (bs : List Blk) (r : Bool) (h : tendrillaw05_PoolOnce_P18v0 (k + 1) vs bs = some (some r)) : ((nthC tendrillaw05_PoolOnce_C 0).g (mkSt [5, 7, 31, 32, 33] vs bs)).run (tendrillaw05_PoolOnce_Λ k) = some r := by
  unfold tendrillaw05_PoolOnce_P18v0 at h
  split at h
  · exact (tendrillaw05_PoolOnce_c18 k _ _ _ _ _ _ _ _).trans (Option.some.inj h)
  · cases h
set_option maxRecDepth 100000 in
theorem tendrillaw05_PoolOnce_c30 (k : Nat) (p0 : Int) (p1 : Int) (p2 : Int) (p3 : List Int) (p4 : Int) (p5 : Int) (p6 : Int) (p7 : Int) (p8 : List Int) (p9 : List Int) (p10 : List Int) (p11 : List Int) (p12 : List Int) : ((nthC tendrillaw05_PoolOnce_C 1).g (mkSt [5, 7, 8, 9, 11, 31, 32, 33, 47, 48, 49] [.val (.one (.ptr 0 0)), .val (.one (.row 1)), .val (.one (.int .i64 p0)), .val (.one (.int .i64 p1)), .val (.one (.int .i64 p2)), .val (.one (.sl .int p3)), .val (.one (.int .i64 p4)), .val (.one (.int .i64 p5)), .val (.one (.row 1)), .val (.one (.int .i64 p6)), .val (.one (.int .i64 p7))] [.box [(.row 2), (.row 3), (.row 4), (.row 5)], .row .int p8, .row .int p9, .row .int p10, .row .int p11, .row .int p12])).run (tendrillaw05_PoolOnce_Λ k) = tendrillaw05_PoolOnce_L30 (k + 1) p0 p1 p2 p3 p4 p5 p6 p7 p8 p9 p10 p11 p12 := by kernel_rfl
theorem tendrillaw05_PoolOnce_e30 (k : Nat) (vs : List SV) (bs : List Blk) (r : Bool) (h : tendrillaw05_PoolOnce_P30v0 (k + 1) vs bs = some (some r)) : ((nthC tendrillaw05_PoolOnce_C 1).g (mkSt [5, 7, 8, 9, 11, 31, 32, 33, 47, 48, 49] vs bs)).run (tendrillaw05_PoolOnce_Λ k) = some r := by
  unfold tendrillaw05_PoolOnce_P30v0 at h
  split at h
  · exact (tendrillaw05_PoolOnce_c30 k _ _ _ _ _ _ _ _ _ _ _ _ _).trans (Option.some.inj h)
  · cases h
theorem tendrillaw05_PoolOnce_d18 : CutOk tendrillaw05_PoolOnce_Λ (nthC tendrillaw05_PoolOnce_C 0) := by
  refine cutOk_of (L := 18) (live := [5, 7, 31, 32, 33]) (by kernel_rfl) (by kernel_rfl) fun k vs bs r h => ?_
  change tendrillaw05_PoolOnce_P18 (k + 1) vs bs = some r at h
  unfold tendrillaw05_PoolOnce_P18 at h
  split at h
  · rename_i q hq
    exact tendrillaw05_PoolOnce_e18 k vs bs r (hq.trans (congrArg some h))
  cases h
theorem tendrillaw05_PoolOnce_d30 : CutOk tendrillaw05_PoolOnce_Λ (nthC tendrillaw05_PoolOnce_C 1) := by
  refine cutOk_of (L := 30) (live := [5, 7, 8, 9, 11, 31, 32, 33, 47, 48, 49]) (by kernel_rfl) (by kernel_rfl) fun k vs bs r h => ?_
  change tendrillaw05_PoolOnce_P30 (k + 1) vs bs = some r at h
  unfold tendrillaw05_PoolOnce_P30 at h
  split at h
  · rename_i q hq
    exact tendrillaw05_PoolOnce_e30 k vs bs r (hq.trans (congrArg some h))
  cases h
theorem tendrillaw05_PoolOnce_cuts : ∀ p ∈ cuts Try.prog (lkΓ [(9, tendrillaw05_live_S), (12, pool_Take_S), (14, pool_Retire_S), (16, pool_Reclaim_S), (19, pool_New_S)]) Try.f4.ntmps [(30, [5, 7, 8, 9, 11, 31, 32, 33, 47, 48, 49]), (18, [5, 7, 31, 32, 33])] (bodyOf Try.f4) (κ0 Try.prog Try.f4 false [⟨false, .bool⟩]), CutOk tendrillaw05_PoolOnce_Λ p := cutsOk (l := tendrillaw05_PoolOnce_C) (n := 2) (by kernel_rfl) fun
  | 0, _ => tendrillaw05_PoolOnce_d18
  | 1, _ => tendrillaw05_PoolOnce_d30
  | k + 2, h => absurd h (by omega)
theorem tendrillaw05_PoolOnce_z18 (vs : List SV) (bs : List Blk) (q : Option (Bool)) (h : tendrillaw05_PoolOnce_P18v0 0 vs bs = some q) : q = none := by
  unfold tendrillaw05_PoolOnce_P18v0 at h; split at h
  · have h := Option.some.inj h; rw [← h]; first | rfl | (unfold tendrillaw05_PoolOnce_L18; rfl)
  · cases h
theorem tendrillaw05_PoolOnce_z30 (vs : List SV) (bs : List Blk) (q : Option (Bool)) (h : tendrillaw05_PoolOnce_P30v0 0 vs bs = some q) : q = none := by
  unfold tendrillaw05_PoolOnce_P30v0 at h; split at h
  · have h := Option.some.inj h; rw [← h]; first | rfl | (unfold tendrillaw05_PoolOnce_L30; rfl)
  · cases h
theorem tendrillaw05_PoolOnce_Λ0 (L : Nat) (vs : List SV) (bs : List Blk) : tendrillaw05_PoolOnce_Λ 0 L vs bs = none := by
  unfold tendrillaw05_PoolOnce_Λ
  split
  · unfold tendrillaw05_PoolOnce_P18
    split
    · rename_i q hq; exact tendrillaw05_PoolOnce_z18 _ _ q hq
    rfl
  split
  · unfold tendrillaw05_PoolOnce_P30
    split
    · rename_i q hq; exact tendrillaw05_PoolOnce_z30 _ _ q hq
    rfl
  rfl
set_option maxRecDepth 100000 in
theorem tendrillaw05_PoolOnce_run (K : Nat) (x : Tup [⟨false, .int⟩, ⟨false, (.sl .int)⟩]) : (pxFn Try.prog (lkΓ [(9, tendrillaw05_live_S), (12, pool_Take_S), (14, pool_Retire_S), (16, pool_Reclaim_S), (19, pool_New_S)]) [(30, [5, 7, 8, 9, 11, 31, 32, 33, 47, 48, 49]), (18, [5, 7, 31, 32, 33])] Try.f4 (bodyOf Try.f4) false [⟨false, .bool⟩] (encTup [⟨false, .int⟩, ⟨false, (.sl .int)⟩] x)).run (tendrillaw05_PoolOnce_Λ K) = tendrillaw05_PoolOnce_K K x := by kernel_rfl
theorem tendrillaw05_PoolOnce_ok : SigOk Try.prog 4 tendrillaw05_PoolOnce_S ∧ Bodied Try.prog 4 :=
  ⟨fn_sound (s := tendrillaw05_PoolOnce_S) (T := [(30, [5, 7, 8, 9, 11, 31, 32, 33, 47, 48, 49]), (18, [5, 7, 31, 32, 33])]) (Λ := tendrillaw05_PoolOnce_Λ) 2000000 Try.func4 (c := bodyOf Try.f4) (by kernel_rfl) (by kernel_rfl) (lkΓ_cons (g := 9) (s0 := tendrillaw05_live_S) tendrillaw05_live_ok (lkΓ_cons (g := 12) (s0 := pool_Take_S) pool_Take_ok (lkΓ_cons (g := 14) (s0 := pool_Retire_S) pool_Retire_ok (lkΓ_cons (g := 16) (s0 := pool_Reclaim_S) pool_Reclaim_ok (lkΓ_cons (g := 19) (s0 := pool_New_S) pool_New_ok lkΓ_nil))))) (by decide +kernel) (by decide +kernel) tendrillaw05_PoolOnce_Λ0 tendrillaw05_PoolOnce_cuts (fun x => tendrillaw05_PoolOnce_run 2000000 x), bodied_of Try.func4 (by decide +kernel) (by decide +kernel)⟩

/-! tendril/tendrillaw05.PoolStale -/
def tendrillaw05_PoolStale (x : (List Int × List Int × List Int × List Int) × Int × Int × Int) : Option (Bool) :=
  (tendrillaw05_live (())).bind fun r0 =>
  bif !r0 then
    some (Bool.false)
  else
    (tendrilref05_Few ((x.fst.1, x.fst.snd.1, x.fst.snd.snd.1, x.fst.snd.snd.2))).bind fun r1 =>
    bif !r1 then
      some (Bool.true)
    else
      (pool_Check ((x.fst.1, x.fst.snd.1, x.fst.snd.snd.1, x.fst.snd.snd.2))).bind fun r2 =>
      bif r2 != (0 : Int) then
        some (Bool.true)
      else
        (tag_Unpack (x.snd.1)).bind fun r3 =>
        (pool_Retire (((x.fst.1, x.fst.snd.1, x.fst.snd.snd.1, x.fst.snd.snd.2), x.snd.1, x.snd.snd.1))).bind fun r4 =>
        bif r3.snd.2 != (0 : Int) then
          bif r4.2 == (1 : Int) then
            some ((↑(List.length r4.fst.1) : Int) == (0 : Int))
          else
            some (Bool.false)
        else
          bif Decidable.decide ((↑(List.length x.fst.1) : Int) ≤ r3.1) then
            bif r4.2 == (1 : Int) then
              some ((↑(List.length r4.fst.1) : Int) == (0 : Int))
            else
              some (Bool.false)
          else
            bif Decidable.decide ((0 : Int) ≤ r3.1) then
              bif Decidable.decide (r3.1 < (↑(List.length x.fst.1) : Int)) then
                bif List.getD x.fst.1 (Int.toNat r3.1) (0 : Int) == r3.snd.1 then
                  bif Decidable.decide ((0 : Int) ≤ r3.1) then
                    bif Decidable.decide (r3.1 < (↑(List.length x.fst.snd.1) : Int)) then
                      bif !(r4.2 == (0 : Int)) == (List.getD x.fst.snd.1 (Int.toNat r3.1) (0 : Int) == (1 : Int)) then
                        some (Bool.false)
                      else
                        bif r4.2 != (0 : Int) then
                          some (r4.2 == (2 : Int))
                        else
                          (pool_Reclaim (((r4.fst.1, r4.fst.snd.1, r4.fst.snd.snd.1, r4.fst.snd.snd.2), x.snd.snd.2))).bind fun r5 =>
                          (pool_Retire (((r4.fst.1, r4.fst.snd.1, r4.fst.snd.snd.1, r4.fst.snd.snd.2), x.snd.1, x.snd.snd.1))).bind fun r6 =>
                          (pool_Retire (((r5.fst.1, r5.fst.snd.1, r5.fst.snd.snd.1, r5.fst.snd.snd.2), x.snd.1, x.snd.snd.1))).bind fun r7 =>
                          bif r6.2 == (2 : Int) then
                            some (r7.2 == (2 : Int))
                          else
                            some (Bool.false)
                    else
                      none
                  else
                    none
                else
                  bif !(r4.2 == (0 : Int)) == Bool.false then
                    some (Bool.false)
                  else
                    bif r4.2 != (0 : Int) then
                      some (r4.2 == (2 : Int))
                    else
                      (pool_Reclaim (((r4.fst.1, r4.fst.snd.1, r4.fst.snd.snd.1, r4.fst.snd.snd.2), x.snd.snd.2))).bind fun r8 =>
                      (pool_Retire (((r4.fst.1, r4.fst.snd.1, r4.fst.snd.snd.1, r4.fst.snd.snd.2), x.snd.1, x.snd.snd.1))).bind fun r9 =>
                      (pool_Retire (((r8.fst.1, r8.fst.snd.1, r8.fst.snd.snd.1, r8.fst.snd.snd.2), x.snd.1, x.snd.snd.1))).bind fun r10 =>
                      bif r9.2 == (2 : Int) then
                        some (r10.2 == (2 : Int))
                      else
                        some (Bool.false)
              else
                none
            else
              none
def tendrillaw05_PoolStale_S : Sig := ⟨[⟨true, (.pair (.sl .int) (.pair (.sl .int) (.pair (.sl .int) (.sl .int))))⟩, ⟨false, .int⟩, ⟨false, .int⟩, ⟨false, .int⟩], [⟨false, .bool⟩], false, tendrillaw05_PoolStale⟩
set_option maxRecDepth 100000 in
theorem tendrillaw05_PoolStale_run (x : Tup [⟨true, (.pair (.sl .int) (.pair (.sl .int) (.pair (.sl .int) (.sl .int))))⟩, ⟨false, .int⟩, ⟨false, .int⟩, ⟨false, .int⟩]) : (pxFn Try.prog (lkΓ [(9, tendrillaw05_live_S), (10, tendrilref05_Few_S), (14, pool_Retire_S), (16, pool_Reclaim_S), (20, pool_Check_S), (21, tag_Unpack_S)]) [] Try.f5 (bodyOf Try.f5) false [⟨false, .bool⟩] (encTup [⟨true, (.pair (.sl .int) (.pair (.sl .int) (.pair (.sl .int) (.sl .int))))⟩, ⟨false, .int⟩, ⟨false, .int⟩, ⟨false, .int⟩] x)).run (fun _ _ _ => none) = tendrillaw05_PoolStale x := by kernel_rfl
theorem tendrillaw05_PoolStale_cuts : ∀ p ∈ cuts Try.prog (lkΓ [(9, tendrillaw05_live_S), (10, tendrilref05_Few_S), (14, pool_Retire_S), (16, pool_Reclaim_S), (20, pool_Check_S), (21, tag_Unpack_S)]) Try.f5.ntmps [] (bodyOf Try.f5) (κ0 Try.prog Try.f5 false [⟨false, .bool⟩]), CutOk (fun _ _ _ _ => none) p := cutsNil (by kernel_rfl)
theorem tendrillaw05_PoolStale_ok : SigOk Try.prog 5 tendrillaw05_PoolStale_S ∧ Bodied Try.prog 5 :=
  ⟨fn_sound (s := tendrillaw05_PoolStale_S) (T := []) (Λ := fun _ _ _ _ => none) 0 Try.func5 (c := bodyOf Try.f5) (by kernel_rfl) (by kernel_rfl) (lkΓ_cons (g := 9) (s0 := tendrillaw05_live_S) tendrillaw05_live_ok (lkΓ_cons (g := 10) (s0 := tendrilref05_Few_S) tendrilref05_Few_ok (lkΓ_cons (g := 14) (s0 := pool_Retire_S) pool_Retire_ok (lkΓ_cons (g := 16) (s0 := pool_Reclaim_S) pool_Reclaim_ok (lkΓ_cons (g := 20) (s0 := pool_Check_S) pool_Check_ok (lkΓ_cons (g := 21) (s0 := tag_Unpack_S) tag_Unpack_ok lkΓ_nil)))))) (by decide +kernel) (by decide +kernel) (fun _ _ _ => rfl) tendrillaw05_PoolStale_cuts (fun x => tendrillaw05_PoolStale_run  x), bodied_of Try.func5 (by decide +kernel) (by decide +kernel)⟩

/-! tendril/tendrillaw05.PoolReclaims -/
def tendrillaw05_PoolReclaims_L22 : Nat → (Int) → (Int) → (Int) → (Int) → (Int) → (List Int) → (List Int) → (List Int) → (List Int) → (List Int) → (List Int) → (List Int) → (List Int) → Option (Bool)
  | 0, _, _, _, _, _, _, _, _, _, _, _, _, _ => none
  | k + 1, p0, p1, p2, p3, p4, p5, p6, p7, p8, p9, p10, p11, p12 =>
    bif Decidable.decide (p4 < p3) then
      bif Decidable.decide ((0 : Int) ≤ p4) then
        bif Decidable.decide (p4 < (↑p10.length : Int)) then
          bif Decidable.decide ((0 : Int) ≤ p4) then
            bif Decidable.decide (p4 < (↑p6.length : Int)) then
              bif p10.getD p4.toNat (0 : Int) == p6.getD p4.toNat (0 : Int) then
                bif Decidable.decide ((0 : Int) ≤ p4) then
                  bif Decidable.decide (p4 < (↑p9.length : Int)) then
                    bif Decidable.decide ((0 : Int) ≤ p4) then
                      bif Decidable.decide (p4 < (↑p5.length : Int)) then
                        bif p9.getD p4.toNat (0 : Int) != p5.getD p4.toNat (0 : Int) then
                          some (Bool.false)
                        else
                          bif Decidable.decide ((0 : Int) ≤ p4) then
                            bif Decidable.decide (p4 < (↑p6.length : Int)) then
                              bif p6.getD p4.toNat (0 : Int) == (2 : Int) then
                                bif Decidable.decide ((0 : Int) ≤ p4) then
                                  bif Decidable.decide (p4 < (↑p7.length : Int)) then
                                    bif Decidable.decide (p7.getD p4.toNat (0 : Int) ≤ p0) then
                                      bif Decidable.decide ((0 : Int) ≤ p4) then
                                        bif Decidable.decide (p4 < (↑p5.length : Int)) then
                                          bif Decidable.decide (p5.getD p4.toNat (0 : Int) < (1099511627775 : Int)) then
                                            some (Bool.false)
                                          else
                                            tendrillaw05_PoolReclaims_L22 k (p0) (p1) (p2) (p3) (Go.RowKit.wrap64 (p4 + (1 : Int))) (p5) (p6) (p7) (p8) (p9) (p10) (p11) (p12)
                                        else
                                          none
                                      else
                                        none
                                    else
                                      tendrillaw05_PoolReclaims_L22 k (p0) (p1) (p2) (p3) (Go.RowKit.wrap64 (p4 + (1 : Int))) (p5) (p6) (p7) (p8) (p9) (p10) (p11) (p12)
                                  else
                                    none
                                else
                                  none
                              else
                                tendrillaw05_PoolReclaims_L22 k (p0) (p1) (p2) (p3) (Go.RowKit.wrap64 (p4 + (1 : Int))) (p5) (p6) (p7) (p8) (p9) (p10) (p11) (p12)
                            else
                              none
                          else
                            none
                      else
                        none
                    else
                      none
                  else
                    none
                else
                  none
              else
                bif Decidable.decide ((0 : Int) ≤ p4) then
                  bif Decidable.decide (p4 < (↑p6.length : Int)) then
                    bif p6.getD p4.toNat (0 : Int) != (2 : Int) then
                      some (Bool.false)
                    else
                      bif Decidable.decide ((0 : Int) ≤ p4) then
                        bif Decidable.decide (p4 < (↑p10.length : Int)) then
                          bif p10.getD p4.toNat (0 : Int) != (0 : Int) then
                            some (Bool.false)
                          else
                            bif Decidable.decide ((0 : Int) ≤ p4) then
                              bif Decidable.decide (p4 < (↑p7.length : Int)) then
                                bif Decidable.decide (p0 < p7.getD p4.toNat (0 : Int)) then
                                  some (Bool.false)
                                else
                                  bif Decidable.decide ((0 : Int) ≤ p4) then
                                    bif Decidable.decide (p4 < (↑p9.length : Int)) then
                                      bif Decidable.decide ((0 : Int) ≤ p4) then
                                        bif Decidable.decide (p4 < (↑p5.length : Int)) then
                                          bif p9.getD p4.toNat (0 : Int) != Go.RowKit.wrap64 (p5.getD p4.toNat (0 : Int) + (1 : Int)) then
                                            some (Bool.false)
                                          else
                                            tendrillaw05_PoolReclaims_L22 k (p0) (p1) (Go.RowKit.wrap64 (p2 + (1 : Int))) (p3) (Go.RowKit.wrap64 (p4 + (1 : Int))) (p5) (p6) (p7) (p8) (p9) (p10) (p11) (p12)
                                        else
                                          none
                                      else
                                        none
                                    else
                                      none
                                  else
                                    none
                              else
                                none
                            else
                              none
                        else
                          none
                      else
                        none
                  else
                    none
                else
                  none
            else
              none
          else
            none
        else
          none
      else
        none
    else
      bif p2 == p1 then
        (pool_Check ((p9, p10, p11, p12))).bind fun r4 =>
        some (r4 == (0 : Int))
      else
        some (Bool.false)
def tendrillaw05_PoolReclaims_P22v0 (k : Nat) (vs : List SV) (bs : List Blk) : Option (Option (Bool)) := match vs, bs with
  | [.val (.one (.int .i64 p0)), .val (.one (.ptr 0 0)), .val (.one (.ptr 1 0)), .val (.one (.int .i64 p1)), .val (.one (.int .i64 p2)), .val (.one (.int .i64 p3)), .val (.one (.int .i64 p4))], [.box [(.sl .int p5), (.sl .int p6), (.sl .int p7), (.sl .int p8)], .box [(.row 2), (.row 3), (.row 4), (.row 5)], .row .int p9, .row .int p10, .row .int p11, .row .int p12] => some (tendrillaw05_PoolReclaims_L22 k p0 p1 p2 p3 p4 p5 p6 p7 p8 p9 p10 p11 p12)
  | _, _ => none
def tendrillaw05_PoolReclaims_P22 (k : Nat) (vs : List SV) (bs : List Blk) : Option (Bool) := match tendrillaw05_PoolReclaims_P22v0 k vs bs with | some r => r | none => none
def tendrillaw05_PoolReclaims_Λ (k L : Nat) (vs : List SV) (bs : List Blk) : Option (Bool) := match Nat.beq L 22 with | true => tendrillaw05_PoolReclaims_P22 k vs bs | false => none
def tendrillaw05_PoolReclaims_K (K : Nat) (x : (List Int × List Int × List Int × List Int) × Int) : Option (Bool) :=
  (tendrillaw05_live (())).bind fun r0 =>
  bif !r0 then
    some (Bool.false)
  else
    (tendrilref05_Few ((x.fst.1, x.fst.snd.1, x.fst.snd.snd.1, x.fst.snd.snd.2))).bind fun r1 =>
    bif !r1 then
      some (Bool.true)
    else
      (pool_Check ((x.fst.1, x.fst.snd.1, x.fst.snd.snd.1, x.fst.snd.snd.2))).bind fun r2 =>
      bif r2 != (0 : Int) then
        some (Bool.true)
      else
        (pool_Reclaim (((x.fst.1, x.fst.snd.1, x.fst.snd.snd.1, x.fst.snd.snd.2), x.2))).bind fun r3 =>
        bif (↑(List.length r3.fst.1) : Int) != (↑(List.length x.fst.1) : Int) then
          some (Bool.false)
        else
          bif (↑(List.length r3.fst.snd.1) : Int) != (↑(List.length x.fst.1) : Int) then
            some (Bool.false)
          else
            bif (↑(List.length r3.fst.snd.snd.2) : Int) != Go.RowKit.wrap64 ((↑(List.length x.fst.snd.snd.2) : Int) + r3.2) then
              some (Bool.false)
            else
              tendrillaw05_PoolReclaims_L22 K (x.2) (r3.2) ((0 : Int)) ((↑(List.length x.fst.1) : Int)) ((0 : Int)) (x.fst.1) (x.fst.snd.1) (x.fst.snd.snd.1) (x.fst.snd.snd.2) (r3.fst.1) (r3.fst.snd.1) (r3.fst.snd.snd.1) (r3.fst.snd.snd.2)
def tendrillaw05_PoolReclaims (x : ((List Int) × ((List Int) × ((List Int) × (List Int)))) × Int) : Option (Bool) := tendrillaw05_PoolReclaims_K 2000000 x
def tendrillaw05_PoolReclaims_S : Sig := ⟨[⟨true, (.pair (.sl .int) (.pair (.sl .int) (.pair (.sl .int) (.sl .int))))⟩, ⟨false, .int⟩], [⟨false, .bool⟩], false, tendrillaw05_PoolReclaims⟩
noncomputable def tendrillaw05_PoolReclaims_C : List (Cut (Tup [⟨false, .bool⟩])) := cuts Try.prog (lkΓ [(9, tendrillaw05_live_S), (10, tendrilref05_Few_S), (16, pool_Reclaim_S), (20, pool_Check_S)]) Try.f6.ntmps [(22, [1, 2, 5, 6, 7, 54, 55])] (bodyOf Try.f6) (κ0 Try.prog Try.f6 false [⟨false, .bool⟩])
set_option maxRecDepth 100000 in
theorem tendrillaw05_PoolReclaims_c22 (k : Nat) (p0 : Int) (p1 : Int) (p2 : Int) (p3 : Int) (p4 : Int) (p5 : List Int) (p6 : List Int) (p7 : List Int) (p8 : List Int) (p9 : List Int) (p10 : List Int) (p11 : List Int) (p12 : List Int) : ((nthC tendrillaw05_PoolReclaims_C 0).g (mkSt [1, 2, 5, 6, 7, 54, 55] [.val (.one (.int .i64 p0)), .val (.one (.ptr 0 0)), .val (.one (.ptr 1 0)), .val (.one (.int .i64 p1)), .val (.one (.int .i64 p2)), .val (.one (.int .i64 p3)), .val (.one (.int .i64 p4))] [.box [(.sl .int p5), (.sl .int p6), (.sl .int p7), (.sl .int p8)], .box [(.row 2), (.row 3), (.row 4), (.row 5)], .row .int p9, .row .int p10, .row .int p11, .row .int p12])).run (tendrillaw05_PoolReclaims_Λ k) = tendrillaw05_PoolReclaims_L22 (k + 1) p0 p1 p2 p3 p4 p5 p6 p7 p8 p9 p10 p11 p12 := by kernel_rfl
theorem tendrillaw05_PoolReclaims_e22 (k : Nat) (vs : List SV) (bs : List Blk) (r : Bool) (h : tendrillaw05_PoolReclaims_P22v0 (k + 1) vs bs = some (some r)) : ((nthC tendrillaw05_PoolReclaims_C 0).g (mkSt [1, 2, 5, 6, 7, 54, 55] vs bs)).run (tendrillaw05_PoolReclaims_Λ k) = some r := by
  unfold tendrillaw05_PoolReclaims_P22v0 at h
  split at h
  · exact (tendrillaw05_PoolReclaims_c22 k _ _ _ _ _ _ _ _ _ _ _ _ _).trans (Option.some.inj h)
  · cases h
theorem tendrillaw05_PoolReclaims_d22 : CutOk tendrillaw05_PoolReclaims_Λ (nthC tendrillaw05_PoolReclaims_C 0) := by
  refine cutOk_of (L := 22) (live := [1, 2, 5, 6, 7, 54, 55]) (by kernel_rfl) (by kernel_rfl) fun k vs bs r h => ?_
  change tendrillaw05_PoolReclaims_P22 (k + 1) vs bs = some r at h
  unfold tendrillaw05_PoolReclaims_P22 at h
  split at h
  · rename_i q hq
    exact tendrillaw05_PoolReclaims_e22 k vs bs r (hq.trans (congrArg some h))
  cases h
theorem tendrillaw05_PoolReclaims_cuts : ∀ p ∈ cuts Try.prog (lkΓ [(9, tendrillaw05_live_S), (10, tendrilref05_Few_S), (16, pool_Reclaim_S), (20, pool_Check_S)]) Try.f6.ntmps [(22, [1, 2, 5, 6, 7, 54, 55])] (bodyOf Try.f6) (κ0 Try.prog Try.f6 false [⟨false, .bool⟩]), CutOk tendrillaw05_PoolReclaims_Λ p := cutsOk (l := tendrillaw05_PoolReclaims_C) (n := 1) (by kernel_rfl) fun
  | 0, _ => tendrillaw05_PoolReclaims_d22
  | k + 1, h => absurd h (by omega)
theorem tendrillaw05_PoolReclaims_z22 (vs : List SV) (bs : List Blk) (q : Option (Bool)) (h : tendrillaw05_PoolReclaims_P22v0 0 vs bs = some q) : q = none := by
  unfold tendrillaw05_PoolReclaims_P22v0 at h; split at h
  · have h := Option.some.inj h; rw [← h]; first | rfl | (unfold tendrillaw05_PoolReclaims_L22; rfl)
  · cases h
theorem tendrillaw05_PoolReclaims_Λ0 (L : Nat) (vs : List SV) (bs : List Blk) : tendrillaw05_PoolReclaims_Λ 0 L vs bs = none := by
  unfold tendrillaw05_PoolReclaims_Λ
  split
  · unfold tendrillaw05_PoolReclaims_P22
    split
    · rename_i q hq; exact tendrillaw05_PoolReclaims_z22 _ _ q hq
    rfl
  rfl
set_option maxRecDepth 100000 in
theorem tendrillaw05_PoolReclaims_run (K : Nat) (x : Tup [⟨true, (.pair (.sl .int) (.pair (.sl .int) (.pair (.sl .int) (.sl .int))))⟩, ⟨false, .int⟩]) : (pxFn Try.prog (lkΓ [(9, tendrillaw05_live_S), (10, tendrilref05_Few_S), (16, pool_Reclaim_S), (20, pool_Check_S)]) [(22, [1, 2, 5, 6, 7, 54, 55])] Try.f6 (bodyOf Try.f6) false [⟨false, .bool⟩] (encTup [⟨true, (.pair (.sl .int) (.pair (.sl .int) (.pair (.sl .int) (.sl .int))))⟩, ⟨false, .int⟩] x)).run (tendrillaw05_PoolReclaims_Λ K) = tendrillaw05_PoolReclaims_K K x := by kernel_rfl
theorem tendrillaw05_PoolReclaims_ok : SigOk Try.prog 6 tendrillaw05_PoolReclaims_S ∧ Bodied Try.prog 6 :=
  ⟨fn_sound (s := tendrillaw05_PoolReclaims_S) (T := [(22, [1, 2, 5, 6, 7, 54, 55])]) (Λ := tendrillaw05_PoolReclaims_Λ) 2000000 Try.func6 (c := bodyOf Try.f6) (by kernel_rfl) (by kernel_rfl) (lkΓ_cons (g := 9) (s0 := tendrillaw05_live_S) tendrillaw05_live_ok (lkΓ_cons (g := 10) (s0 := tendrilref05_Few_S) tendrilref05_Few_ok (lkΓ_cons (g := 16) (s0 := pool_Reclaim_S) pool_Reclaim_ok (lkΓ_cons (g := 20) (s0 := pool_Check_S) pool_Check_ok lkΓ_nil)))) (by decide +kernel) (by decide +kernel) tendrillaw05_PoolReclaims_Λ0 tendrillaw05_PoolReclaims_cuts (fun x => tendrillaw05_PoolReclaims_run 2000000 x), bodied_of Try.func6 (by decide +kernel) (by decide +kernel)⟩

/-! tendril/tendrilref05.New -/
mutual
def tendrilref05_New_L12 : Nat → (Int) → (Int) → (List Int) → (List Int) → (List Int) → Option ((List Int × List Int × List Int × List Int) × Int)
  | 0, _, _, _, _, _ => none
  | k + 1, p0, p1, p2, p3, p4 =>
    bif Decidable.decide (p1 < p0) then
      tendrilref05_New_L12x1 k (p0) (Go.RowKit.wrap64 (p1 + (1 : Int))) (p2) (p3) (p4) ([p1])
    else
      some (((p2, p3, p4, []), (0 : Int)))
def tendrilref05_New_L12x1 : Nat → (Int) → (Int) → (List Int) → (List Int) → (List Int) → (List Int) → Option ((List Int × List Int × List Int × List Int) × Int)
  | 0, _, _, _, _, _, _ => none
  | k + 1, p0, p1, p2, p3, p4, p5 =>
    bif Decidable.decide (p1 < p0) then
      bif Decidable.decide (p5.length + [p1].length ≤ (1000000 : Nat)) then
        tendrilref05_New_L12x1 k (p0) (Go.RowKit.wrap64 (p1 + (1 : Int))) (p2) (p3) (p4) (p5 ++ [p1])
      else
        none
    else
      some (((p2, p3, p4, p5), (0 : Int)))
end
def tendrilref05_New_P12v0 (k : Nat) (vs : List SV) (bs : List Blk) : Option (Option ((List Int × List Int × List Int × List Int) × Int)) := match vs, bs with
  | [.val (.one (.ptr 0 0)), .val (.one (.ptr 1 0)), .val (.one (.int .i64 p0)), .val (.one (.int .i64 p1))], [.box [.nil, .nil, .nil, .nil], .box [(.row 2), (.row 3), (.row 4), .nil], .row .int p2, .row .int p3, .row .int p4] => some (tendrilref05_New_L12 k p0 p1 p2 p3 p4)
  | _, _ => none
def tendrilref05_New_P12v1 (k : Nat) (vs : List SV) (bs : List Blk) : Option (Option ((List Int × List Int × List Int × List Int) × Int)) := match vs, bs with
  | [.val (.one (.ptr 0 0)), .val (.one (.ptr 1 0)), .val (.one (.int .i64 p0)), .val (.one (.int .i64 p1))], [.box [.nil, .nil, .nil, .nil], .box [(.row 2), (.row 3), (.row 4), (.row 5)], .row .int p2, .row .int p3, .row .int p4, .row .int p5] => some (tendrilref05_New_L12x1 k p0 p1 p2 p3 p4 p5)
  | _, _ => none
def tendrilref05_New_P12 (k : Nat) (vs : List SV) (bs : List Blk) : Option ((List Int × List Int × List Int × List Int) × Int) := match tendrilref05_New_P12v0 k vs bs with | some r => r | none => match tendrilref05_New_P12v1 k vs bs with | some r => r | none => none
def tendrilref05_New_Λ (k L : Nat) (vs : List SV) (bs : List Blk) : Option ((List Int × List Int × List Int × List Int) × Int) := match Nat.beq L 12 with | true => tendrilref05_New_P12 k vs bs | false => none
def tendrilref05_New_K (K : Nat) (x : Int) : Option ((List Int × List Int × List Int × List Int) × Int) :=
  bif Decidable.decide (x < (1 : Int)) then
    some ((([], [], [], []), (1 : Int)))
  else
    bif Decidable.decide ((64 : Int) < x) then
      some ((([], [], [], []), (1 : Int)))
    else
      bif Decidable.decide ((0 : Int) ≤ x) then
        bif Decidable.decide (x ≤ (1000000 : Int)) then
          bif Decidable.decide ((0 : Int) ≤ x) then
            bif Decidable.decide (x ≤ (1000000 : Int)) then
              bif Decidable.decide ((0 : Int) ≤ x) then
                bif Decidable.decide (x ≤ (1000000 : Int)) then
                  tendrilref05_New_L12 K (x) ((0 : Int)) (List.replicate (Int.toNat x) (0 : Int)) (List.replicate (Int.toNat x) (0 : Int)) (List.replicate (Int.toNat x) (0 : Int))
                else
                  none
              else
                none
            else
              none
          else
            none
        else
          none
      else
        none
def tendrilref05_New (x : Int) : Option (((List Int) × ((List Int) × ((List Int) × (List Int)))) × Int) := tendrilref05_New_K 2000000 x
def tendrilref05_New_S : Sig := ⟨[⟨false, .int⟩], [⟨true, (.pair (.sl .int) (.pair (.sl .int) (.pair (.sl .int) (.sl .int))))⟩, ⟨false, .int⟩], true, tendrilref05_New⟩
noncomputable def tendrilref05_New_C : List (Cut (Tup [⟨true, (.pair (.sl .int) (.pair (.sl .int) (.pair (.sl .int) (.sl .int))))⟩, ⟨false, .int⟩])) := cuts Try.prog (lkΓ []) Try.f22.ntmps [(12, [2, 4, 20, 21])] (bodyOf Try.f22) (κ0 Try.prog Try.f22 true [⟨true, (.pair (.sl .int) (.pair (.sl .int) (.pair (.sl .int) (.sl .int))))⟩, ⟨false, .int⟩])
set_option maxRecDepth 100000 in
theorem tendrilref05_New_c12 (k : Nat) (p0 : Int) (p1 : Int) (p2 : List Int) (p3 : List Int) (p4 : List Int) : ((nthC tendrilref05_New_C 0).g (mkSt [2, 4, 20, 21] [.val (.one (.ptr 0 0)), .val (.one (.ptr 1 0)), .val (.one (.int .i64 p0)), .val (.one (.int .i64 p1))] [.box [.nil, .nil, .nil, .nil], .box [(.row 2), (.row 3), (.row 4), .nil], .row .int p2, .row .int p3, .row .int p4])).run (tendrilref05_New_Λ k) = tendrilref05_New_L12 (k + 1) p0 p1 p2 p3 p4 := by kernel_rfl
theorem tendrilref05_New_e12 (k : Nat) (vs : List SV) (bs : List Blk) (r : ((List Int) × ((List Int) × ((List Int) × (List Int)))) × Int) (h : tendrilref05_New_P12v0 (k + 1) vs bs = some (some r)) : ((nthC tendrilref05_New_C 0).g (mkSt [2, 4, 20, 21] vs bs)).run (tendrilref05_New_Λ k) = some r := by
  unfold tendrilref05_New_P12v0 at h
  split at h
  · exact (tendrilref05_New_c12 k _ _ _ _ _).trans (Option.some.inj h)
  · cases h
set_option maxRecDepth 100000 in
theorem tendrilref05_New_c12x1 (k : Nat) (p0 : Int) (p1 : Int) (p2 : List Int) (p3 : List Int) (p4 : List Int) (p5 : List Int) : ((nthC tendrilref05_New_C 0).g (mkSt [2, 4, 20, 21] [.val (.one (.ptr 0 0)), .val (.one (.ptr 1 0)), .val (.one (.int .i64 p0)), .val (.one (.int .i64 p1))] [.box [.nil, .nil, .nil, .nil], .box [(.row 2), (.row 3), (.row 4), (.row 5)], .row .int p2, .row .int p3, .row .int p4, .row .int p5])).run (tendrilref05_New_Λ k) = tendrilref05_New_L12x1 (k + 1) p0 p1 p2 p3 p4 p5 := by kernel_rfl
theorem tendrilref05_New_e12x1 (k : Nat) (vs : List SV) (bs : List Blk) (r : ((List Int) × ((List Int) × ((List Int) × (List Int)))) × Int) (h : tendrilref05_New_P12v1 (k + 1) vs bs = some (some r)) : ((nthC tendrilref05_New_C 0).g (mkSt [2, 4, 20, 21] vs bs)).run (tendrilref05_New_Λ k) = some r := by
  unfold tendrilref05_New_P12v1 at h
  split at h
  · exact (tendrilref05_New_c12x1 k _ _ _ _ _ _).trans (Option.some.inj h)
  · cases h
theorem tendrilref05_New_d12 : CutOk tendrilref05_New_Λ (nthC tendrilref05_New_C 0) := by
  refine cutOk_of (L := 12) (live := [2, 4, 20, 21]) (by kernel_rfl) (by kernel_rfl) fun k vs bs r h => ?_
  change tendrilref05_New_P12 (k + 1) vs bs = some r at h
  unfold tendrilref05_New_P12 at h
  split at h
  · rename_i q hq
    exact tendrilref05_New_e12 k vs bs r (hq.trans (congrArg some h))
  split at h
  · rename_i q hq
    exact tendrilref05_New_e12x1 k vs bs r (hq.trans (congrArg some h))
  cases h
theorem tendrilref05_New_cuts : ∀ p ∈ cuts Try.prog (lkΓ []) Try.f22.ntmps [(12, [2, 4, 20, 21])] (bodyOf Try.f22) (κ0 Try.prog Try.f22 true [⟨true, (.pair (.sl .int) (.pair (.sl .int) (.pair (.sl .int) (.sl .int))))⟩, ⟨false, .int⟩]), CutOk tendrilref05_New_Λ p := cutsOk (l := tendrilref05_New_C) (n := 1) (by kernel_rfl) fun
  | 0, _ => tendrilref05_New_d12
  | k + 1, h => absurd h (by omega)
theorem tendrilref05_New_z12 (vs : List SV) (bs : List Blk) (q : Option (((List Int) × ((List Int) × ((List Int) × (List Int)))) × Int)) (h : tendrilref05_New_P12v0 0 vs bs = some q) : q = none := by
  unfold tendrilref05_New_P12v0 at h; split at h
  · have h := Option.some.inj h; rw [← h]; first | rfl | (unfold tendrilref05_New_L12; rfl)
  · cases h
theorem tendrilref05_New_z12x1 (vs : List SV) (bs : List Blk) (q : Option (((List Int) × ((List Int) × ((List Int) × (List Int)))) × Int)) (h : tendrilref05_New_P12v1 0 vs bs = some q) : q = none := by
  unfold tendrilref05_New_P12v1 at h; split at h
  · have h := Option.some.inj h; rw [← h]; first | rfl | (unfold tendrilref05_New_L12x1; rfl)
  · cases h
theorem tendrilref05_New_Λ0 (L : Nat) (vs : List SV) (bs : List Blk) : tendrilref05_New_Λ 0 L vs bs = none := by
  unfold tendrilref05_New_Λ
  split
  · unfold tendrilref05_New_P12
    split
    · rename_i q hq; exact tendrilref05_New_z12 _ _ q hq
    split
    · rename_i q hq; exact tendrilref05_New_z12x1 _ _ q hq
    rfl
  rfl
set_option maxRecDepth 100000 in
theorem tendrilref05_New_run (K : Nat) (x : Tup [⟨false, .int⟩]) : (pxFn Try.prog (lkΓ []) [(12, [2, 4, 20, 21])] Try.f22 (bodyOf Try.f22) true [⟨true, (.pair (.sl .int) (.pair (.sl .int) (.pair (.sl .int) (.sl .int))))⟩, ⟨false, .int⟩] (encTup [⟨false, .int⟩] x)).run (tendrilref05_New_Λ K) = tendrilref05_New_K K x := by kernel_rfl
theorem tendrilref05_New_ok : SigOk Try.prog 22 tendrilref05_New_S ∧ Bodied Try.prog 22 :=
  ⟨fn_sound (s := tendrilref05_New_S) (T := [(12, [2, 4, 20, 21])]) (Λ := tendrilref05_New_Λ) 2000000 Try.func22 (c := bodyOf Try.f22) (by kernel_rfl) (by kernel_rfl) lkΓ_nil (by decide +kernel) (by decide +kernel) tendrilref05_New_Λ0 tendrilref05_New_cuts (fun x => tendrilref05_New_run 2000000 x), bodied_of Try.func22 (by decide +kernel) (by decide +kernel)⟩

/-! tendril/pool.Count -/
def pool_Count_L10 : Nat → (Int) → (Int) → (Int) → (List Int) → (Int) → (Int) → Option (Int × Int × Int)
  | 0, _, _, _, _, _, _ => none
  | k + 1, p0, p1, p2, p3, p4, p5 =>
    bif Decidable.decide (p5 < p4) then
      bif Decidable.decide ((0 : Int) ≤ p5) then
        bif Decidable.decide (p5 < (↑p3.length : Int)) then
          bif p3.getD p5.toNat (0 : Int) == (1 : Int) then
            pool_Count_L10 k (Go.RowKit.wrap64 (p0 + (1 : Int))) (p1) (p2) (p3) (p4) (Go.RowKit.wrap64 (p5 + (1 : Int)))
          else
            bif p3.getD p5.toNat (0 : Int) == (2 : Int) then
              pool_Count_L10 k (p0) (Go.RowKit.wrap64 (p1 + (1 : Int))) (p2) (p3) (p4) (Go.RowKit.wrap64 (p5 + (1 : Int)))
            else
              pool_Count_L10 k (p0) (p1) (Go.RowKit.wrap64 (p2 + (1 : Int))) (p3) (p4) (Go.RowKit.wrap64 (p5 + (1 : Int)))
        else
          none
      else
        none
    else
      some ((p0, p1, p2))
def pool_Count_P10v0 (k : Nat) (vs : List SV) (bs : List Blk) : Option (Option (Int × Int × Int)) := match vs, bs with
  | [.val (.one (.int .i64 p0)), .val (.one (.int .i64 p1)), .val (.one (.int .i64 p2)), .val (.one (.sl .int p3)), .val (.one (.int .i64 p4)), .val (.one (.int .i64 p5))], [] => some (pool_Count_L10 k p0 p1 p2 p3 p4 p5)
  | _, _ => none
def pool_Count_P10 (k : Nat) (vs : List SV) (bs : List Blk) : Option (Int × Int × Int) := match pool_Count_P10v0 k vs bs with | some r => r | none => none
def pool_Count_Λ (k L : Nat) (vs : List SV) (bs : List Blk) : Option (Int × Int × Int) := match Nat.beq L 10 with | true => pool_Count_P10 k vs bs | false => none
def pool_Count_K (K : Nat) (x : List Int × List Int × List Int × List Int) : Option (Int × Int × Int) :=
  (pool_Check ((x.1, x.snd.1, x.snd.snd.1, x.snd.snd.2))).bind fun r0 =>
  bif r0 != (0 : Int) then
    some (((0 : Int), (0 : Int), (0 : Int)))
  else
    pool_Count_L10 K ((0 : Int)) ((0 : Int)) ((0 : Int)) (x.snd.1) ((↑(List.length x.snd.1) : Int)) ((0 : Int))
def pool_Count (x : ((List Int) × ((List Int) × ((List Int) × (List Int))))) : Option (Int × Int × Int) := pool_Count_K 2000000 x
def pool_Count_S : Sig := ⟨[⟨true, (.pair (.sl .int) (.pair (.sl .int) (.pair (.sl .int) (.sl .int))))⟩], [⟨false, .int⟩, ⟨false, .int⟩, ⟨false, .int⟩], false, pool_Count⟩
noncomputable def pool_Count_C : List (Cut (Tup [⟨false, .int⟩, ⟨false, .int⟩, ⟨false, .int⟩])) := cuts Try.prog (lkΓ [(20, pool_Check_S)]) Try.f23.ntmps [(10, [2, 3, 4, 11, 12, 13])] (bodyOf Try.f23) (κ0 Try.prog Try.f23 false [⟨false, .int⟩, ⟨false, .int⟩, ⟨false, .int⟩])
set_option maxRecDepth 100000 in
theorem pool_Count_c10 (k : Nat) (p0 : Int) (p1 : Int) (p2 : Int) (p3 : List Int) (p4 : Int) (p5 : Int) : ((nthC pool_Count_C 0).g (mkSt [2, 3, 4, 11, 12, 13] [.val (.one (.int .i64 p0)), .val (.one (.int .i64 p1)), .val (.one (.int .i64 p2)), .val (.one (.sl .int p3)), .val (.one (.int .i64 p4)), .val (.one (.int .i64 p5))] [])).run (pool_Count_Λ k) = pool_Count_L10 (k + 1) p0 p1 p2 p3 p4 p5 := by kernel_rfl
theorem pool_Count_e10 (k : Nat) (vs : List SV) (bs : List Blk) (r : Int × Int × Int) (h : pool_Count_P10v0 (k + 1) vs bs = some (some r)) : ((nthC pool_Count_C 0).g (mkSt [2, 3, 4, 11, 12, 13] vs bs)).run (pool_Count_Λ k) = some r := by
  unfold pool_Count_P10v0 at h
  split at h
  · exact (pool_Count_c10 k _ _ _ _ _ _).trans (Option.some.inj h)
  · cases h
theorem pool_Count_d10 : CutOk pool_Count_Λ (nthC pool_Count_C 0) := by
  refine cutOk_of (L := 10) (live := [2, 3, 4, 11, 12, 13]) (by kernel_rfl) (by kernel_rfl) fun k vs bs r h => ?_
  change pool_Count_P10 (k + 1) vs bs = some r at h
  unfold pool_Count_P10 at h
  split at h
  · rename_i q hq
    exact pool_Count_e10 k vs bs r (hq.trans (congrArg some h))
  cases h
theorem pool_Count_cuts : ∀ p ∈ cuts Try.prog (lkΓ [(20, pool_Check_S)]) Try.f23.ntmps [(10, [2, 3, 4, 11, 12, 13])] (bodyOf Try.f23) (κ0 Try.prog Try.f23 false [⟨false, .int⟩, ⟨false, .int⟩, ⟨false, .int⟩]), CutOk pool_Count_Λ p := cutsOk (l := pool_Count_C) (n := 1) (by kernel_rfl) fun
  | 0, _ => pool_Count_d10
  | k + 1, h => absurd h (by omega)
theorem pool_Count_z10 (vs : List SV) (bs : List Blk) (q : Option (Int × Int × Int)) (h : pool_Count_P10v0 0 vs bs = some q) : q = none := by
  unfold pool_Count_P10v0 at h; split at h
  · have h := Option.some.inj h; rw [← h]; first | rfl | (unfold pool_Count_L10; rfl)
  · cases h
theorem pool_Count_Λ0 (L : Nat) (vs : List SV) (bs : List Blk) : pool_Count_Λ 0 L vs bs = none := by
  unfold pool_Count_Λ
  split
  · unfold pool_Count_P10
    split
    · rename_i q hq; exact pool_Count_z10 _ _ q hq
    rfl
  rfl
set_option maxRecDepth 100000 in
theorem pool_Count_run (K : Nat) (x : Tup [⟨true, (.pair (.sl .int) (.pair (.sl .int) (.pair (.sl .int) (.sl .int))))⟩]) : (pxFn Try.prog (lkΓ [(20, pool_Check_S)]) [(10, [2, 3, 4, 11, 12, 13])] Try.f23 (bodyOf Try.f23) false [⟨false, .int⟩, ⟨false, .int⟩, ⟨false, .int⟩] (encTup [⟨true, (.pair (.sl .int) (.pair (.sl .int) (.pair (.sl .int) (.sl .int))))⟩] x)).run (pool_Count_Λ K) = pool_Count_K K x := by kernel_rfl
theorem pool_Count_ok : SigOk Try.prog 23 pool_Count_S ∧ Bodied Try.prog 23 :=
  ⟨fn_sound (s := pool_Count_S) (T := [(10, [2, 3, 4, 11, 12, 13])]) (Λ := pool_Count_Λ) 2000000 Try.func23 (c := bodyOf Try.f23) (by kernel_rfl) (by kernel_rfl) (lkΓ_cons (g := 20) (s0 := pool_Check_S) pool_Check_ok lkΓ_nil) (by decide +kernel) (by decide +kernel) pool_Count_Λ0 pool_Count_cuts (fun x => pool_Count_run 2000000 x), bodied_of Try.func23 (by decide +kernel) (by decide +kernel)⟩

/-! tendril/tendrilref05.Count -/
def tendrilref05_Count_L10 : Nat → (List Int) → (Int) → (Int) → (Int) → (Int) → (Int) → Option (Int × Int × Int)
  | 0, _, _, _, _, _, _ => none
  | k + 1, p0, p1, p2, p3, p4, p5 =>
    bif Decidable.decide (p2 < p1) then
      bif Decidable.decide ((0 : Int) ≤ p2) then
        bif Decidable.decide (p2 < (↑p0.length : Int)) then
          bif Decidable.decide (p0.getD p2.toNat (0 : Int) = (↑(nat_lit 2) : Int)) then
            bif Decidable.decide (p0.getD p2.toNat (0 : Int) = (↑(nat_lit 2) : Int)) then
              tendrilref05_Count_L10 k (p0) (p1) (Go.RowKit.wrap64 (p2 + (1 : Int))) (p3) (p4) (Go.RowKit.wrap64 (p5 + (1 : Int)))
            else
              bif Decidable.decide (p0.getD p2.toNat (0 : Int) = (↑(nat_lit 1) : Int)) then
                tendrilref05_Count_L10 k (p0) (p1) (Go.RowKit.wrap64 (p2 + (1 : Int))) (p3) (Go.RowKit.wrap64 (p5 + (1 : Int))) (p5)
              else
                bif Decidable.decide (p0.getD p2.toNat (0 : Int) = (↑(nat_lit 0) : Int)) then
                  tendrilref05_Count_L10 k (p0) (p1) (Go.RowKit.wrap64 (p2 + (1 : Int))) (Go.RowKit.wrap64 (p5 + (1 : Int))) (p4) (p5)
                else
                  none
          else
            bif Decidable.decide (p0.getD p2.toNat (0 : Int) = (↑(nat_lit 1) : Int)) then
              bif Decidable.decide (p0.getD p2.toNat (0 : Int) = (↑(nat_lit 2) : Int)) then
                tendrilref05_Count_L10 k (p0) (p1) (Go.RowKit.wrap64 (p2 + (1 : Int))) (p3) (p4) (Go.RowKit.wrap64 (p4 + (1 : Int)))
              else
                bif Decidable.decide (p0.getD p2.toNat (0 : Int) = (↑(nat_lit 1) : Int)) then
                  tendrilref05_Count_L10 k (p0) (p1) (Go.RowKit.wrap64 (p2 + (1 : Int))) (p3) (Go.RowKit.wrap64 (p4 + (1 : Int))) (p5)
                else
                  bif Decidable.decide (p0.getD p2.toNat (0 : Int) = (↑(nat_lit 0) : Int)) then
                    tendrilref05_Count_L10 k (p0) (p1) (Go.RowKit.wrap64 (p2 + (1 : Int))) (Go.RowKit.wrap64 (p4 + (1 : Int))) (p4) (p5)
                  else
                    none
            else
              bif Decidable.decide (p0.getD p2.toNat (0 : Int) = (↑(nat_lit 0) : Int)) then
                bif Decidable.decide (p0.getD p2.toNat (0 : Int) = (↑(nat_lit 2) : Int)) then
                  tendrilref05_Count_L10 k (p0) (p1) (Go.RowKit.wrap64 (p2 + (1 : Int))) (p3) (p4) (Go.RowKit.wrap64 (p3 + (1 : Int)))
                else
                  bif Decidable.decide (p0.getD p2.toNat (0 : Int) = (↑(nat_lit 1) : Int)) then
                    tendrilref05_Count_L10 k (p0) (p1) (Go.RowKit.wrap64 (p2 + (1 : Int))) (p3) (Go.RowKit.wrap64 (p3 + (1 : Int))) (p5)
                  else
                    bif Decidable.decide (p0.getD p2.toNat (0 : Int) = (↑(nat_lit 0) : Int)) then
                      tendrilref05_Count_L10 k (p0) (p1) (Go.RowKit.wrap64 (p2 + (1 : Int))) (Go.RowKit.wrap64 (p3 + (1 : Int))) (p4) (p5)
                    else
                      none
              else
                none
        else
          none
      else
        none
    else
      some ((p4, p5, p3))
def tendrilref05_Count_P10v0 (k : Nat) (vs : List SV) (bs : List Blk) : Option (Option (Int × Int × Int)) := match vs, bs with
  | [.val (.one (.ptr 0 0)), .val (.one (.sl .int p0)), .val (.one (.int .i64 p1)), .val (.one (.int .i64 p2))], [.box [(.int .i64 p3), (.int .i64 p4), (.int .i64 p5)]] => some (tendrilref05_Count_L10 k p0 p1 p2 p3 p4 p5)
  | _, _ => none
def tendrilref05_Count_P10 (k : Nat) (vs : List SV) (bs : List Blk) : Option (Int × Int × Int) := match tendrilref05_Count_P10v0 k vs bs with | some r => r | none => none
def tendrilref05_Count_Λ (k L : Nat) (vs : List SV) (bs : List Blk) : Option (Int × Int × Int) := match Nat.beq L 10 with | true => tendrilref05_Count_P10 k vs bs | false => none
def tendrilref05_Count_K (K : Nat) (x : List Int × List Int × List Int × List Int) : Option (Int × Int × Int) :=
  (tendrilref05_Check ((x.1, x.snd.1, x.snd.snd.1, x.snd.snd.2))).bind fun r0 =>
  bif r0 == (0 : Int) then
    tendrilref05_Count_L10 K (x.snd.1) ((↑(List.length x.snd.1) : Int)) ((0 : Int)) ((0 : Int)) ((0 : Int)) ((0 : Int))
  else
    some (((0 : Int), (0 : Int), (0 : Int)))
def tendrilref05_Count (x : ((List Int) × ((List Int) × ((List Int) × (List Int))))) : Option (Int × Int × Int) := tendrilref05_Count_K 2000000 x
def tendrilref05_Count_S : Sig := ⟨[⟨true, (.pair (.sl .int) (.pair (.sl .int) (.pair (.sl .int) (.sl .int))))⟩], [⟨false, .int⟩, ⟨false, .int⟩, ⟨false, .int⟩], false, tendrilref05_Count⟩
noncomputable def tendrilref05_Count_C : List (Cut (Tup [⟨false, .int⟩, ⟨false, .int⟩, ⟨false, .int⟩])) := cuts Try.prog (lkΓ [(25, tendrilref05_Check_S)]) Try.f24.ntmps [(10, [5, 13, 14, 15])] (bodyOf Try.f24) (κ0 Try.prog Try.f24 false [⟨false, .int⟩, ⟨false, .int⟩, ⟨false, .int⟩])
set_option maxRecDepth 100000 in
theorem tendrilref05_Count_c10 (k : Nat) (p0 : List Int) (p1 : Int) (p2 : Int) (p3 : Int) (p4 : Int) (p5 : Int) : ((nthC tendrilref05_Count_C 0).g (mkSt [5, 13, 14, 15] [.val (.one (.ptr 0 0)), .val (.one (.sl .int p0)), .val (.one (.int .i64 p1)), .val (.one (.int .i64 p2))] [.box [(.int .i64 p3), (.int .i64 p4), (.int .i64 p5)]])).run (tendrilref05_Count_Λ k) = tendrilref05_Count_L10 (k + 1) p0 p1 p2 p3 p4 p5 := by kernel_rfl
theorem tendrilref05_Count_e10 (k : Nat) (vs : List SV) (bs : List Blk) (r : Int × Int × Int) (h : tendrilref05_Count_P10v0 (k + 1) vs bs = some (some r)) : ((nthC tendrilref05_Count_C 0).g (mkSt [5, 13, 14, 15] vs bs)).run (tendrilref05_Count_Λ k) = some r := by
  unfold tendrilref05_Count_P10v0 at h
  split at h
  · exact (tendrilref05_Count_c10 k _ _ _ _ _ _).trans (Option.some.inj h)
  · cases h
theorem tendrilref05_Count_d10 : CutOk tendrilref05_Count_Λ (nthC tendrilref05_Count_C 0) := by
  refine cutOk_of (L := 10) (live := [5, 13, 14, 15]) (by kernel_rfl) (by kernel_rfl) fun k vs bs r h => ?_
  change tendrilref05_Count_P10 (k + 1) vs bs = some r at h
  unfold tendrilref05_Count_P10 at h
  split at h
  · rename_i q hq
    exact tendrilref05_Count_e10 k vs bs r (hq.trans (congrArg some h))
  cases h
theorem tendrilref05_Count_cuts : ∀ p ∈ cuts Try.prog (lkΓ [(25, tendrilref05_Check_S)]) Try.f24.ntmps [(10, [5, 13, 14, 15])] (bodyOf Try.f24) (κ0 Try.prog Try.f24 false [⟨false, .int⟩, ⟨false, .int⟩, ⟨false, .int⟩]), CutOk tendrilref05_Count_Λ p := cutsOk (l := tendrilref05_Count_C) (n := 1) (by kernel_rfl) fun
  | 0, _ => tendrilref05_Count_d10
  | k + 1, h => absurd h (by omega)
theorem tendrilref05_Count_z10 (vs : List SV) (bs : List Blk) (q : Option (Int × Int × Int)) (h : tendrilref05_Count_P10v0 0 vs bs = some q) : q = none := by
  unfold tendrilref05_Count_P10v0 at h; split at h
  · have h := Option.some.inj h; rw [← h]; first | rfl | (unfold tendrilref05_Count_L10; rfl)
  · cases h
theorem tendrilref05_Count_Λ0 (L : Nat) (vs : List SV) (bs : List Blk) : tendrilref05_Count_Λ 0 L vs bs = none := by
  unfold tendrilref05_Count_Λ
  split
  · unfold tendrilref05_Count_P10
    split
    · rename_i q hq; exact tendrilref05_Count_z10 _ _ q hq
    rfl
  rfl
set_option maxRecDepth 100000 in
theorem tendrilref05_Count_run (K : Nat) (x : Tup [⟨true, (.pair (.sl .int) (.pair (.sl .int) (.pair (.sl .int) (.sl .int))))⟩]) : (pxFn Try.prog (lkΓ [(25, tendrilref05_Check_S)]) [(10, [5, 13, 14, 15])] Try.f24 (bodyOf Try.f24) false [⟨false, .int⟩, ⟨false, .int⟩, ⟨false, .int⟩] (encTup [⟨true, (.pair (.sl .int) (.pair (.sl .int) (.pair (.sl .int) (.sl .int))))⟩] x)).run (tendrilref05_Count_Λ K) = tendrilref05_Count_K K x := by kernel_rfl
theorem tendrilref05_Count_ok : SigOk Try.prog 24 tendrilref05_Count_S ∧ Bodied Try.prog 24 :=
  ⟨fn_sound (s := tendrilref05_Count_S) (T := [(10, [5, 13, 14, 15])]) (Λ := tendrilref05_Count_Λ) 2000000 Try.func24 (c := bodyOf Try.f24) (by kernel_rfl) (by kernel_rfl) (lkΓ_cons (g := 25) (s0 := tendrilref05_Check_S) tendrilref05_Check_ok lkΓ_nil) (by decide +kernel) (by decide +kernel) tendrilref05_Count_Λ0 tendrilref05_Count_cuts (fun x => tendrilref05_Count_run 2000000 x), bodied_of Try.func24 (by decide +kernel) (by decide +kernel)⟩

/-! tendril/tendrillaw05.PoolMakes -/
def tendrillaw05_PoolMakes (x : Int × List Int × List Int × List Int × List Int) : Option (Bool) :=
  (tendrillaw05_live (())).bind fun r0 =>
  bif !r0 then
    some (Bool.false)
  else
    (tendrilref05_Few ((x.snd.1, x.snd.snd.1, x.snd.snd.snd.1, x.snd.snd.snd.2))).bind fun r1 =>
    bif !r1 then
      some (Bool.true)
    else
      (pool_New (x.1)).bind fun r2 =>
      (tendrilref05_New (x.1)).bind fun r3 =>
      (pool_Count ((x.snd.1, x.snd.snd.1, x.snd.snd.snd.1, x.snd.snd.snd.2))).bind fun r4 =>
      (tendrilref05_Count ((x.snd.1, x.snd.snd.1, x.snd.snd.snd.1, x.snd.snd.snd.2))).bind fun r5 =>
      (tendrilref05_Same (((r2.fst.1, r2.fst.snd.1, r2.fst.snd.snd.1, r2.fst.snd.snd.2), r3.fst.1, r3.fst.snd.1, r3.fst.snd.snd.1, r3.fst.snd.snd.2))).bind fun r6 =>
      bif r6 then
        bif r2.2 == r3.2 then
          (pool_Check ((x.snd.1, x.snd.snd.1, x.snd.snd.snd.1, x.snd.snd.snd.2))).bind fun r7 =>
          (tendrilref05_Check ((x.snd.1, x.snd.snd.1, x.snd.snd.snd.1, x.snd.snd.snd.2))).bind fun r8 =>
          bif r7 == r8 then
            bif r4.1 == r5.1 then
              bif r4.snd.1 == r5.snd.1 then
                some (r4.snd.2 == r5.snd.2)
              else
                some (Bool.false)
            else
              some (Bool.false)
          else
            some (Bool.false)
        else
          some (Bool.false)
      else
        some (Bool.false)
def tendrillaw05_PoolMakes_S : Sig := ⟨[⟨false, .int⟩, ⟨true, (.pair (.sl .int) (.pair (.sl .int) (.pair (.sl .int) (.sl .int))))⟩], [⟨false, .bool⟩], false, tendrillaw05_PoolMakes⟩
set_option maxRecDepth 100000 in
theorem tendrillaw05_PoolMakes_run (x : Tup [⟨false, .int⟩, ⟨true, (.pair (.sl .int) (.pair (.sl .int) (.pair (.sl .int) (.sl .int))))⟩]) : (pxFn Try.prog (lkΓ [(9, tendrillaw05_live_S), (10, tendrilref05_Few_S), (18, tendrilref05_Same_S), (19, pool_New_S), (20, pool_Check_S), (22, tendrilref05_New_S), (23, pool_Count_S), (24, tendrilref05_Count_S), (25, tendrilref05_Check_S)]) [] Try.f7 (bodyOf Try.f7) false [⟨false, .bool⟩] (encTup [⟨false, .int⟩, ⟨true, (.pair (.sl .int) (.pair (.sl .int) (.pair (.sl .int) (.sl .int))))⟩] x)).run (fun _ _ _ => none) = tendrillaw05_PoolMakes x := by kernel_rfl
theorem tendrillaw05_PoolMakes_cuts : ∀ p ∈ cuts Try.prog (lkΓ [(9, tendrillaw05_live_S), (10, tendrilref05_Few_S), (18, tendrilref05_Same_S), (19, pool_New_S), (20, pool_Check_S), (22, tendrilref05_New_S), (23, pool_Count_S), (24, tendrilref05_Count_S), (25, tendrilref05_Check_S)]) Try.f7.ntmps [] (bodyOf Try.f7) (κ0 Try.prog Try.f7 false [⟨false, .bool⟩]), CutOk (fun _ _ _ _ => none) p := cutsNil (by kernel_rfl)
theorem tendrillaw05_PoolMakes_ok : SigOk Try.prog 7 tendrillaw05_PoolMakes_S ∧ Bodied Try.prog 7 :=
  ⟨fn_sound (s := tendrillaw05_PoolMakes_S) (T := []) (Λ := fun _ _ _ _ => none) 0 Try.func7 (c := bodyOf Try.f7) (by kernel_rfl) (by kernel_rfl) (lkΓ_cons (g := 9) (s0 := tendrillaw05_live_S) tendrillaw05_live_ok (lkΓ_cons (g := 10) (s0 := tendrilref05_Few_S) tendrilref05_Few_ok (lkΓ_cons (g := 18) (s0 := tendrilref05_Same_S) tendrilref05_Same_ok (lkΓ_cons (g := 19) (s0 := pool_New_S) pool_New_ok (lkΓ_cons (g := 20) (s0 := pool_Check_S) pool_Check_ok (lkΓ_cons (g := 22) (s0 := tendrilref05_New_S) tendrilref05_New_ok (lkΓ_cons (g := 23) (s0 := pool_Count_S) pool_Count_ok (lkΓ_cons (g := 24) (s0 := tendrilref05_Count_S) tendrilref05_Count_ok (lkΓ_cons (g := 25) (s0 := tendrilref05_Check_S) tendrilref05_Check_ok lkΓ_nil))))))))) (by decide +kernel) (by decide +kernel) (fun _ _ _ => rfl) tendrillaw05_PoolMakes_cuts (fun x => tendrillaw05_PoolMakes_run  x), bodied_of Try.func7 (by decide +kernel) (by decide +kernel)⟩

/-! tendril/tendrillaw05.PoolWhole -/
def tendrillaw05_PoolWhole_L18 : Nat → (Int) → (List Int) → (Int) → (Int) → (List Int) → (List Int) → (List Int) → (List Int) → (List Int) → Option (Bool)
  | 0, _, _, _, _, _, _, _, _, _ => none
  | k + 1, p0, p1, p2, p3, p4, p5, p6, p7, p8 =>
    bif Decidable.decide (p3 < p2) then
      bif Decidable.decide ((0 : Int) ≤ p3) then
        bif Decidable.decide (p3 < (↑p1.length : Int)) then
          bif Go.bits Go.BinOp.and Go.IntKind.i64 (p1.getD p3.toNat (0 : Int)) (3 : Int) == (0 : Int) then
            (pool_Take ((p5, p6, p7, p8))).bind fun r2 =>
            bif r2.snd.2 == (0 : Int) then
              bif Decidable.decide (p4.length + [r2.snd.1].length ≤ (1000000 : Nat)) then
                (pool_Count ((r2.fst.1, r2.fst.snd.1, r2.fst.snd.snd.1, r2.fst.snd.snd.2))).bind fun r3 =>
                (pool_Check ((r2.fst.1, r2.fst.snd.1, r2.fst.snd.snd.1, r2.fst.snd.snd.2))).bind fun r4 =>
                bif r4 != (0 : Int) then
                  some (Bool.false)
                else
                  bif Go.RowKit.wrap64 (Go.RowKit.wrap64 (r3.1 + r3.snd.1) + r3.snd.2) != p0 then
                    some (Bool.false)
                  else
                    bif r3.snd.2 != (↑(List.length r2.fst.snd.snd.2) : Int) then
                      some (Bool.false)
                    else
                      bif Decidable.decide (r3.1 < (0 : Int)) then
                        some (Bool.false)
                      else
                        bif Decidable.decide (r3.snd.1 < (0 : Int)) then
                          some (Bool.false)
                        else
                          tendrillaw05_PoolWhole_L18 k (p0) (p1) (p2) (Go.RowKit.wrap64 (p3 + (1 : Int))) (p4 ++ [r2.snd.1]) (r2.fst.1) (r2.fst.snd.1) (r2.fst.snd.snd.1) (r2.fst.snd.snd.2)
              else
                none
            else
              bif r2.snd.2 != (3 : Int) then
                some (Bool.false)
              else
                (pool_Count ((p5, p6, p7, p8))).bind fun r5 =>
                (pool_Check ((p5, p6, p7, p8))).bind fun r6 =>
                bif r6 != (0 : Int) then
                  some (Bool.false)
                else
                  bif Go.RowKit.wrap64 (Go.RowKit.wrap64 (r5.1 + r5.snd.1) + r5.snd.2) != p0 then
                    some (Bool.false)
                  else
                    bif r5.snd.2 != (↑p8.length : Int) then
                      some (Bool.false)
                    else
                      bif Decidable.decide (r5.1 < (0 : Int)) then
                        some (Bool.false)
                      else
                        bif Decidable.decide (r5.snd.1 < (0 : Int)) then
                          some (Bool.false)
                        else
                          tendrillaw05_PoolWhole_L18 k (p0) (p1) (p2) (Go.RowKit.wrap64 (p3 + (1 : Int))) (p4) (p5) (p6) (p7) (p8)
          else
            bif Go.bits Go.BinOp.and Go.IntKind.i64 (p1.getD p3.toNat (0 : Int)) (3 : Int) == (1 : Int) then
              (pool_Take ((p5, p6, p7, p8))).bind fun r7 =>
              bif r7.snd.2 == (0 : Int) then
                bif Decidable.decide (p4.length + [r7.snd.1].length ≤ (1000000 : Nat)) then
                  (pool_Count ((r7.fst.1, r7.fst.snd.1, r7.fst.snd.snd.1, r7.fst.snd.snd.2))).bind fun r8 =>
                  (pool_Check ((r7.fst.1, r7.fst.snd.1, r7.fst.snd.snd.1, r7.fst.snd.snd.2))).bind fun r9 =>
                  bif r9 != (0 : Int) then
                    some (Bool.false)
                  else
                    bif Go.RowKit.wrap64 (Go.RowKit.wrap64 (r8.1 + r8.snd.1) + r8.snd.2) != p0 then
                      some (Bool.false)
                    else
                      bif r8.snd.2 != (↑(List.length r7.fst.snd.snd.2) : Int) then
                        some (Bool.false)
                      else
                        bif Decidable.decide (r8.1 < (0 : Int)) then
                          some (Bool.false)
                        else
                          bif Decidable.decide (r8.snd.1 < (0 : Int)) then
                            some (Bool.false)
                          else
                            tendrillaw05_PoolWhole_L18 k (p0) (p1) (p2) (Go.RowKit.wrap64 (p3 + (1 : Int))) (p4 ++ [r7.snd.1]) (r7.fst.1) (r7.fst.snd.1) (r7.fst.snd.snd.1) (r7.fst.snd.snd.2)
                else
                  none
              else
                bif r7.snd.2 != (3 : Int) then
                  some (Bool.false)
                else
                  (pool_Count ((p5, p6, p7, p8))).bind fun r10 =>
                  (pool_Check ((p5, p6, p7, p8))).bind fun r11 =>
                  bif r11 != (0 : Int) then
                    some (Bool.false)
                  else
                    bif Go.RowKit.wrap64 (Go.RowKit.wrap64 (r10.1 + r10.snd.1) + r10.snd.2) != p0 then
                      some (Bool.false)
                    else
                      bif r10.snd.2 != (↑p8.length : Int) then
                        some (Bool.false)
                      else
                        bif Decidable.decide (r10.1 < (0 : Int)) then
                          some (Bool.false)
                        else
                          bif Decidable.decide (r10.snd.1 < (0 : Int)) then
                            some (Bool.false)
                          else
                            tendrillaw05_PoolWhole_L18 k (p0) (p1) (p2) (Go.RowKit.wrap64 (p3 + (1 : Int))) (p4) (p5) (p6) (p7) (p8)
            else
              bif Go.bits Go.BinOp.and Go.IntKind.i64 (p1.getD p3.toNat (0 : Int)) (3 : Int) == (2 : Int) then
                bif Decidable.decide ((0 : Int) < (↑p4.length : Int)) then
                  bif Decidable.decide (Go.IntKind.u64.wrap (↑p4.length : Int) = (0 : Int)) then
                    none
                  else
                    bif Decidable.decide ((0 : Int) ≤ Go.RowKit.wrap64 ((Go.IntKind.u64.wrap ((p1.getD p3.toNat (0 : Int)).fdiv ((2 : Int) ^ Min.min (Int.toNat (2 : Int)) Go.IntKind.i64.bits))).tmod (Go.IntKind.u64.wrap (↑p4.length : Int)))) then
                      bif Decidable.decide (Go.RowKit.wrap64 ((Go.IntKind.u64.wrap ((p1.getD p3.toNat (0 : Int)).fdiv ((2 : Int) ^ Min.min (Int.toNat (2 : Int)) Go.IntKind.i64.bits))).tmod (Go.IntKind.u64.wrap (↑p4.length : Int))) < (↑p4.length : Int)) then
                        (pool_Retire (((p5, p6, p7, p8), p4.getD (Go.RowKit.wrap64 ((Go.IntKind.u64.wrap ((p1.getD p3.toNat (0 : Int)).fdiv ((2 : Int) ^ Min.min (Int.toNat (2 : Int)) Go.IntKind.i64.bits))).tmod (Go.IntKind.u64.wrap (↑p4.length : Int)))).toNat (0 : Int), p3))).bind fun r12 =>
                        bif r12.2 == (0 : Int) then
                          (pool_Count ((r12.fst.1, r12.fst.snd.1, r12.fst.snd.snd.1, r12.fst.snd.snd.2))).bind fun r13 =>
                          (pool_Check ((r12.fst.1, r12.fst.snd.1, r12.fst.snd.snd.1, r12.fst.snd.snd.2))).bind fun r14 =>
                          bif r14 != (0 : Int) then
                            some (Bool.false)
                          else
                            bif Go.RowKit.wrap64 (Go.RowKit.wrap64 (r13.1 + r13.snd.1) + r13.snd.2) != p0 then
                              some (Bool.false)
                            else
                              bif r13.snd.2 != (↑(List.length r12.fst.snd.snd.2) : Int) then
                                some (Bool.false)
                              else
                                bif Decidable.decide (r13.1 < (0 : Int)) then
                                  some (Bool.false)
                                else
                                  bif Decidable.decide (r13.snd.1 < (0 : Int)) then
                                    some (Bool.false)
                                  else
                                    tendrillaw05_PoolWhole_L18 k (p0) (p1) (p2) (Go.RowKit.wrap64 (p3 + (1 : Int))) (p4) (r12.fst.1) (r12.fst.snd.1) (r12.fst.snd.snd.1) (r12.fst.snd.snd.2)
                        else
                          bif r12.2 != (2 : Int) then
                            some (Bool.false)
                          else
                            (pool_Count ((p5, p6, p7, p8))).bind fun r15 =>
                            (pool_Check ((p5, p6, p7, p8))).bind fun r16 =>
                            bif r16 != (0 : Int) then
                              some (Bool.false)
                            else
                              bif Go.RowKit.wrap64 (Go.RowKit.wrap64 (r15.1 + r15.snd.1) + r15.snd.2) != p0 then
                                some (Bool.false)
                              else
                                bif r15.snd.2 != (↑p8.length : Int) then
                                  some (Bool.false)
                                else
                                  bif Decidable.decide (r15.1 < (0 : Int)) then
                                    some (Bool.false)
                                  else
                                    bif Decidable.decide (r15.snd.1 < (0 : Int)) then
                                      some (Bool.false)
                                    else
                                      tendrillaw05_PoolWhole_L18 k (p0) (p1) (p2) (Go.RowKit.wrap64 (p3 + (1 : Int))) (p4) (p5) (p6) (p7) (p8)
                      else
                        none
                    else
                      none
                else
                  (pool_Count ((p5, p6, p7, p8))).bind fun r17 =>
                  (pool_Check ((p5, p6, p7, p8))).bind fun r18 =>
                  bif r18 != (0 : Int) then
                    some (Bool.false)
                  else
                    bif Go.RowKit.wrap64 (Go.RowKit.wrap64 (r17.1 + r17.snd.1) + r17.snd.2) != p0 then
                      some (Bool.false)
                    else
                      bif r17.snd.2 != (↑p8.length : Int) then
                        some (Bool.false)
                      else
                        bif Decidable.decide (r17.1 < (0 : Int)) then
                          some (Bool.false)
                        else
                          bif Decidable.decide (r17.snd.1 < (0 : Int)) then
                            some (Bool.false)
                          else
                            tendrillaw05_PoolWhole_L18 k (p0) (p1) (p2) (Go.RowKit.wrap64 (p3 + (1 : Int))) (p4) (p5) (p6) (p7) (p8)
              else
                (pool_Reclaim (((p5, p6, p7, p8), Go.RowKit.wrap64 (p3 - (3 : Int))))).bind fun r19 =>
                (pool_Count ((r19.fst.1, r19.fst.snd.1, r19.fst.snd.snd.1, r19.fst.snd.snd.2))).bind fun r20 =>
                (pool_Check ((r19.fst.1, r19.fst.snd.1, r19.fst.snd.snd.1, r19.fst.snd.snd.2))).bind fun r21 =>
                bif r21 != (0 : Int) then
                  some (Bool.false)
                else
                  bif Go.RowKit.wrap64 (Go.RowKit.wrap64 (r20.1 + r20.snd.1) + r20.snd.2) != p0 then
                    some (Bool.false)
                  else
                    bif r20.snd.2 != (↑(List.length r19.fst.snd.snd.2) : Int) then
                      some (Bool.false)
                    else
                      bif Decidable.decide (r20.1 < (0 : Int)) then
                        some (Bool.false)
                      else
                        bif Decidable.decide (r20.snd.1 < (0 : Int)) then
                          some (Bool.false)
                        else
                          tendrillaw05_PoolWhole_L18 k (p0) (p1) (p2) (Go.RowKit.wrap64 (p3 + (1 : Int))) (p4) (r19.fst.1) (r19.fst.snd.1) (r19.fst.snd.snd.1) (r19.fst.snd.snd.2)
        else
          none
      else
        none
    else
      some (Bool.true)
def tendrillaw05_PoolWhole_P18v0 (k : Nat) (vs : List SV) (bs : List Blk) : Option (Option (Bool)) := match vs, bs with
  | [.val (.one (.int .i64 p0)), .val (.one (.ptr 0 0)), .val (.one (.row 1)), .val (.one (.sl .int p1)), .val (.one (.int .i64 p2)), .val (.one (.int .i64 p3))], [.box [(.row 2), (.row 3), (.row 4), (.row 5)], .row .int p4, .row .int p5, .row .int p6, .row .int p7, .row .int p8] => some (tendrillaw05_PoolWhole_L18 k p0 p1 p2 p3 p4 p5 p6 p7 p8)
  | _, _ => none
def tendrillaw05_PoolWhole_P18 (k : Nat) (vs : List SV) (bs : List Blk) : Option (Bool) := match tendrillaw05_PoolWhole_P18v0 k vs bs with | some r => r | none => none
def tendrillaw05_PoolWhole_Λ (k L : Nat) (vs : List SV) (bs : List Blk) : Option (Bool) := match Nat.beq L 18 with | true => tendrillaw05_PoolWhole_P18 k vs bs | false => none
def tendrillaw05_PoolWhole_K (K : Nat) (x : Int × List Int) : Option (Bool) :=
  (tendrillaw05_live (())).bind fun r0 =>
  bif !r0 then
    some (Bool.false)
  else
    (pool_New (x.1)).bind fun r1 =>
    bif r1.2 != (0 : Int) then
      bif r1.2 == (0 : Int) then
        some (Bool.true)
      else
        some ((↑(List.length r1.fst.1) : Int) == (0 : Int))
    else
      bif Decidable.decide ((60 : Int) < (↑(List.length x.2) : Int)) then
        bif r1.2 == (0 : Int) then
          some (Bool.true)
        else
          some ((↑(List.length r1.fst.1) : Int) == (0 : Int))
      else
        tendrillaw05_PoolWhole_L18 K (x.1) (x.2) ((↑(List.length x.2) : Int)) ((0 : Int)) ([]) (r1.fst.1) (r1.fst.snd.1) (r1.fst.snd.snd.1) (r1.fst.snd.snd.2)
def tendrillaw05_PoolWhole (x : Int × (List Int)) : Option (Bool) := tendrillaw05_PoolWhole_K 2000000 x
def tendrillaw05_PoolWhole_S : Sig := ⟨[⟨false, .int⟩, ⟨false, (.sl .int)⟩], [⟨false, .bool⟩], false, tendrillaw05_PoolWhole⟩
noncomputable def tendrillaw05_PoolWhole_C : List (Cut (Tup [⟨false, .bool⟩])) := cuts Try.prog (lkΓ [(9, tendrillaw05_live_S), (12, pool_Take_S), (14, pool_Retire_S), (16, pool_Reclaim_S), (19, pool_New_S), (20, pool_Check_S), (23, pool_Count_S)]) Try.f8.ntmps [(18, [0, 5, 7, 42, 43, 44])] (bodyOf Try.f8) (κ0 Try.prog Try.f8 false [⟨false, .bool⟩])
set_option maxRecDepth 100000 in
theorem tendrillaw05_PoolWhole_c18 (k : Nat) (p0 : Int) (p1 : List Int) (p2 : Int) (p3 : Int) (p4 : List Int) (p5 : List Int) (p6 : List Int) (p7 : List Int) (p8 : List Int) : ((nthC tendrillaw05_PoolWhole_C 0).g (mkSt [0, 5, 7, 42, 43, 44] [.val (.one (.int .i64 p0)), .val (.one (.ptr 0 0)), .val (.one (.row 1)), .val (.one (.sl .int p1)), .val (.one (.int .i64 p2)), .val (.one (.int .i64 p3))] [.box [(.row 2), (.row 3), (.row 4), (.row 5)], .row .int p4, .row .int p5, .row .int p6, .row .int p7, .row .int p8])).run (tendrillaw05_PoolWhole_Λ k) = tendrillaw05_PoolWhole_L18 (k + 1) p0 p1 p2 p3 p4 p5 p6 p7 p8 := by kernel_rfl
theorem tendrillaw05_PoolWhole_e18 (k : Nat) (vs : List SV) (bs : List Blk) (r : Bool) (h : tendrillaw05_PoolWhole_P18v0 (k + 1) vs bs = some (some r)) : ((nthC tendrillaw05_PoolWhole_C 0).g (mkSt [0, 5, 7, 42, 43, 44] vs bs)).run (tendrillaw05_PoolWhole_Λ k) = some r := by
  unfold tendrillaw05_PoolWhole_P18v0 at h
  split at h
  · exact (tendrillaw05_PoolWhole_c18 k _ _ _ _ _ _ _ _ _).trans (Option.some.inj h)
  · cases h
theorem tendrillaw05_PoolWhole_d18 : CutOk tendrillaw05_PoolWhole_Λ (nthC tendrillaw05_PoolWhole_C 0) := by
  refine cutOk_of (L := 18) (live := [0, 5, 7, 42, 43, 44]) (by kernel_rfl) (by kernel_rfl) fun k vs bs r h => ?_
  change tendrillaw05_PoolWhole_P18 (k + 1) vs bs = some r at h
  unfold tendrillaw05_PoolWhole_P18 at h
  split at h
  · rename_i q hq
    exact tendrillaw05_PoolWhole_e18 k vs bs r (hq.trans (congrArg some h))
  cases h
theorem tendrillaw05_PoolWhole_cuts : ∀ p ∈ cuts Try.prog (lkΓ [(9, tendrillaw05_live_S), (12, pool_Take_S), (14, pool_Retire_S), (16, pool_Reclaim_S), (19, pool_New_S), (20, pool_Check_S), (23, pool_Count_S)]) Try.f8.ntmps [(18, [0, 5, 7, 42, 43, 44])] (bodyOf Try.f8) (κ0 Try.prog Try.f8 false [⟨false, .bool⟩]), CutOk tendrillaw05_PoolWhole_Λ p := cutsOk (l := tendrillaw05_PoolWhole_C) (n := 1) (by kernel_rfl) fun
  | 0, _ => tendrillaw05_PoolWhole_d18
  | k + 1, h => absurd h (by omega)
theorem tendrillaw05_PoolWhole_z18 (vs : List SV) (bs : List Blk) (q : Option (Bool)) (h : tendrillaw05_PoolWhole_P18v0 0 vs bs = some q) : q = none := by
  unfold tendrillaw05_PoolWhole_P18v0 at h; split at h
  · have h := Option.some.inj h; rw [← h]; first | rfl | (unfold tendrillaw05_PoolWhole_L18; rfl)
  · cases h
theorem tendrillaw05_PoolWhole_Λ0 (L : Nat) (vs : List SV) (bs : List Blk) : tendrillaw05_PoolWhole_Λ 0 L vs bs = none := by
  unfold tendrillaw05_PoolWhole_Λ
  split
  · unfold tendrillaw05_PoolWhole_P18
    split
    · rename_i q hq; exact tendrillaw05_PoolWhole_z18 _ _ q hq
    rfl
  rfl
set_option maxRecDepth 100000 in
theorem tendrillaw05_PoolWhole_run (K : Nat) (x : Tup [⟨false, .int⟩, ⟨false, (.sl .int)⟩]) : (pxFn Try.prog (lkΓ [(9, tendrillaw05_live_S), (12, pool_Take_S), (14, pool_Retire_S), (16, pool_Reclaim_S), (19, pool_New_S), (20, pool_Check_S), (23, pool_Count_S)]) [(18, [0, 5, 7, 42, 43, 44])] Try.f8 (bodyOf Try.f8) false [⟨false, .bool⟩] (encTup [⟨false, .int⟩, ⟨false, (.sl .int)⟩] x)).run (tendrillaw05_PoolWhole_Λ K) = tendrillaw05_PoolWhole_K K x := by kernel_rfl
theorem tendrillaw05_PoolWhole_ok : SigOk Try.prog 8 tendrillaw05_PoolWhole_S ∧ Bodied Try.prog 8 :=
  ⟨fn_sound (s := tendrillaw05_PoolWhole_S) (T := [(18, [0, 5, 7, 42, 43, 44])]) (Λ := tendrillaw05_PoolWhole_Λ) 2000000 Try.func8 (c := bodyOf Try.f8) (by kernel_rfl) (by kernel_rfl) (lkΓ_cons (g := 9) (s0 := tendrillaw05_live_S) tendrillaw05_live_ok (lkΓ_cons (g := 12) (s0 := pool_Take_S) pool_Take_ok (lkΓ_cons (g := 14) (s0 := pool_Retire_S) pool_Retire_ok (lkΓ_cons (g := 16) (s0 := pool_Reclaim_S) pool_Reclaim_ok (lkΓ_cons (g := 19) (s0 := pool_New_S) pool_New_ok (lkΓ_cons (g := 20) (s0 := pool_Check_S) pool_Check_ok (lkΓ_cons (g := 23) (s0 := pool_Count_S) pool_Count_ok lkΓ_nil))))))) (by decide +kernel) (by decide +kernel) tendrillaw05_PoolWhole_Λ0 tendrillaw05_PoolWhole_cuts (fun x => tendrillaw05_PoolWhole_run 2000000 x), bodied_of Try.func8 (by decide +kernel) (by decide +kernel)⟩

end Go.Proofs.YtcoiboghdmmdcaaFn
