/- What the functions that this seat's laws reach compute, as plain functions, each with its contract; no condition. -/
import Derived.Test.YtcoiboghdmmdcabProg
import Derived.KernelRfl
import Derived.Test.YtcoiboghdmmdcabPx25
set_option linter.unusedVariables false
set_option linter.unusedSimpArgs false
namespace Go.Proofs.YtcoiboghdmmdcabFn
open Go Go.RowKit Go.Proofs.YtcoiboghdmmdcabPx
/-! slices.Clone of numbers: by hand over the evaluator: nil, or not. -/
def slices_Clone (x : List Int) : Option (List Int) := bif decide (0 + x.length ≤ 1000000) then some x else none
def slices_Clone_S : Sig := ⟨[⟨false, (.sl .int)⟩], [⟨false, (.sl .int)⟩], true, slices_Clone⟩
theorem slices_Clone_cuts : ∀ p ∈ cuts Try.prog (lkΓ []) Try.f27.ntmps [] (bodyOf Try.f27) (κ0 Try.prog Try.f27 true [⟨false, (.sl .int)⟩]), CutOk (fun _ _ _ _ => none) p := cutsNil (by kernel_rfl)
theorem slices_Clone_run0 (xs : List Int) : (pxFn Try.prog (lkΓ []) [] Try.f27 (bodyOf Try.f27) true [⟨false, (.sl .int)⟩] [.one (.sln false .int xs)]).run (fun _ _ _ => none) = some [] := by kernel_rfl
theorem slices_Clone_run1 (xs : List Int) : (pxFn Try.prog (lkΓ []) [] Try.f27 (bodyOf Try.f27) true [⟨false, (.sl .int)⟩] [.one (.sln true .int xs)]).run (fun _ _ _ => none) = slices_Clone xs := by kernel_rfl
theorem slices_Clone_go {S : Nat → Prop} {w : World} {v : Value} {nn : Bool} {xs r : List Int} (hd : (V1.one (.sln nn .int xs)).Den S w noρ v) (hS : ∀ b, w.heap.size ≤ b → S b)
    (hrun : (pxFn Try.prog (lkΓ []) [] Try.f27 (bodyOf Try.f27) true [⟨false, (.sl .int)⟩] [.one (.sln nn .int xs)]).run (fun _ _ _ => none) = some r) :
    Calls Try.prog 27 [v].toArray w fun e w' => ∃ v, e = .returned v ∧ Below w.heap.size w w' ∧ ∀ base, ResOk S w.heap.size w' (slices_Clone_S.out base r) v :=
  fn_calls (s := slices_Clone_S) (T := []) (Λ := fun _ _ _ _ => none) 0 Try.func27 (c := bodyOf Try.f27) (by kernel_rfl) (by kernel_rfl) lkΓ_nil (by decide +kernel) (fun _ _ _ => rfl) slices_Clone_cuts (av := [.one (.sln nn .int xs)]) (vs := [v]) (show (1 : Nat) ≤ _ by decide +kernel) hrun hS ⟨hd, trivial⟩
theorem slices_Clone_ok : SigOk Try.prog 27 slices_Clone_S ∧ Bodied Try.prog 27 := by
  refine ⟨fun S w x r vs hfn hS hvs => ?_, bodied_of Try.func27 (by decide +kernel) (by decide +kernel)⟩
  match vs, hvs with
  | [v], ⟨hd, _⟩ =>
    have hd : RI S w .int v x := hd
    obtain ⟨p, c, rfl, hc, hr⟩ := RI.shape hd
    cases hp : p.isSome with
    | true => exact slices_Clone_go (nn := true) ⟨hd, p, _, c, rfl, hp⟩ hS ((slices_Clone_run1 x).trans hfn)
    | false =>
      have hx : x = [] := by
        rcases Nat.eq_zero_or_pos (List.length x) with h | h
        · exact List.eq_nil_of_length_eq_zero h
        · obtain ⟨b, o, rfl, _⟩ := hr h
          cases hp
      refine slices_Clone_go (nn := false) (xs := x) ⟨hd, p, _, c, rfl, hp⟩ hS ((slices_Clone_run0 x).trans ?_)
      subst hx
      exact hfn
  | [], hvs => exact hvs.elim
  | _ :: _ :: _, hvs => exact hvs.2.elim


/-! tendril/era.Check$1 -/
def era_Check_1 (x : Int × Int × List Int) : Option (Bool) :=
  bif x.1 != (-1 : Int) then
    bif Decidable.decide (x.1 < (0 : Int)) then
      some (Bool.true)
    else
      bif Decidable.decide (x.snd.1 < x.1) then
        some (Bool.true)
      else
        some (Decidable.decide (x.1 < Go.RowKit.wrap64 (x.snd.1 - (1 : Int))))
  else
    some (Bool.false)
def era_Check_1_S : Sig := ⟨[⟨false, .int⟩, ⟨false, (.ref (.pair .int (.sl .int)))⟩], [⟨false, .bool⟩], false, era_Check_1⟩
set_option maxRecDepth 100000 in
theorem era_Check_1_run (x : Tup [⟨false, .int⟩, ⟨false, (.ref (.pair .int (.sl .int)))⟩]) : (pxFn Try.prog (lkΓ []) [] Try.f25 (bodyOf Try.f25) false [⟨false, .bool⟩] (encTup [⟨false, .int⟩, ⟨false, (.ref (.pair .int (.sl .int)))⟩] x)).run (fun _ _ _ => none) = era_Check_1 x := by kernel_rfl
theorem era_Check_1_cuts : ∀ p ∈ cuts Try.prog (lkΓ []) Try.f25.ntmps [] (bodyOf Try.f25) (κ0 Try.prog Try.f25 false [⟨false, .bool⟩]), CutOk (fun _ _ _ _ => none) p := cutsNil (by kernel_rfl)
theorem era_Check_1_ok : SigOk Try.prog 25 era_Check_1_S ∧ Bodied Try.prog 25 :=
  ⟨fn_sound (s := era_Check_1_S) (T := []) (Λ := fun _ _ _ _ => none) 0 Try.func25 (c := bodyOf Try.f25) (by kernel_rfl) (by kernel_rfl) lkΓ_nil (by decide +kernel) (by decide +kernel) (fun _ _ _ => rfl) era_Check_1_cuts (fun x => era_Check_1_run  x), bodied_of Try.func25 (by decide +kernel) (by decide +kernel)⟩

/-! slices.IndexFunc[[]int,int] -/
def slices_IndexFunc_era_Check_1_L6 : Nat → (List Int) → (Int × List Int) → (Int) → (Int) → Option (Int)
  | 0, _, _, _, _ => none
  | k + 1, p0, p1, p2, p3 =>
    bif Decidable.decide (p3 < p2) then
      bif Decidable.decide ((0 : Int) ≤ p3) then
        bif Decidable.decide (p3 < (↑p0.length : Int)) then
          (era_Check_1 ((p0.getD p3.toNat (0 : Int), p1))).bind fun r0 =>
          bif r0 then
            some (p3)
          else
            slices_IndexFunc_era_Check_1_L6 k (p0) (p1) (p2) (Go.RowKit.wrap64 (p3 + (1 : Int)))
        else
          none
      else
        none
    else
      some ((-1 : Int))
def slices_IndexFunc_era_Check_1_P6v0 (k : Nat) (vs : List SV) (bs : List Blk) : Option (Option (Int)) := match vs, bs with
  | [.val (.one (.sl .int p0)), .val (.one (.clo 25 (.ref (.pair .int (.sl .int))) p1)), .val (.one (.int .i64 p2)), .val (.one (.int .i64 p3))], [] => some (slices_IndexFunc_era_Check_1_L6 k p0 p1 p2 p3)
  | _, _ => none
def slices_IndexFunc_era_Check_1_P6 (k : Nat) (vs : List SV) (bs : List Blk) : Option (Int) := match slices_IndexFunc_era_Check_1_P6v0 k vs bs with | some r => r | none => none
def slices_IndexFunc_era_Check_1_Λ (k L : Nat) (vs : List SV) (bs : List Blk) : Option (Int) := match Nat.beq L 6 with | true => slices_IndexFunc_era_Check_1_P6 k vs bs | false => none
def slices_IndexFunc_era_Check_1_K (K : Nat) (x : List Int × Int × List Int) : Option (Int) :=
  slices_IndexFunc_era_Check_1_L6 K (x.1) (x.2) ((↑(List.length x.1) : Int)) ((0 : Int))
def slices_IndexFunc_era_Check_1 (x : (List Int) × (Int × (List Int))) : Option (Int) := slices_IndexFunc_era_Check_1_K 2000000 x
def slices_IndexFunc_era_Check_1_S : Sig := ⟨[⟨false, (.sl .int)⟩, ⟨false, (.clo 25 (.ref (.pair .int (.sl .int))))⟩], [⟨false, .int⟩], false, slices_IndexFunc_era_Check_1⟩
noncomputable def slices_IndexFunc_era_Check_1_C : List (Cut (Tup [⟨false, .int⟩])) := cuts Try.prog (lkΓ [(25, era_Check_1_S)]) Try.f32.ntmps [(6, [0, 1, 7, 8])] (bodyOf Try.f32) (κ0 Try.prog Try.f32 false [⟨false, .int⟩])
set_option maxRecDepth 100000 in
theorem slices_IndexFunc_era_Check_1_c6 (k : Nat) (p0 : List Int) (p1 : Int × List Int) (p2 : Int) (p3 : Int) : ((nthC slices_IndexFunc_era_Check_1_C 0).g (mkSt [0, 1, 7, 8] [.val (.one (.sl .int p0)), .val (.one (.clo 25 (.ref (.pair .int (.sl .int))) p1)), .val (.one (.int .i64 p2)), .val (.one (.int .i64 p3))] [])).run (slices_IndexFunc_era_Check_1_Λ k) = slices_IndexFunc_era_Check_1_L6 (k + 1) p0 p1 p2 p3 := by kernel_rfl
theorem slices_IndexFunc_era_Check_1_e6 (k : Nat) (vs : List SV) (bs : List Blk) (r : Int) (h : slices_IndexFunc_era_Check_1_P6v0 (k + 1) vs bs = some (some r)) : ((nthC slices_IndexFunc_era_Check_1_C 0).g (mkSt [0, 1, 7, 8] vs bs)).run (slices_IndexFunc_era_Check_1_Λ k) = some r := by
  unfold slices_IndexFunc_era_Check_1_P6v0 at h
  split at h
  · exact (slices_IndexFunc_era_Check_1_c6 k _ _ _ _).trans (Option.some.inj h)
  · cases h
theorem slices_IndexFunc_era_Check_1_d6 : CutOk slices_IndexFunc_era_Check_1_Λ (nthC slices_IndexFunc_era_Check_1_C 0) := by
  refine cutOk_of (L := 6) (live := [0, 1, 7, 8]) (by kernel_rfl) (by kernel_rfl) fun k vs bs r h => ?_
  change slices_IndexFunc_era_Check_1_P6 (k + 1) vs bs = some r at h
  unfold slices_IndexFunc_era_Check_1_P6 at h
  split at h
  · rename_i q hq
    exact slices_IndexFunc_era_Check_1_e6 k vs bs r (hq.trans (congrArg some h))
  cases h
theorem slices_IndexFunc_era_Check_1_cuts : ∀ p ∈ cuts Try.prog (lkΓ [(25, era_Check_1_S)]) Try.f32.ntmps [(6, [0, 1, 7, 8])] (bodyOf Try.f32) (κ0 Try.prog Try.f32 false [⟨false, .int⟩]), CutOk slices_IndexFunc_era_Check_1_Λ p := cutsOk (l := slices_IndexFunc_era_Check_1_C) (n := 1) (by kernel_rfl) fun
  | 0, _ => slices_IndexFunc_era_Check_1_d6
  | k + 1, h => absurd h (by omega)
theorem slices_IndexFunc_era_Check_1_z6 (vs : List SV) (bs : List Blk) (q : Option (Int)) (h : slices_IndexFunc_era_Check_1_P6v0 0 vs bs = some q) : q = none := by
  unfold slices_IndexFunc_era_Check_1_P6v0 at h; split at h
  · have h := Option.some.inj h; rw [← h]; first | rfl | (unfold slices_IndexFunc_era_Check_1_L6; rfl)
  · cases h
theorem slices_IndexFunc_era_Check_1_Λ0 (L : Nat) (vs : List SV) (bs : List Blk) : slices_IndexFunc_era_Check_1_Λ 0 L vs bs = none := by
  unfold slices_IndexFunc_era_Check_1_Λ
  split
  · unfold slices_IndexFunc_era_Check_1_P6
    split
    · rename_i q hq; exact slices_IndexFunc_era_Check_1_z6 _ _ q hq
    rfl
  rfl
set_option maxRecDepth 100000 in
theorem slices_IndexFunc_era_Check_1_run (K : Nat) (x : Tup [⟨false, (.sl .int)⟩, ⟨false, (.clo 25 (.ref (.pair .int (.sl .int))))⟩]) : (pxFn Try.prog (lkΓ [(25, era_Check_1_S)]) [(6, [0, 1, 7, 8])] Try.f32 (bodyOf Try.f32) false [⟨false, .int⟩] (encTup [⟨false, (.sl .int)⟩, ⟨false, (.clo 25 (.ref (.pair .int (.sl .int))))⟩] x)).run (slices_IndexFunc_era_Check_1_Λ K) = slices_IndexFunc_era_Check_1_K K x := by kernel_rfl
theorem slices_IndexFunc_era_Check_1_ok : SigOk Try.prog 32 slices_IndexFunc_era_Check_1_S ∧ Bodied Try.prog 32 :=
  ⟨fn_sound (s := slices_IndexFunc_era_Check_1_S) (T := [(6, [0, 1, 7, 8])]) (Λ := slices_IndexFunc_era_Check_1_Λ) 2000000 Try.func32 (c := bodyOf Try.f32) (by kernel_rfl) (by kernel_rfl) (lkΓ_cons (g := 25) (s0 := era_Check_1_S) era_Check_1_ok lkΓ_nil) (by decide +kernel) (by decide +kernel) slices_IndexFunc_era_Check_1_Λ0 slices_IndexFunc_era_Check_1_cuts (fun x => slices_IndexFunc_era_Check_1_run 2000000 x), bodied_of Try.func32 (by decide +kernel) (by decide +kernel)⟩

/-! slices.ContainsFunc[[]int,int] -/
def slices_ContainsFunc_era_Check_1 (x : List Int × Int × List Int) : Option (Bool) :=
  (slices_IndexFunc_era_Check_1 ((x.1, x.2))).bind fun r0 =>
  some (Decidable.decide ((0 : Int) ≤ r0))
def slices_ContainsFunc_era_Check_1_S : Sig := ⟨[⟨false, (.sl .int)⟩, ⟨false, (.clo 25 (.ref (.pair .int (.sl .int))))⟩], [⟨false, .bool⟩], false, slices_ContainsFunc_era_Check_1⟩
set_option maxRecDepth 100000 in
theorem slices_ContainsFunc_era_Check_1_run (x : Tup [⟨false, (.sl .int)⟩, ⟨false, (.clo 25 (.ref (.pair .int (.sl .int))))⟩]) : (pxFn Try.prog (lkΓ [(26000032, slices_IndexFunc_era_Check_1_S)]) [] Try.f26 (bodyOf Try.f26) false [⟨false, .bool⟩] (encTup [⟨false, (.sl .int)⟩, ⟨false, (.clo 25 (.ref (.pair .int (.sl .int))))⟩] x)).run (fun _ _ _ => none) = slices_ContainsFunc_era_Check_1 x := by kernel_rfl
theorem slices_ContainsFunc_era_Check_1_cuts : ∀ p ∈ cuts Try.prog (lkΓ [(26000032, slices_IndexFunc_era_Check_1_S)]) Try.f26.ntmps [] (bodyOf Try.f26) (κ0 Try.prog Try.f26 false [⟨false, .bool⟩]), CutOk (fun _ _ _ _ => none) p := cutsNil (by kernel_rfl)
theorem slices_ContainsFunc_era_Check_1_ok : SigOk Try.prog 26 slices_ContainsFunc_era_Check_1_S ∧ Bodied Try.prog 26 :=
  ⟨fn_sound (s := slices_ContainsFunc_era_Check_1_S) (T := []) (Λ := fun _ _ _ _ => none) 0 Try.func26 (c := bodyOf Try.f26) (by kernel_rfl) (by kernel_rfl) (lkΓ_cons (g := 26000032) (s0 := slices_IndexFunc_era_Check_1_S) slices_IndexFunc_era_Check_1_ok lkΓ_nil) (by decide +kernel) (by decide +kernel) (fun _ _ _ => rfl) slices_ContainsFunc_era_Check_1_cuts (fun x => slices_ContainsFunc_era_Check_1_run  x), bodied_of Try.func26 (by decide +kernel) (by decide +kernel)⟩

/-! tendril/era.Check -/
def era_Check (x : Int × List Int) : Option (Int) :=
  bif Decidable.decide (x.1 < (0 : Int)) then
    some ((1 : Int))
  else
    bif Decidable.decide ((1152921504606846976 : Int) < x.1) then
      some ((1 : Int))
    else
      bif Decidable.decide ((↑(List.length x.2) : Int) < (1 : Int)) then
        some ((1 : Int))
      else
        bif Decidable.decide ((64 : Int) < (↑(List.length x.2) : Int)) then
          some ((1 : Int))
        else
          (slices_ContainsFunc_era_Check_1 ((x.2, x.1, x.2))).bind fun r0 =>
          bif r0 then
            some ((1 : Int))
          else
            some ((0 : Int))
def era_Check_S : Sig := ⟨[⟨true, (.pair .int (.sl .int))⟩], [⟨false, .int⟩], false, era_Check⟩
set_option maxRecDepth 100000 in
theorem era_Check_run (x : Tup [⟨true, (.pair .int (.sl .int))⟩]) : (pxFn Try.prog (lkΓ [(26000026, slices_ContainsFunc_era_Check_1_S)]) [] Try.f10 (bodyOf Try.f10) false [⟨false, .int⟩] (encTup [⟨true, (.pair .int (.sl .int))⟩] x)).run (fun _ _ _ => none) = era_Check x := by kernel_rfl
theorem era_Check_cuts : ∀ p ∈ cuts Try.prog (lkΓ [(26000026, slices_ContainsFunc_era_Check_1_S)]) Try.f10.ntmps [] (bodyOf Try.f10) (κ0 Try.prog Try.f10 false [⟨false, .int⟩]), CutOk (fun _ _ _ _ => none) p := cutsNil (by kernel_rfl)
theorem era_Check_ok : SigOk Try.prog 10 era_Check_S ∧ Bodied Try.prog 10 :=
  ⟨fn_sound (s := era_Check_S) (T := []) (Λ := fun _ _ _ _ => none) 0 Try.func10 (c := bodyOf Try.f10) (by kernel_rfl) (by kernel_rfl) (lkΓ_cons (g := 26000026) (s0 := slices_ContainsFunc_era_Check_1_S) slices_ContainsFunc_era_Check_1_ok lkΓ_nil) (by decide +kernel) (by decide +kernel) (fun _ _ _ => rfl) era_Check_cuts (fun x => era_Check_run  x), bodied_of Try.func10 (by decide +kernel) (by decide +kernel)⟩

/-! tendril/era.Turn$1 -/
def era_Turn_1 (x : Int × Int × List Int) : Option (Bool) :=
  bif x.1 != (-1 : Int) then
    some (x.1 != x.snd.1)
  else
    some (Bool.false)
def era_Turn_1_S : Sig := ⟨[⟨false, .int⟩, ⟨false, (.ref (.pair .int (.sl .int)))⟩], [⟨false, .bool⟩], false, era_Turn_1⟩
set_option maxRecDepth 100000 in
theorem era_Turn_1_run (x : Tup [⟨false, .int⟩, ⟨false, (.ref (.pair .int (.sl .int)))⟩]) : (pxFn Try.prog (lkΓ []) [] Try.f28 (bodyOf Try.f28) false [⟨false, .bool⟩] (encTup [⟨false, .int⟩, ⟨false, (.ref (.pair .int (.sl .int)))⟩] x)).run (fun _ _ _ => none) = era_Turn_1 x := by kernel_rfl
theorem era_Turn_1_cuts : ∀ p ∈ cuts Try.prog (lkΓ []) Try.f28.ntmps [] (bodyOf Try.f28) (κ0 Try.prog Try.f28 false [⟨false, .bool⟩]), CutOk (fun _ _ _ _ => none) p := cutsNil (by kernel_rfl)
theorem era_Turn_1_ok : SigOk Try.prog 28 era_Turn_1_S ∧ Bodied Try.prog 28 :=
  ⟨fn_sound (s := era_Turn_1_S) (T := []) (Λ := fun _ _ _ _ => none) 0 Try.func28 (c := bodyOf Try.f28) (by kernel_rfl) (by kernel_rfl) lkΓ_nil (by decide +kernel) (by decide +kernel) (fun _ _ _ => rfl) era_Turn_1_cuts (fun x => era_Turn_1_run  x), bodied_of Try.func28 (by decide +kernel) (by decide +kernel)⟩

/-! slices.IndexFunc[[]int,int] -/
def slices_IndexFunc_era_Turn_1_L6 : Nat → (List Int) → (Int × List Int) → (Int) → (Int) → Option (Int)
  | 0, _, _, _, _ => none
  | k + 1, p0, p1, p2, p3 =>
    bif Decidable.decide (p3 < p2) then
      bif Decidable.decide ((0 : Int) ≤ p3) then
        bif Decidable.decide (p3 < (↑p0.length : Int)) then
          (era_Turn_1 ((p0.getD p3.toNat (0 : Int), p1))).bind fun r0 =>
          bif r0 then
            some (p3)
          else
            slices_IndexFunc_era_Turn_1_L6 k (p0) (p1) (p2) (Go.RowKit.wrap64 (p3 + (1 : Int)))
        else
          none
      else
        none
    else
      some ((-1 : Int))
def slices_IndexFunc_era_Turn_1_P6v0 (k : Nat) (vs : List SV) (bs : List Blk) : Option (Option (Int)) := match vs, bs with
  | [.val (.one (.sl .int p0)), .val (.one (.clo 28 (.ref (.pair .int (.sl .int))) p1)), .val (.one (.int .i64 p2)), .val (.one (.int .i64 p3))], [] => some (slices_IndexFunc_era_Turn_1_L6 k p0 p1 p2 p3)
  | _, _ => none
def slices_IndexFunc_era_Turn_1_P6 (k : Nat) (vs : List SV) (bs : List Blk) : Option (Int) := match slices_IndexFunc_era_Turn_1_P6v0 k vs bs with | some r => r | none => none
def slices_IndexFunc_era_Turn_1_Λ (k L : Nat) (vs : List SV) (bs : List Blk) : Option (Int) := match Nat.beq L 6 with | true => slices_IndexFunc_era_Turn_1_P6 k vs bs | false => none
def slices_IndexFunc_era_Turn_1_K (K : Nat) (x : List Int × Int × List Int) : Option (Int) :=
  slices_IndexFunc_era_Turn_1_L6 K (x.1) (x.2) ((↑(List.length x.1) : Int)) ((0 : Int))
def slices_IndexFunc_era_Turn_1 (x : (List Int) × (Int × (List Int))) : Option (Int) := slices_IndexFunc_era_Turn_1_K 2000000 x
def slices_IndexFunc_era_Turn_1_S : Sig := ⟨[⟨false, (.sl .int)⟩, ⟨false, (.clo 28 (.ref (.pair .int (.sl .int))))⟩], [⟨false, .int⟩], false, slices_IndexFunc_era_Turn_1⟩
noncomputable def slices_IndexFunc_era_Turn_1_C : List (Cut (Tup [⟨false, .int⟩])) := cuts Try.prog (lkΓ [(28, era_Turn_1_S)]) Try.f32.ntmps [(6, [0, 1, 7, 8])] (bodyOf Try.f32) (κ0 Try.prog Try.f32 false [⟨false, .int⟩])
set_option maxRecDepth 100000 in
theorem slices_IndexFunc_era_Turn_1_c6 (k : Nat) (p0 : List Int) (p1 : Int × List Int) (p2 : Int) (p3 : Int) : ((nthC slices_IndexFunc_era_Turn_1_C 0).g (mkSt [0, 1, 7, 8] [.val (.one (.sl .int p0)), .val (.one (.clo 28 (.ref (.pair .int (.sl .int))) p1)), .val (.one (.int .i64 p2)), .val (.one (.int .i64 p3))] [])).run (slices_IndexFunc_era_Turn_1_Λ k) = slices_IndexFunc_era_Turn_1_L6 (k + 1) p0 p1 p2 p3 := by kernel_rfl
theorem slices_IndexFunc_era_Turn_1_e6 (k : Nat) (vs : List SV) (bs : List Blk) (r : Int) (h : slices_IndexFunc_era_Turn_1_P6v0 (k + 1) vs bs = some (some r)) : ((nthC slices_IndexFunc_era_Turn_1_C 0).g (mkSt [0, 1, 7, 8] vs bs)).run (slices_IndexFunc_era_Turn_1_Λ k) = some r := by
  unfold slices_IndexFunc_era_Turn_1_P6v0 at h
  split at h
  · exact (slices_IndexFunc_era_Turn_1_c6 k _ _ _ _).trans (Option.some.inj h)
  · cases h
theorem slices_IndexFunc_era_Turn_1_d6 : CutOk slices_IndexFunc_era_Turn_1_Λ (nthC slices_IndexFunc_era_Turn_1_C 0) := by
  refine cutOk_of (L := 6) (live := [0, 1, 7, 8]) (by kernel_rfl) (by kernel_rfl) fun k vs bs r h => ?_
  change slices_IndexFunc_era_Turn_1_P6 (k + 1) vs bs = some r at h
  unfold slices_IndexFunc_era_Turn_1_P6 at h
  split at h
  · rename_i q hq
    exact slices_IndexFunc_era_Turn_1_e6 k vs bs r (hq.trans (congrArg some h))
  cases h
theorem slices_IndexFunc_era_Turn_1_cuts : ∀ p ∈ cuts Try.prog (lkΓ [(28, era_Turn_1_S)]) Try.f32.ntmps [(6, [0, 1, 7, 8])] (bodyOf Try.f32) (κ0 Try.prog Try.f32 false [⟨false, .int⟩]), CutOk slices_IndexFunc_era_Turn_1_Λ p := cutsOk (l := slices_IndexFunc_era_Turn_1_C) (n := 1) (by kernel_rfl) fun
  | 0, _ => slices_IndexFunc_era_Turn_1_d6
  | k + 1, h => absurd h (by omega)
theorem slices_IndexFunc_era_Turn_1_z6 (vs : List SV) (bs : List Blk) (q : Option (Int)) (h : slices_IndexFunc_era_Turn_1_P6v0 0 vs bs = some q) : q = none := by
  unfold slices_IndexFunc_era_Turn_1_P6v0 at h; split at h
  · have h := Option.some.inj h; rw [← h]; first | rfl | (unfold slices_IndexFunc_era_Turn_1_L6; rfl)
  · cases h
theorem slices_IndexFunc_era_Turn_1_Λ0 (L : Nat) (vs : List SV) (bs : List Blk) : slices_IndexFunc_era_Turn_1_Λ 0 L vs bs = none := by
  unfold slices_IndexFunc_era_Turn_1_Λ
  split
  · unfold slices_IndexFunc_era_Turn_1_P6
    split
    · rename_i q hq; exact slices_IndexFunc_era_Turn_1_z6 _ _ q hq
    rfl
  rfl
set_option maxRecDepth 100000 in
theorem slices_IndexFunc_era_Turn_1_run (K : Nat) (x : Tup [⟨false, (.sl .int)⟩, ⟨false, (.clo 28 (.ref (.pair .int (.sl .int))))⟩]) : (pxFn Try.prog (lkΓ [(28, era_Turn_1_S)]) [(6, [0, 1, 7, 8])] Try.f32 (bodyOf Try.f32) false [⟨false, .int⟩] (encTup [⟨false, (.sl .int)⟩, ⟨false, (.clo 28 (.ref (.pair .int (.sl .int))))⟩] x)).run (slices_IndexFunc_era_Turn_1_Λ K) = slices_IndexFunc_era_Turn_1_K K x := by kernel_rfl
theorem slices_IndexFunc_era_Turn_1_ok : SigOk Try.prog 32 slices_IndexFunc_era_Turn_1_S ∧ Bodied Try.prog 32 :=
  ⟨fn_sound (s := slices_IndexFunc_era_Turn_1_S) (T := [(6, [0, 1, 7, 8])]) (Λ := slices_IndexFunc_era_Turn_1_Λ) 2000000 Try.func32 (c := bodyOf Try.f32) (by kernel_rfl) (by kernel_rfl) (lkΓ_cons (g := 28) (s0 := era_Turn_1_S) era_Turn_1_ok lkΓ_nil) (by decide +kernel) (by decide +kernel) slices_IndexFunc_era_Turn_1_Λ0 slices_IndexFunc_era_Turn_1_cuts (fun x => slices_IndexFunc_era_Turn_1_run 2000000 x), bodied_of Try.func32 (by decide +kernel) (by decide +kernel)⟩

/-! slices.ContainsFunc[[]int,int] -/
def slices_ContainsFunc_era_Turn_1 (x : List Int × Int × List Int) : Option (Bool) :=
  (slices_IndexFunc_era_Turn_1 ((x.1, x.2))).bind fun r0 =>
  some (Decidable.decide ((0 : Int) ≤ r0))
def slices_ContainsFunc_era_Turn_1_S : Sig := ⟨[⟨false, (.sl .int)⟩, ⟨false, (.clo 28 (.ref (.pair .int (.sl .int))))⟩], [⟨false, .bool⟩], false, slices_ContainsFunc_era_Turn_1⟩
set_option maxRecDepth 100000 in
theorem slices_ContainsFunc_era_Turn_1_run (x : Tup [⟨false, (.sl .int)⟩, ⟨false, (.clo 28 (.ref (.pair .int (.sl .int))))⟩]) : (pxFn Try.prog (lkΓ [(29000032, slices_IndexFunc_era_Turn_1_S)]) [] Try.f26 (bodyOf Try.f26) false [⟨false, .bool⟩] (encTup [⟨false, (.sl .int)⟩, ⟨false, (.clo 28 (.ref (.pair .int (.sl .int))))⟩] x)).run (fun _ _ _ => none) = slices_ContainsFunc_era_Turn_1 x := by kernel_rfl
theorem slices_ContainsFunc_era_Turn_1_cuts : ∀ p ∈ cuts Try.prog (lkΓ [(29000032, slices_IndexFunc_era_Turn_1_S)]) Try.f26.ntmps [] (bodyOf Try.f26) (κ0 Try.prog Try.f26 false [⟨false, .bool⟩]), CutOk (fun _ _ _ _ => none) p := cutsNil (by kernel_rfl)
theorem slices_ContainsFunc_era_Turn_1_ok : SigOk Try.prog 26 slices_ContainsFunc_era_Turn_1_S ∧ Bodied Try.prog 26 :=
  ⟨fn_sound (s := slices_ContainsFunc_era_Turn_1_S) (T := []) (Λ := fun _ _ _ _ => none) 0 Try.func26 (c := bodyOf Try.f26) (by kernel_rfl) (by kernel_rfl) (lkΓ_cons (g := 29000032) (s0 := slices_IndexFunc_era_Turn_1_S) slices_IndexFunc_era_Turn_1_ok lkΓ_nil) (by decide +kernel) (by decide +kernel) (fun _ _ _ => rfl) slices_ContainsFunc_era_Turn_1_cuts (fun x => slices_ContainsFunc_era_Turn_1_run  x), bodied_of Try.func26 (by decide +kernel) (by decide +kernel)⟩

/-! tendril/era.Turn -/
def era_Turn (x : Int × List Int) : Option ((Int × List Int) × Bool) :=
  (era_Check ((x.1, x.2))).bind fun r0 =>
  bif r0 != (0 : Int) then
    some ((((0 : Int), []), Bool.false))
  else
    (slices_Clone (x.2)).bind fun r1 =>
    bif x.1 == (1152921504606846976 : Int) then
      some (((x.1, r1), Bool.false))
    else
      (slices_ContainsFunc_era_Turn_1 ((x.2, x.1, x.2))).bind fun r2 =>
      bif r2 then
        some (((x.1, r1), Bool.false))
      else
        some (((Go.RowKit.wrap64 (x.1 + (1 : Int)), r1), Bool.true))
def era_Turn_S : Sig := ⟨[⟨true, (.pair .int (.sl .int))⟩], [⟨true, (.pair .int (.sl .int))⟩, ⟨false, .bool⟩], true, era_Turn⟩
set_option maxRecDepth 100000 in
theorem era_Turn_run (x : Tup [⟨true, (.pair .int (.sl .int))⟩]) : (pxFn Try.prog (lkΓ [(10, era_Check_S), (27, slices_Clone_S), (29000026, slices_ContainsFunc_era_Turn_1_S)]) [] Try.f11 (bodyOf Try.f11) true [⟨true, (.pair .int (.sl .int))⟩, ⟨false, .bool⟩] (encTup [⟨true, (.pair .int (.sl .int))⟩] x)).run (fun _ _ _ => none) = era_Turn x := by kernel_rfl
theorem era_Turn_cuts : ∀ p ∈ cuts Try.prog (lkΓ [(10, era_Check_S), (27, slices_Clone_S), (29000026, slices_ContainsFunc_era_Turn_1_S)]) Try.f11.ntmps [] (bodyOf Try.f11) (κ0 Try.prog Try.f11 true [⟨true, (.pair .int (.sl .int))⟩, ⟨false, .bool⟩]), CutOk (fun _ _ _ _ => none) p := cutsNil (by kernel_rfl)
theorem era_Turn_ok : SigOk Try.prog 11 era_Turn_S ∧ Bodied Try.prog 11 :=
  ⟨fn_sound (s := era_Turn_S) (T := []) (Λ := fun _ _ _ _ => none) 0 Try.func11 (c := bodyOf Try.f11) (by kernel_rfl) (by kernel_rfl) (lkΓ_cons (g := 10) (s0 := era_Check_S) era_Check_ok (lkΓ_cons (g := 27) (s0 := slices_Clone_S) slices_Clone_ok (lkΓ_cons (g := 29000026) (s0 := slices_ContainsFunc_era_Turn_1_S) slices_ContainsFunc_era_Turn_1_ok lkΓ_nil))) (by decide +kernel) (by decide +kernel) (fun _ _ _ => rfl) era_Turn_cuts (fun x => era_Turn_run  x), bodied_of Try.func11 (by decide +kernel) (by decide +kernel)⟩

/-! math/bits.Mul32 -/
def math_bits_Mul32 (x : Int × Int) : Option (Int × Int) :=
  some ((Go.IntKind.u32.wrap ((Go.IntKind.u64.wrap (Go.IntKind.u64.wrap x.1 * Go.IntKind.u64.wrap x.2)).fdiv ((2 : Int) ^ Min.min (Int.toNat (32 : Int)) Go.IntKind.u64.bits)), Go.IntKind.u32.wrap (Go.IntKind.u64.wrap (Go.IntKind.u64.wrap x.1 * Go.IntKind.u64.wrap x.2))))
def math_bits_Mul32_S : Sig := ⟨[⟨false, (.num .u32)⟩, ⟨false, (.num .u32)⟩], [⟨false, (.num .u32)⟩, ⟨false, (.num .u32)⟩], false, math_bits_Mul32⟩
set_option maxRecDepth 100000 in
theorem math_bits_Mul32_run (x : Tup [⟨false, (.num .u32)⟩, ⟨false, (.num .u32)⟩]) : (pxFn Try.prog (lkΓ []) [] Try.f34 (bodyOf Try.f34) false [⟨false, (.num .u32)⟩, ⟨false, (.num .u32)⟩] (encTup [⟨false, (.num .u32)⟩, ⟨false, (.num .u32)⟩] x)).run (fun _ _ _ => none) = math_bits_Mul32 x := by kernel_rfl
theorem math_bits_Mul32_cuts : ∀ p ∈ cuts Try.prog (lkΓ []) Try.f34.ntmps [] (bodyOf Try.f34) (κ0 Try.prog Try.f34 false [⟨false, (.num .u32)⟩, ⟨false, (.num .u32)⟩]), CutOk (fun _ _ _ _ => none) p := cutsNil (by kernel_rfl)
theorem math_bits_Mul32_ok : SigOk Try.prog 34 math_bits_Mul32_S ∧ Bodied Try.prog 34 :=
  ⟨fn_sound (s := math_bits_Mul32_S) (T := []) (Λ := fun _ _ _ _ => none) 0 Try.func34 (c := bodyOf Try.f34) (by kernel_rfl) (by kernel_rfl) lkΓ_nil (by decide +kernel) (by decide +kernel) (fun _ _ _ => rfl) math_bits_Mul32_cuts (fun x => math_bits_Mul32_run  x), bodied_of Try.func34 (by decide +kernel) (by decide +kernel)⟩

/-! math/bits.Mul64 -/
def math_bits_Mul64 (x : Int × Int) : Option (Int × Int) :=
  some ((Go.IntKind.u64.wrap (Go.IntKind.u64.wrap (Go.IntKind.u64.wrap (Int.fdiv x.1 ((2 : Int) ^ Min.min (Int.toNat (32 : Int)) Go.IntKind.u64.bits) * Int.fdiv x.2 ((2 : Int) ^ Min.min (Int.toNat (32 : Int)) Go.IntKind.u64.bits)) + (Go.IntKind.u64.wrap (Go.IntKind.u64.wrap (Int.fdiv x.1 ((2 : Int) ^ Min.min (Int.toNat (32 : Int)) Go.IntKind.u64.bits) * Go.bits Go.BinOp.and Go.IntKind.u64 x.2 (4294967295 : Int)) + (Go.IntKind.u64.wrap (Go.bits Go.BinOp.and Go.IntKind.u64 x.1 (4294967295 : Int) * Go.bits Go.BinOp.and Go.IntKind.u64 x.2 (4294967295 : Int))).fdiv ((2 : Int) ^ Min.min (Int.toNat (32 : Int)) Go.IntKind.u64.bits))).fdiv ((2 : Int) ^ Min.min (Int.toNat (32 : Int)) Go.IntKind.u64.bits)) + (Go.IntKind.u64.wrap (Go.bits Go.BinOp.and Go.IntKind.u64 (Go.IntKind.u64.wrap (Go.IntKind.u64.wrap (Int.fdiv x.1 ((2 : Int) ^ Min.min (Int.toNat (32 : Int)) Go.IntKind.u64.bits) * Go.bits Go.BinOp.and Go.IntKind.u64 x.2 (4294967295 : Int)) + (Go.IntKind.u64.wrap (Go.bits Go.BinOp.and Go.IntKind.u64 x.1 (4294967295 : Int) * Go.bits Go.BinOp.and Go.IntKind.u64 x.2 (4294967295 : Int))).fdiv ((2 : Int) ^ Min.min (Int.toNat (32 : Int)) Go.IntKind.u64.bits))) (4294967295 : Int) + Go.IntKind.u64.wrap (Go.bits Go.BinOp.and Go.IntKind.u64 x.1 (4294967295 : Int) * Int.fdiv x.2 ((2 : Int) ^ Min.min (Int.toNat (32 : Int)) Go.IntKind.u64.bits)))).fdiv ((2 : Int) ^ Min.min (Int.toNat (32 : Int)) Go.IntKind.u64.bits)), Go.IntKind.u64.wrap (x.1 * x.2)))
def math_bits_Mul64_S : Sig := ⟨[⟨false, (.num .u64)⟩, ⟨false, (.num .u64)⟩], [⟨false, (.num .u64)⟩, ⟨false, (.num .u64)⟩], false, math_bits_Mul64⟩
set_option maxRecDepth 100000 in
theorem math_bits_Mul64_run (x : Tup [⟨false, (.num .u64)⟩, ⟨false, (.num .u64)⟩]) : (pxFn Try.prog (lkΓ []) [] Try.f35 (bodyOf Try.f35) false [⟨false, (.num .u64)⟩, ⟨false, (.num .u64)⟩] (encTup [⟨false, (.num .u64)⟩, ⟨false, (.num .u64)⟩] x)).run (fun _ _ _ => none) = math_bits_Mul64 x := by kernel_rfl
theorem math_bits_Mul64_cuts : ∀ p ∈ cuts Try.prog (lkΓ []) Try.f35.ntmps [] (bodyOf Try.f35) (κ0 Try.prog Try.f35 false [⟨false, (.num .u64)⟩, ⟨false, (.num .u64)⟩]), CutOk (fun _ _ _ _ => none) p := cutsNil (by kernel_rfl)
theorem math_bits_Mul64_ok : SigOk Try.prog 35 math_bits_Mul64_S ∧ Bodied Try.prog 35 :=
  ⟨fn_sound (s := math_bits_Mul64_S) (T := []) (Λ := fun _ _ _ _ => none) 0 Try.func35 (c := bodyOf Try.f35) (by kernel_rfl) (by kernel_rfl) lkΓ_nil (by decide +kernel) (by decide +kernel) (fun _ _ _ => rfl) math_bits_Mul64_cuts (fun x => math_bits_Mul64_run  x), bodied_of Try.func35 (by decide +kernel) (by decide +kernel)⟩

/-! math/bits.Mul -/
def math_bits_Mul (x : Int × Int) : Option (Int × Int) :=
  (math_bits_Mul64 ((x.1, x.2))).bind fun r0 =>
  some ((r0.1, r0.2))
def math_bits_Mul_S : Sig := ⟨[⟨false, (.num .u64)⟩, ⟨false, (.num .u64)⟩], [⟨false, (.num .u64)⟩, ⟨false, (.num .u64)⟩], false, math_bits_Mul⟩
set_option maxRecDepth 100000 in
theorem math_bits_Mul_run (x : Tup [⟨false, (.num .u64)⟩, ⟨false, (.num .u64)⟩]) : (pxFn Try.prog (lkΓ [(34, math_bits_Mul32_S), (35, math_bits_Mul64_S)]) [] Try.f33 (bodyOf Try.f33) false [⟨false, (.num .u64)⟩, ⟨false, (.num .u64)⟩] (encTup [⟨false, (.num .u64)⟩, ⟨false, (.num .u64)⟩] x)).run (fun _ _ _ => none) = math_bits_Mul x := by kernel_rfl
theorem math_bits_Mul_cuts : ∀ p ∈ cuts Try.prog (lkΓ [(34, math_bits_Mul32_S), (35, math_bits_Mul64_S)]) Try.f33.ntmps [] (bodyOf Try.f33) (κ0 Try.prog Try.f33 false [⟨false, (.num .u64)⟩, ⟨false, (.num .u64)⟩]), CutOk (fun _ _ _ _ => none) p := cutsNil (by kernel_rfl)
theorem math_bits_Mul_ok : SigOk Try.prog 33 math_bits_Mul_S ∧ Bodied Try.prog 33 :=
  ⟨fn_sound (s := math_bits_Mul_S) (T := []) (Λ := fun _ _ _ _ => none) 0 Try.func33 (c := bodyOf Try.f33) (by kernel_rfl) (by kernel_rfl) (lkΓ_cons (g := 34) (s0 := math_bits_Mul32_S) math_bits_Mul32_ok (lkΓ_cons (g := 35) (s0 := math_bits_Mul64_S) math_bits_Mul64_ok lkΓ_nil)) (by decide +kernel) (by decide +kernel) (fun _ _ _ => rfl) math_bits_Mul_cuts (fun x => math_bits_Mul_run  x), bodied_of Try.func33 (by decide +kernel) (by decide +kernel)⟩

/-! slices.Repeat[[]int,int] -/
def slices_Repeat_L18 : Nat → (Int) → (List Int) → Option (List Int)
  | 0, _, _ => none
  | k + 1, p0, p1 =>
    bif Decidable.decide (p0 < (↑p1.length : Int)) then
      bif Decidable.decide ((↑(0 : Nat) : Int) ≤ p0) then
        bif Decidable.decide (p0 ≤ (↑p1.length : Int)) then
          bif Decidable.decide ((↑(0 : Nat) : Int) ≤ p0) then
            bif Decidable.decide (p0 ≤ (↑p1.length : Int)) then
              slices_Repeat_L18 k (Go.RowKit.wrap64 (p0 + (↑(Min.min (List.drop (0 : Nat) (List.take p0.toNat p1)).length (p1.length - p0.toNat)) : Int))) (List.take p0.toNat p1 ++ List.take (Min.min (List.drop (0 : Nat) (List.take p0.toNat p1)).length (p1.length - p0.toNat)) (List.drop (0 : Nat) (List.take p0.toNat p1)) ++ List.drop (p0.toNat + Min.min (List.drop (0 : Nat) (List.take p0.toNat p1)).length (p1.length - p0.toNat)) p1)
            else
              none
          else
            none
        else
          none
      else
        none
    else
      some (p1)
def slices_Repeat_P18v0 (k : Nat) (vs : List SV) (bs : List Blk) : Option (Option (List Int)) := match vs, bs with
  | [.val (.one (.row 0)), .val (.one (.int .i64 p0))], [.row .int p1] => some (slices_Repeat_L18 k p0 p1)
  | _, _ => none
def slices_Repeat_P18 (k : Nat) (vs : List SV) (bs : List Blk) : Option (List Int) := match slices_Repeat_P18v0 k vs bs with | some r => r | none => none
def slices_Repeat_Λ (k L : Nat) (vs : List SV) (bs : List Blk) : Option (List Int) := match Nat.beq L 18 with | true => slices_Repeat_P18 k vs bs | false => none
def slices_Repeat_K (K : Nat) (x : List Int × Int) : Option (List Int) :=
  bif Decidable.decide (x.2 < (0 : Int)) then
    none
  else
    (math_bits_Mul ((Go.IntKind.u64.wrap (↑(List.length x.1) : Int), Go.IntKind.u64.wrap x.2))).bind fun r0 =>
    bif Decidable.decide ((0 : Int) < r0.1) then
      none
    else
      bif Decidable.decide ((9223372036854775807 : Int) < r0.2) then
        none
      else
        bif Decidable.decide ((0 : Int) ≤ Go.RowKit.wrap64 r0.2) then
          bif Decidable.decide (Go.RowKit.wrap64 r0.2 ≤ (1000000 : Int)) then
            slices_Repeat_L18 K ((↑(Min.min (List.length x.1) (List.replicate (Go.RowKit.wrap64 r0.2).toNat (0 : Int)).length) : Int)) (List.take (Min.min (List.length x.1) (List.replicate (Go.RowKit.wrap64 r0.2).toNat (0 : Int)).length) x.1 ++ List.drop ((0 : Nat) + Min.min (List.length x.1) (List.replicate (Go.RowKit.wrap64 r0.2).toNat (0 : Int)).length) (List.replicate (Go.RowKit.wrap64 r0.2).toNat (0 : Int)))
          else
            none
        else
          none
def slices_Repeat (x : (List Int) × Int) : Option ((List Int)) := slices_Repeat_K 2000000 x
def slices_Repeat_S : Sig := ⟨[⟨false, (.sl .int)⟩, ⟨false, .int⟩], [⟨false, (.sl .int)⟩], true, slices_Repeat⟩
noncomputable def slices_Repeat_C : List (Cut (Tup [⟨false, (.sl .int)⟩])) := cuts Try.prog (lkΓ [(33, math_bits_Mul_S), (flagK, flagS)]) Try.f29.ntmps [(18, [7, 8])] (bodyOf Try.f29) (κ0 Try.prog Try.f29 true [⟨false, (.sl .int)⟩])
set_option maxRecDepth 100000 in
theorem slices_Repeat_c18 (k : Nat) (p0 : Int) (p1 : List Int) : ((nthC slices_Repeat_C 0).g (mkSt [7, 8] [.val (.one (.row 0)), .val (.one (.int .i64 p0))] [.row .int p1])).run (slices_Repeat_Λ k) = slices_Repeat_L18 (k + 1) p0 p1 := by kernel_rfl
theorem slices_Repeat_e18 (k : Nat) (vs : List SV) (bs : List Blk) (r : (List Int)) (h : slices_Repeat_P18v0 (k + 1) vs bs = some (some r)) : ((nthC slices_Repeat_C 0).g (mkSt [7, 8] vs bs)).run (slices_Repeat_Λ k) = some r := by
  unfold slices_Repeat_P18v0 at h
  split at h
  · exact (slices_Repeat_c18 k _ _).trans (Option.some.inj h)
  · cases h
theorem slices_Repeat_d18 : CutOk slices_Repeat_Λ (nthC slices_Repeat_C 0) := by
  refine cutOk_of (L := 18) (live := [7, 8]) (by kernel_rfl) (by kernel_rfl) fun k vs bs r h => ?_
  change slices_Repeat_P18 (k + 1) vs bs = some r at h
  unfold slices_Repeat_P18 at h
  split at h
  · rename_i q hq
    exact slices_Repeat_e18 k vs bs r (hq.trans (congrArg some h))
  cases h
theorem slices_Repeat_cuts : ∀ p ∈ cuts Try.prog (lkΓ [(33, math_bits_Mul_S), (flagK, flagS)]) Try.f29.ntmps [(18, [7, 8])] (bodyOf Try.f29) (κ0 Try.prog Try.f29 true [⟨false, (.sl .int)⟩]), CutOk slices_Repeat_Λ p := cutsOk (l := slices_Repeat_C) (n := 1) (by kernel_rfl) fun
  | 0, _ => slices_Repeat_d18
  | k + 1, h => absurd h (by omega)
theorem slices_Repeat_z18 (vs : List SV) (bs : List Blk) (q : Option ((List Int))) (h : slices_Repeat_P18v0 0 vs bs = some q) : q = none := by
  unfold slices_Repeat_P18v0 at h; split at h
  · have h := Option.some.inj h; rw [← h]; first | rfl | (unfold slices_Repeat_L18; rfl)
  · cases h
theorem slices_Repeat_Λ0 (L : Nat) (vs : List SV) (bs : List Blk) : slices_Repeat_Λ 0 L vs bs = none := by
  unfold slices_Repeat_Λ
  split
  · unfold slices_Repeat_P18
    split
    · rename_i q hq; exact slices_Repeat_z18 _ _ q hq
    rfl
  rfl
set_option maxRecDepth 100000 in
theorem slices_Repeat_run (K : Nat) (x : Tup [⟨false, (.sl .int)⟩, ⟨false, .int⟩]) : (pxFn Try.prog (lkΓ [(33, math_bits_Mul_S), (flagK, flagS)]) [(18, [7, 8])] Try.f29 (bodyOf Try.f29) true [⟨false, (.sl .int)⟩] (encTup [⟨false, (.sl .int)⟩, ⟨false, .int⟩] x)).run (slices_Repeat_Λ K) = slices_Repeat_K K x := by kernel_rfl
theorem slices_Repeat_ok : SigOk Try.prog 29 slices_Repeat_S ∧ Bodied Try.prog 29 :=
  ⟨fn_sound (s := slices_Repeat_S) (T := [(18, [7, 8])]) (Λ := slices_Repeat_Λ) 2000000 Try.func29 (c := bodyOf Try.f29) (by kernel_rfl) (by kernel_rfl) (lkΓ_cons (g := 33) (s0 := math_bits_Mul_S) math_bits_Mul_ok (lkΓ_flag (s0 := flagS) lkΓ_nil)) (by decide +kernel) (by decide +kernel) slices_Repeat_Λ0 slices_Repeat_cuts (fun x => slices_Repeat_run 2000000 x), bodied_of Try.func29 (by decide +kernel) (by decide +kernel)⟩

/-! tendril/era.New -/
def era_New (x : Int) : Option ((Int × List Int) × Int) :=
  bif Decidable.decide (x < (1 : Int)) then
    some ((((0 : Int), []), (1 : Int)))
  else
    bif Decidable.decide ((64 : Int) < x) then
      some ((((0 : Int), []), (1 : Int)))
    else
      (slices_Repeat (([(-1 : Int)], x))).bind fun r0 =>
      some ((((0 : Int), r0), (0 : Int)))
def era_New_S : Sig := ⟨[⟨false, .int⟩], [⟨true, (.pair .int (.sl .int))⟩, ⟨false, .int⟩], true, era_New⟩
set_option maxRecDepth 100000 in
theorem era_New_run (x : Tup [⟨false, .int⟩]) : (pxFn Try.prog (lkΓ [(29, slices_Repeat_S)]) [] Try.f13 (bodyOf Try.f13) true [⟨true, (.pair .int (.sl .int))⟩, ⟨false, .int⟩] (encTup [⟨false, .int⟩] x)).run (fun _ _ _ => none) = era_New x := by kernel_rfl
theorem era_New_cuts : ∀ p ∈ cuts Try.prog (lkΓ [(29, slices_Repeat_S)]) Try.f13.ntmps [] (bodyOf Try.f13) (κ0 Try.prog Try.f13 true [⟨true, (.pair .int (.sl .int))⟩, ⟨false, .int⟩]), CutOk (fun _ _ _ _ => none) p := cutsNil (by kernel_rfl)
theorem era_New_ok : SigOk Try.prog 13 era_New_S ∧ Bodied Try.prog 13 :=
  ⟨fn_sound (s := era_New_S) (T := []) (Λ := fun _ _ _ _ => none) 0 Try.func13 (c := bodyOf Try.f13) (by kernel_rfl) (by kernel_rfl) (lkΓ_cons (g := 29) (s0 := slices_Repeat_S) slices_Repeat_ok lkΓ_nil) (by decide +kernel) (by decide +kernel) (fun _ _ _ => rfl) era_New_cuts (fun x => era_New_run  x), bodied_of Try.func13 (by decide +kernel) (by decide +kernel)⟩

/-! tendril/era.pinned -/
def era_pinned (x : (Int × List Int) × Int) : Option (Int × Int) :=
  (era_Check ((x.fst.1, x.fst.2))).bind fun r0 =>
  bif r0 != (0 : Int) then
    some (((0 : Int), (1 : Int)))
  else
    bif Decidable.decide (x.2 < (0 : Int)) then
      some (((0 : Int), (1 : Int)))
    else
      bif Decidable.decide ((↑(List.length x.fst.2) : Int) ≤ x.2) then
        some (((0 : Int), (1 : Int)))
      else
        bif Decidable.decide ((0 : Int) ≤ x.2) then
          bif Decidable.decide (x.2 < (↑(List.length x.fst.2) : Int)) then
            some ((List.getD x.fst.2 (Int.toNat x.2) (0 : Int), (0 : Int)))
          else
            none
        else
          none
def era_pinned_S : Sig := ⟨[⟨true, (.pair .int (.sl .int))⟩, ⟨false, .int⟩], [⟨false, .int⟩, ⟨false, .int⟩], false, era_pinned⟩
set_option maxRecDepth 100000 in
theorem era_pinned_run (x : Tup [⟨true, (.pair .int (.sl .int))⟩, ⟨false, .int⟩]) : (pxFn Try.prog (lkΓ [(10, era_Check_S)]) [] Try.f30 (bodyOf Try.f30) false [⟨false, .int⟩, ⟨false, .int⟩] (encTup [⟨true, (.pair .int (.sl .int))⟩, ⟨false, .int⟩] x)).run (fun _ _ _ => none) = era_pinned x := by kernel_rfl
theorem era_pinned_cuts : ∀ p ∈ cuts Try.prog (lkΓ [(10, era_Check_S)]) Try.f30.ntmps [] (bodyOf Try.f30) (κ0 Try.prog Try.f30 false [⟨false, .int⟩, ⟨false, .int⟩]), CutOk (fun _ _ _ _ => none) p := cutsNil (by kernel_rfl)
theorem era_pinned_ok : SigOk Try.prog 30 era_pinned_S ∧ Bodied Try.prog 30 :=
  ⟨fn_sound (s := era_pinned_S) (T := []) (Λ := fun _ _ _ _ => none) 0 Try.func30 (c := bodyOf Try.f30) (by kernel_rfl) (by kernel_rfl) (lkΓ_cons (g := 10) (s0 := era_Check_S) era_Check_ok lkΓ_nil) (by decide +kernel) (by decide +kernel) (fun _ _ _ => rfl) era_pinned_cuts (fun x => era_pinned_run  x), bodied_of Try.func30 (by decide +kernel) (by decide +kernel)⟩

/-! tendril/era.with -/
def era_with (x : (Int × List Int) × Int × Int) : Option (Int × List Int) :=
  (slices_Clone (x.fst.2)).bind fun r0 =>
  bif Decidable.decide ((0 : Int) ≤ x.snd.1) then
    bif Decidable.decide (x.snd.1 < (↑(List.length r0) : Int)) then
      some ((x.fst.1, List.set r0 (Int.toNat x.snd.1) x.snd.2))
    else
      none
  else
    none
def era_with_S : Sig := ⟨[⟨true, (.pair .int (.sl .int))⟩, ⟨false, .int⟩, ⟨false, .int⟩], [⟨true, (.pair .int (.sl .int))⟩], true, era_with⟩
set_option maxRecDepth 100000 in
theorem era_with_run (x : Tup [⟨true, (.pair .int (.sl .int))⟩, ⟨false, .int⟩, ⟨false, .int⟩]) : (pxFn Try.prog (lkΓ [(27, slices_Clone_S)]) [] Try.f31 (bodyOf Try.f31) true [⟨true, (.pair .int (.sl .int))⟩] (encTup [⟨true, (.pair .int (.sl .int))⟩, ⟨false, .int⟩, ⟨false, .int⟩] x)).run (fun _ _ _ => none) = era_with x := by kernel_rfl
theorem era_with_cuts : ∀ p ∈ cuts Try.prog (lkΓ [(27, slices_Clone_S)]) Try.f31.ntmps [] (bodyOf Try.f31) (κ0 Try.prog Try.f31 true [⟨true, (.pair .int (.sl .int))⟩]), CutOk (fun _ _ _ _ => none) p := cutsNil (by kernel_rfl)
theorem era_with_ok : SigOk Try.prog 31 era_with_S ∧ Bodied Try.prog 31 :=
  ⟨fn_sound (s := era_with_S) (T := []) (Λ := fun _ _ _ _ => none) 0 Try.func31 (c := bodyOf Try.f31) (by kernel_rfl) (by kernel_rfl) (lkΓ_cons (g := 27) (s0 := slices_Clone_S) slices_Clone_ok lkΓ_nil) (by decide +kernel) (by decide +kernel) (fun _ _ _ => rfl) era_with_cuts (fun x => era_with_run  x), bodied_of Try.func31 (by decide +kernel) (by decide +kernel)⟩

/-! tendril/era.Pin -/
def era_Pin (x : (Int × List Int) × Int) : Option ((Int × List Int) × Int) :=
  (era_pinned (((x.fst.1, x.fst.2), x.2))).bind fun r0 =>
  bif r0.2 != (0 : Int) then
    some ((((0 : Int), []), (1 : Int)))
  else
    bif r0.1 != (-1 : Int) then
      some ((((0 : Int), []), (1 : Int)))
    else
      (era_with (((x.fst.1, x.fst.2), x.2, x.fst.1))).bind fun r1 =>
      some (((r1.1, r1.2), (0 : Int)))
def era_Pin_S : Sig := ⟨[⟨true, (.pair .int (.sl .int))⟩, ⟨false, .int⟩], [⟨true, (.pair .int (.sl .int))⟩, ⟨false, .int⟩], true, era_Pin⟩
set_option maxRecDepth 100000 in
theorem era_Pin_run (x : Tup [⟨true, (.pair .int (.sl .int))⟩, ⟨false, .int⟩]) : (pxFn Try.prog (lkΓ [(30, era_pinned_S), (31, era_with_S)]) [] Try.f19 (bodyOf Try.f19) true [⟨true, (.pair .int (.sl .int))⟩, ⟨false, .int⟩] (encTup [⟨true, (.pair .int (.sl .int))⟩, ⟨false, .int⟩] x)).run (fun _ _ _ => none) = era_Pin x := by kernel_rfl
theorem era_Pin_cuts : ∀ p ∈ cuts Try.prog (lkΓ [(30, era_pinned_S), (31, era_with_S)]) Try.f19.ntmps [] (bodyOf Try.f19) (κ0 Try.prog Try.f19 true [⟨true, (.pair .int (.sl .int))⟩, ⟨false, .int⟩]), CutOk (fun _ _ _ _ => none) p := cutsNil (by kernel_rfl)
theorem era_Pin_ok : SigOk Try.prog 19 era_Pin_S ∧ Bodied Try.prog 19 :=
  ⟨fn_sound (s := era_Pin_S) (T := []) (Λ := fun _ _ _ _ => none) 0 Try.func19 (c := bodyOf Try.f19) (by kernel_rfl) (by kernel_rfl) (lkΓ_cons (g := 30) (s0 := era_pinned_S) era_pinned_ok (lkΓ_cons (g := 31) (s0 := era_with_S) era_with_ok lkΓ_nil)) (by decide +kernel) (by decide +kernel) (fun _ _ _ => rfl) era_Pin_cuts (fun x => era_Pin_run  x), bodied_of Try.func19 (by decide +kernel) (by decide +kernel)⟩

/-! tendril/tendrillaw06.live -/
def tendrillaw06_live (x : Unit) : Option (Bool) :=
  (era_New ((2 : Int))).bind fun r0 =>
  (era_Pin (((r0.fst.1, r0.fst.2), (1 : Int)))).bind fun r1 =>
  (era_Turn ((r1.fst.1, r1.fst.2))).bind fun r2 =>
  (era_Turn ((r2.fst.1, r2.fst.2))).bind fun r3 =>
  bif r0.2 == (0 : Int) then
    bif r1.2 == (0 : Int) then
      bif r2.2 then
        some (!r3.2)
      else
        some (Bool.false)
    else
      some (Bool.false)
  else
    some (Bool.false)
def tendrillaw06_live_S : Sig := ⟨[], [⟨false, .bool⟩], false, tendrillaw06_live⟩
set_option maxRecDepth 100000 in
theorem tendrillaw06_live_run (x : Tup []) : (pxFn Try.prog (lkΓ [(11, era_Turn_S), (13, era_New_S), (19, era_Pin_S)]) [] Try.f9 (bodyOf Try.f9) false [⟨false, .bool⟩] (encTup [] x)).run (fun _ _ _ => none) = tendrillaw06_live x := by kernel_rfl
theorem tendrillaw06_live_cuts : ∀ p ∈ cuts Try.prog (lkΓ [(11, era_Turn_S), (13, era_New_S), (19, era_Pin_S)]) Try.f9.ntmps [] (bodyOf Try.f9) (κ0 Try.prog Try.f9 false [⟨false, .bool⟩]), CutOk (fun _ _ _ _ => none) p := cutsNil (by kernel_rfl)
theorem tendrillaw06_live_ok : SigOk Try.prog 9 tendrillaw06_live_S ∧ Bodied Try.prog 9 :=
  ⟨fn_sound (s := tendrillaw06_live_S) (T := []) (Λ := fun _ _ _ _ => none) 0 Try.func9 (c := bodyOf Try.f9) (by kernel_rfl) (by kernel_rfl) (lkΓ_cons (g := 11) (s0 := era_Turn_S) era_Turn_ok (lkΓ_cons (g := 13) (s0 := era_New_S) era_New_ok (lkΓ_cons (g := 19) (s0 := era_Pin_S) era_Pin_ok lkΓ_nil))) (by decide +kernel) (by decide +kernel) (fun _ _ _ => rfl) tendrillaw06_live_cuts (fun x => tendrillaw06_live_run  x), bodied_of Try.func9 (by decide +kernel) (by decide +kernel)⟩

/-! tendril/tendrilref02.Same -/
def tendrilref02_Same_L10 : Nat → (List Int) → (List Int) → (Int) → (Int) → Option (Bool)
  | 0, _, _, _, _ => none
  | k + 1, p0, p1, p2, p3 =>
    bif Decidable.decide (p3 < p2) then
      bif Decidable.decide ((0 : Int) ≤ p3) then
        bif Decidable.decide (p3 < (↑p0.length : Int)) then
          bif Decidable.decide ((0 : Int) ≤ p3) then
            bif Decidable.decide (p3 < (↑p1.length : Int)) then
              bif p0.getD p3.toNat (0 : Int) != p1.getD p3.toNat (0 : Int) then
                some (Bool.false)
              else
                tendrilref02_Same_L10 k (p0) (p1) (p2) (Go.RowKit.wrap64 (p3 + (1 : Int)))
            else
              none
          else
            none
        else
          none
      else
        none
    else
      some (Bool.true)
def tendrilref02_Same_P10v0 (k : Nat) (vs : List SV) (bs : List Blk) : Option (Option (Bool)) := match vs, bs with
  | [.val (.one (.sl .int p0)), .val (.one (.sl .int p1)), .val (.one (.int .i64 p2)), .val (.one (.int .i64 p3))], [] => some (tendrilref02_Same_L10 k p0 p1 p2 p3)
  | _, _ => none
def tendrilref02_Same_P10 (k : Nat) (vs : List SV) (bs : List Blk) : Option (Bool) := match tendrilref02_Same_P10v0 k vs bs with | some r => r | none => none
def tendrilref02_Same_Λ (k L : Nat) (vs : List SV) (bs : List Blk) : Option (Bool) := match Nat.beq L 10 with | true => tendrilref02_Same_P10 k vs bs | false => none
def tendrilref02_Same_K (K : Nat) (x : List Int × List Int) : Option (Bool) :=
  bif (↑(List.length x.1) : Int) != (↑(List.length x.2) : Int) then
    some (Bool.false)
  else
    tendrilref02_Same_L10 K (x.1) (x.2) ((↑(List.length x.1) : Int)) ((0 : Int))
def tendrilref02_Same (x : (List Int) × (List Int)) : Option (Bool) := tendrilref02_Same_K 2000000 x
def tendrilref02_Same_S : Sig := ⟨[⟨false, (.sl .int)⟩, ⟨false, (.sl .int)⟩], [⟨false, .bool⟩], false, tendrilref02_Same⟩
noncomputable def tendrilref02_Same_C : List (Cut (Tup [⟨false, .bool⟩])) := cuts Try.prog (lkΓ []) Try.f24.ntmps [(10, [0, 1, 12, 13])] (bodyOf Try.f24) (κ0 Try.prog Try.f24 false [⟨false, .bool⟩])
set_option maxRecDepth 100000 in
theorem tendrilref02_Same_c10 (k : Nat) (p0 : List Int) (p1 : List Int) (p2 : Int) (p3 : Int) : ((nthC tendrilref02_Same_C 0).g (mkSt [0, 1, 12, 13] [.val (.one (.sl .int p0)), .val (.one (.sl .int p1)), .val (.one (.int .i64 p2)), .val (.one (.int .i64 p3))] [])).run (tendrilref02_Same_Λ k) = tendrilref02_Same_L10 (k + 1) p0 p1 p2 p3 := by kernel_rfl
theorem tendrilref02_Same_e10 (k : Nat) (vs : List SV) (bs : List Blk) (r : Bool) (h : tendrilref02_Same_P10v0 (k + 1) vs bs = some (some r)) : ((nthC tendrilref02_Same_C 0).g (mkSt [0, 1, 12, 13] vs bs)).run (tendrilref02_Same_Λ k) = some r := by
  unfold tendrilref02_Same_P10v0 at h
  split at h
  · exact (tendrilref02_Same_c10 k _ _ _ _).trans (Option.some.inj h)
  · cases h
theorem tendrilref02_Same_d10 : CutOk tendrilref02_Same_Λ (nthC tendrilref02_Same_C 0) := by
  refine cutOk_of (L := 10) (live := [0, 1, 12, 13]) (by kernel_rfl) (by kernel_rfl) fun k vs bs r h => ?_
  change tendrilref02_Same_P10 (k + 1) vs bs = some r at h
  unfold tendrilref02_Same_P10 at h
  split at h
  · rename_i q hq
    exact tendrilref02_Same_e10 k vs bs r (hq.trans (congrArg some h))
  cases h
theorem tendrilref02_Same_cuts : ∀ p ∈ cuts Try.prog (lkΓ []) Try.f24.ntmps [(10, [0, 1, 12, 13])] (bodyOf Try.f24) (κ0 Try.prog Try.f24 false [⟨false, .bool⟩]), CutOk tendrilref02_Same_Λ p := cutsOk (l := tendrilref02_Same_C) (n := 1) (by kernel_rfl) fun
  | 0, _ => tendrilref02_Same_d10
  | k + 1, h => absurd h (by omega)
theorem tendrilref02_Same_z10 (vs : List SV) (bs : List Blk) (q : Option (Bool)) (h : tendrilref02_Same_P10v0 0 vs bs = some q) : q = none := by
  unfold tendrilref02_Same_P10v0 at h; split at h
  · have h := Option.some.inj h; rw [← h]; first | rfl | (unfold tendrilref02_Same_L10; rfl)
  · cases h
theorem tendrilref02_Same_Λ0 (L : Nat) (vs : List SV) (bs : List Blk) : tendrilref02_Same_Λ 0 L vs bs = none := by
  unfold tendrilref02_Same_Λ
  split
  · unfold tendrilref02_Same_P10
    split
    · rename_i q hq; exact tendrilref02_Same_z10 _ _ q hq
    rfl
  rfl
set_option maxRecDepth 100000 in
theorem tendrilref02_Same_run (K : Nat) (x : Tup [⟨false, (.sl .int)⟩, ⟨false, (.sl .int)⟩]) : (pxFn Try.prog (lkΓ []) [(10, [0, 1, 12, 13])] Try.f24 (bodyOf Try.f24) false [⟨false, .bool⟩] (encTup [⟨false, (.sl .int)⟩, ⟨false, (.sl .int)⟩] x)).run (tendrilref02_Same_Λ K) = tendrilref02_Same_K K x := by kernel_rfl
theorem tendrilref02_Same_ok : SigOk Try.prog 24 tendrilref02_Same_S ∧ Bodied Try.prog 24 :=
  ⟨fn_sound (s := tendrilref02_Same_S) (T := [(10, [0, 1, 12, 13])]) (Λ := tendrilref02_Same_Λ) 2000000 Try.func24 (c := bodyOf Try.f24) (by kernel_rfl) (by kernel_rfl) lkΓ_nil (by decide +kernel) (by decide +kernel) tendrilref02_Same_Λ0 tendrilref02_Same_cuts (fun x => tendrilref02_Same_run 2000000 x), bodied_of Try.func24 (by decide +kernel) (by decide +kernel)⟩

/-! tendril/tendrilref06.Same -/
def tendrilref06_Same (x : (Int × List Int) × Int × List Int) : Option (Bool) :=
  bif x.fst.1 == x.snd.1 then
    (tendrilref02_Same ((x.fst.2, x.snd.2))).bind fun r0 =>
    some (r0)
  else
    some (Bool.false)
def tendrilref06_Same_S : Sig := ⟨[⟨true, (.pair .int (.sl .int))⟩, ⟨true, (.pair .int (.sl .int))⟩], [⟨false, .bool⟩], false, tendrilref06_Same⟩
set_option maxRecDepth 100000 in
theorem tendrilref06_Same_run (x : Tup [⟨true, (.pair .int (.sl .int))⟩, ⟨true, (.pair .int (.sl .int))⟩]) : (pxFn Try.prog (lkΓ [(24, tendrilref02_Same_S)]) [] Try.f12 (bodyOf Try.f12) false [⟨false, .bool⟩] (encTup [⟨true, (.pair .int (.sl .int))⟩, ⟨true, (.pair .int (.sl .int))⟩] x)).run (fun _ _ _ => none) = tendrilref06_Same x := by kernel_rfl
theorem tendrilref06_Same_cuts : ∀ p ∈ cuts Try.prog (lkΓ [(24, tendrilref02_Same_S)]) Try.f12.ntmps [] (bodyOf Try.f12) (κ0 Try.prog Try.f12 false [⟨false, .bool⟩]), CutOk (fun _ _ _ _ => none) p := cutsNil (by kernel_rfl)
theorem tendrilref06_Same_ok : SigOk Try.prog 12 tendrilref06_Same_S ∧ Bodied Try.prog 12 :=
  ⟨fn_sound (s := tendrilref06_Same_S) (T := []) (Λ := fun _ _ _ _ => none) 0 Try.func12 (c := bodyOf Try.f12) (by kernel_rfl) (by kernel_rfl) (lkΓ_cons (g := 24) (s0 := tendrilref02_Same_S) tendrilref02_Same_ok lkΓ_nil) (by decide +kernel) (by decide +kernel) (fun _ _ _ => rfl) tendrilref06_Same_cuts (fun x => tendrilref06_Same_run  x), bodied_of Try.func12 (by decide +kernel) (by decide +kernel)⟩

/-! tendril/tendrillaw06.EraStuck -/
def tendrillaw06_EraStuck_L18 : Nat → (Int) → (Bool) → (Bool) → (List Int) → (Int) → (Int) → (Int) → (List Int) → (Int) → (List Int) → Option (Bool)
  | 0, _, _, _, _, _, _, _, _, _, _ => none
  | k + 1, p0, p1, p2, p3, p4, p5, p6, p7, p8, p9 =>
    bif Decidable.decide (p5 < p4) then
      bif Decidable.decide ((0 : Int) ≤ p5) then
        bif Decidable.decide (p5 < (↑p3.length : Int)) then
          bif p2 then
            bif p3.getD p5.toNat (0 : Int) == (-1 : Int) then
              tendrillaw06_EraStuck_L18 k (p0) (p1) (Bool.true) (p3) (p4) (Go.RowKit.wrap64 (p5 + (1 : Int))) (p6) (p7) (p8) (p9)
            else
              tendrillaw06_EraStuck_L18 k (p0) (p1) (p3.getD p5.toNat (0 : Int) == p6) (p3) (p4) (Go.RowKit.wrap64 (p5 + (1 : Int))) (p6) (p7) (p8) (p9)
          else
            tendrillaw06_EraStuck_L18 k (p0) (p1) (Bool.false) (p3) (p4) (Go.RowKit.wrap64 (p5 + (1 : Int))) (p6) (p7) (p8) (p9)
        else
          none
      else
        none
    else
      bif !p1 == p2 then
        some (Bool.false)
      else
        bif !p1 then
          (tendrilref06_Same (((p8, p9), p6, p7))).bind fun r3 =>
          bif !r3 then
            some (Bool.false)
          else
            bif !p1 then
              some (Bool.true)
            else
              bif Decidable.decide ((0 : Int) ≤ p0) then
                bif Decidable.decide (p0 < (↑p7.length : Int)) then
                  bif p7.getD p0.toNat (0 : Int) == (-1 : Int) then
                    some (Bool.true)
                  else
                    (era_Turn ((p8, p9))).bind fun r4 =>
                    some (!r4.2)
                else
                  none
              else
                none
        else
          bif !p1 then
            some (Bool.true)
          else
            bif Decidable.decide ((0 : Int) ≤ p0) then
              bif Decidable.decide (p0 < (↑p7.length : Int)) then
                bif p7.getD p0.toNat (0 : Int) == (-1 : Int) then
                  some (Bool.true)
                else
                  (era_Turn ((p8, p9))).bind fun r5 =>
                  some (!r5.2)
              else
                none
            else
              none
def tendrillaw06_EraStuck_P18v0 (k : Nat) (vs : List SV) (bs : List Blk) : Option (Option (Bool)) := match vs, bs with
  | [.val (.one (.int .i64 p0)), .val (.one (.ptr 0 0)), .val (.one (.ptr 1 0)), .val (.one (.bool p1)), .val (.one (.bool p2)), .val (.one (.sl .int p3)), .val (.one (.int .i64 p4)), .val (.one (.int .i64 p5))], [.box [(.int .i64 p6), (.sl .int p7)], .box [(.int .i64 p8), (.row 2)], .row .int p9] => some (tendrillaw06_EraStuck_L18 k p0 p1 p2 p3 p4 p5 p6 p7 p8 p9)
  | _, _ => none
def tendrillaw06_EraStuck_P18 (k : Nat) (vs : List SV) (bs : List Blk) : Option (Bool) := match tendrillaw06_EraStuck_P18v0 k vs bs with | some r => r | none => none
def tendrillaw06_EraStuck_Λ (k L : Nat) (vs : List SV) (bs : List Blk) : Option (Bool) := match Nat.beq L 18 with | true => tendrillaw06_EraStuck_P18 k vs bs | false => none
def tendrillaw06_EraStuck_K (K : Nat) (x : (Int × List Int) × Int) : Option (Bool) :=
  (tendrillaw06_live (())).bind fun r0 =>
  bif !r0 then
    some (Bool.false)
  else
    (era_Check ((x.fst.1, x.fst.2))).bind fun r1 =>
    bif r1 != (0 : Int) then
      some (Bool.true)
    else
      bif Decidable.decide (x.2 < (0 : Int)) then
        some (Bool.true)
      else
        bif Decidable.decide ((↑(List.length x.fst.2) : Int) ≤ x.2) then
          some (Bool.true)
        else
          bif Decidable.decide ((1152921504606846974 : Int) < x.fst.1) then
            some (Bool.true)
          else
            (era_Turn ((x.fst.1, x.fst.2))).bind fun r2 =>
            tendrillaw06_EraStuck_L18 K (x.2) (r2.2) (Bool.true) (x.fst.2) ((↑(List.length x.fst.2) : Int)) ((0 : Int)) (x.fst.1) (x.fst.2) (r2.fst.1) (r2.fst.2)
def tendrillaw06_EraStuck (x : (Int × (List Int)) × Int) : Option (Bool) := tendrillaw06_EraStuck_K 2000000 x
def tendrillaw06_EraStuck_S : Sig := ⟨[⟨true, (.pair .int (.sl .int))⟩, ⟨false, .int⟩], [⟨false, .bool⟩], false, tendrillaw06_EraStuck⟩
noncomputable def tendrillaw06_EraStuck_C : List (Cut (Tup [⟨false, .bool⟩])) := cuts Try.prog (lkΓ [(9, tendrillaw06_live_S), (10, era_Check_S), (11, era_Turn_S), (12, tendrilref06_Same_S)]) Try.f3.ntmps [(18, [1, 2, 5, 6, 7, 39, 40, 41])] (bodyOf Try.f3) (κ0 Try.prog Try.f3 false [⟨false, .bool⟩])
set_option maxRecDepth 100000 in
theorem tendrillaw06_EraStuck_c18 (k : Nat) (p0 : Int) (p1 : Bool) (p2 : Bool) (p3 : List Int) (p4 : Int) (p5 : Int) (p6 : Int) (p7 : List Int) (p8 : Int) (p9 : List Int) : ((nthC tendrillaw06_EraStuck_C 0).g (mkSt [1, 2, 5, 6, 7, 39, 40, 41] [.val (.one (.int .i64 p0)), .val (.one (.ptr 0 0)), .val (.one (.ptr 1 0)), .val (.one (.bool p1)), .val (.one (.bool p2)), .val (.one (.sl .int p3)), .val (.one (.int .i64 p4)), .val (.one (.int .i64 p5))] [.box [(.int .i64 p6), (.sl .int p7)], .box [(.int .i64 p8), (.row 2)], .row .int p9])).run (tendrillaw06_EraStuck_Λ k) = tendrillaw06_EraStuck_L18 (k + 1) p0 p1 p2 p3 p4 p5 p6 p7 p8 p9 := by kernel_rfl
theorem tendrillaw06_EraStuck_e18 (k : Nat) (vs : List SV) (bs : List Blk) (r : Bool) (h : tendrillaw06_EraStuck_P18v0 (k + 1) vs bs = some (some r)) : ((nthC tendrillaw06_EraStuck_C 0).g (mkSt [1, 2, 5, 6, 7, 39, 40, 41] vs bs)).run (tendrillaw06_EraStuck_Λ k) = some r := by
  unfold tendrillaw06_EraStuck_P18v0 at h
  split at h
  · exact (tendrillaw06_EraStuck_c18 k _ _ _ _ _ _ _ _ _ _).trans (Option.some.inj h)
  · cases h
theorem tendrillaw06_EraStuck_d18 : CutOk tendrillaw06_EraStuck_Λ (nthC tendrillaw06_EraStuck_C 0) := by
  refine cutOk_of (L := 18) (live := [1, 2, 5, 6, 7, 39, 40, 41]) (by kernel_rfl) (by kernel_rfl) fun k vs bs r h => ?_
  change tendrillaw06_EraStuck_P18 (k + 1) vs bs = some r at h
  unfold tendrillaw06_EraStuck_P18 at h
  split at h
  · rename_i q hq
    exact tendrillaw06_EraStuck_e18 k vs bs r (hq.trans (congrArg some h))
  cases h
theorem tendrillaw06_EraStuck_cuts : ∀ p ∈ cuts Try.prog (lkΓ [(9, tendrillaw06_live_S), (10, era_Check_S), (11, era_Turn_S), (12, tendrilref06_Same_S)]) Try.f3.ntmps [(18, [1, 2, 5, 6, 7, 39, 40, 41])] (bodyOf Try.f3) (κ0 Try.prog Try.f3 false [⟨false, .bool⟩]), CutOk tendrillaw06_EraStuck_Λ p := cutsOk (l := tendrillaw06_EraStuck_C) (n := 1) (by kernel_rfl) fun
  | 0, _ => tendrillaw06_EraStuck_d18
  | k + 1, h => absurd h (by omega)
theorem tendrillaw06_EraStuck_z18 (vs : List SV) (bs : List Blk) (q : Option (Bool)) (h : tendrillaw06_EraStuck_P18v0 0 vs bs = some q) : q = none := by
  unfold tendrillaw06_EraStuck_P18v0 at h; split at h
  · have h := Option.some.inj h; rw [← h]; first | rfl | (unfold tendrillaw06_EraStuck_L18; rfl)
  · cases h
theorem tendrillaw06_EraStuck_Λ0 (L : Nat) (vs : List SV) (bs : List Blk) : tendrillaw06_EraStuck_Λ 0 L vs bs = none := by
  unfold tendrillaw06_EraStuck_Λ
  split
  · unfold tendrillaw06_EraStuck_P18
    split
    · rename_i q hq; exact tendrillaw06_EraStuck_z18 _ _ q hq
    rfl
  rfl
set_option maxRecDepth 100000 in
theorem tendrillaw06_EraStuck_run (K : Nat) (x : Tup [⟨true, (.pair .int (.sl .int))⟩, ⟨false, .int⟩]) : (pxFn Try.prog (lkΓ [(9, tendrillaw06_live_S), (10, era_Check_S), (11, era_Turn_S), (12, tendrilref06_Same_S)]) [(18, [1, 2, 5, 6, 7, 39, 40, 41])] Try.f3 (bodyOf Try.f3) false [⟨false, .bool⟩] (encTup [⟨true, (.pair .int (.sl .int))⟩, ⟨false, .int⟩] x)).run (tendrillaw06_EraStuck_Λ K) = tendrillaw06_EraStuck_K K x := by kernel_rfl
theorem tendrillaw06_EraStuck_ok : SigOk Try.prog 3 tendrillaw06_EraStuck_S ∧ Bodied Try.prog 3 :=
  ⟨fn_sound (s := tendrillaw06_EraStuck_S) (T := [(18, [1, 2, 5, 6, 7, 39, 40, 41])]) (Λ := tendrillaw06_EraStuck_Λ) 2000000 Try.func3 (c := bodyOf Try.f3) (by kernel_rfl) (by kernel_rfl) (lkΓ_cons (g := 9) (s0 := tendrillaw06_live_S) tendrillaw06_live_ok (lkΓ_cons (g := 10) (s0 := era_Check_S) era_Check_ok (lkΓ_cons (g := 11) (s0 := era_Turn_S) era_Turn_ok (lkΓ_cons (g := 12) (s0 := tendrilref06_Same_S) tendrilref06_Same_ok lkΓ_nil)))) (by decide +kernel) (by decide +kernel) tendrillaw06_EraStuck_Λ0 tendrillaw06_EraStuck_cuts (fun x => tendrillaw06_EraStuck_run 2000000 x), bodied_of Try.func3 (by decide +kernel) (by decide +kernel)⟩

/-! tendril/tendrilref06.New -/
mutual
def tendrilref06_New_L12 : Nat → (Int) → (Int) → (Int) → (Int) → Option ((Int × List Int) × Int)
  | 0, _, _, _, _ => none
  | k + 1, p0, p1, p2, p3 =>
    bif Decidable.decide (p1 < p0) then
      tendrilref06_New_L12x1 k (p0) (Go.RowKit.wrap64 (p1 + (1 : Int))) (p2) (p3) ([(-1 : Int)])
    else
      some (((p3, []), (0 : Int)))
def tendrilref06_New_L12x1 : Nat → (Int) → (Int) → (Int) → (Int) → (List Int) → Option ((Int × List Int) × Int)
  | 0, _, _, _, _, _ => none
  | k + 1, p0, p1, p2, p3, p4 =>
    bif Decidable.decide (p1 < p0) then
      bif Decidable.decide (p4.length + [(-1 : Int)].length ≤ (1000000 : Nat)) then
        tendrilref06_New_L12x1 k (p0) (Go.RowKit.wrap64 (p1 + (1 : Int))) (p2) (p3) (p4 ++ [(-1 : Int)])
      else
        none
    else
      some (((p3, p4), (0 : Int)))
end
def tendrilref06_New_P12v0 (k : Nat) (vs : List SV) (bs : List Blk) : Option (Option ((Int × List Int) × Int)) := match vs, bs with
  | [.val (.one (.ptr 0 0)), .val (.one (.ptr 1 0)), .val (.one (.int .i64 p0)), .val (.one (.int .i64 p1))], [.box [(.int .i64 p2), .nil], .box [(.int .i64 p3), .nil]] => some (tendrilref06_New_L12 k p0 p1 p2 p3)
  | _, _ => none
def tendrilref06_New_P12v1 (k : Nat) (vs : List SV) (bs : List Blk) : Option (Option ((Int × List Int) × Int)) := match vs, bs with
  | [.val (.one (.ptr 0 0)), .val (.one (.ptr 1 0)), .val (.one (.int .i64 p0)), .val (.one (.int .i64 p1))], [.box [(.int .i64 p2), .nil], .box [(.int .i64 p3), (.row 2)], .row .int p4] => some (tendrilref06_New_L12x1 k p0 p1 p2 p3 p4)
  | _, _ => none
def tendrilref06_New_P12 (k : Nat) (vs : List SV) (bs : List Blk) : Option ((Int × List Int) × Int) := match tendrilref06_New_P12v0 k vs bs with | some r => r | none => match tendrilref06_New_P12v1 k vs bs with | some r => r | none => none
def tendrilref06_New_Λ (k L : Nat) (vs : List SV) (bs : List Blk) : Option ((Int × List Int) × Int) := match Nat.beq L 12 with | true => tendrilref06_New_P12 k vs bs | false => none
def tendrilref06_New_K (K : Nat) (x : Int) : Option ((Int × List Int) × Int) :=
  bif Decidable.decide (x < (1 : Int)) then
    some ((((0 : Int), []), (1 : Int)))
  else
    bif Decidable.decide ((64 : Int) < x) then
      some ((((0 : Int), []), (1 : Int)))
    else
      tendrilref06_New_L12 K (x) ((0 : Int)) ((0 : Int)) ((0 : Int))
def tendrilref06_New (x : Int) : Option ((Int × (List Int)) × Int) := tendrilref06_New_K 2000000 x
def tendrilref06_New_S : Sig := ⟨[⟨false, .int⟩], [⟨true, (.pair .int (.sl .int))⟩, ⟨false, .int⟩], true, tendrilref06_New⟩
noncomputable def tendrilref06_New_C : List (Cut (Tup [⟨true, (.pair .int (.sl .int))⟩, ⟨false, .int⟩])) := cuts Try.prog (lkΓ []) Try.f14.ntmps [(12, [2, 4, 13, 14])] (bodyOf Try.f14) (κ0 Try.prog Try.f14 true [⟨true, (.pair .int (.sl .int))⟩, ⟨false, .int⟩])
set_option maxRecDepth 100000 in
theorem tendrilref06_New_c12 (k : Nat) (p0 : Int) (p1 : Int) (p2 : Int) (p3 : Int) : ((nthC tendrilref06_New_C 0).g (mkSt [2, 4, 13, 14] [.val (.one (.ptr 0 0)), .val (.one (.ptr 1 0)), .val (.one (.int .i64 p0)), .val (.one (.int .i64 p1))] [.box [(.int .i64 p2), .nil], .box [(.int .i64 p3), .nil]])).run (tendrilref06_New_Λ k) = tendrilref06_New_L12 (k + 1) p0 p1 p2 p3 := by kernel_rfl
theorem tendrilref06_New_e12 (k : Nat) (vs : List SV) (bs : List Blk) (r : (Int × (List Int)) × Int) (h : tendrilref06_New_P12v0 (k + 1) vs bs = some (some r)) : ((nthC tendrilref06_New_C 0).g (mkSt [2, 4, 13, 14] vs bs)).run (tendrilref06_New_Λ k) = some r := by
  unfold tendrilref06_New_P12v0 at h
  split at h
  · exact (tendrilref06_New_c12 k _ _ _ _).trans (Option.some.inj h)
  · cases h
set_option maxRecDepth 100000 in
theorem tendrilref06_New_c12x1 (k : Nat) (p0 : Int) (p1 : Int) (p2 : Int) (p3 : Int) (p4 : List Int) : ((nthC tendrilref06_New_C 0).g (mkSt [2, 4, 13, 14] [.val (.one (.ptr 0 0)), .val (.one (.ptr 1 0)), .val (.one (.int .i64 p0)), .val (.one (.int .i64 p1))] [.box [(.int .i64 p2), .nil], .box [(.int .i64 p3), (.row 2)], .row .int p4])).run (tendrilref06_New_Λ k) = tendrilref06_New_L12x1 (k + 1) p0 p1 p2 p3 p4 := by kernel_rfl
theorem tendrilref06_New_e12x1 (k : Nat) (vs : List SV) (bs : List Blk) (r : (Int × (List Int)) × Int) (h : tendrilref06_New_P12v1 (k + 1) vs bs = some (some r)) : ((nthC tendrilref06_New_C 0).g (mkSt [2, 4, 13, 14] vs bs)).run (tendrilref06_New_Λ k) = some r := by
  unfold tendrilref06_New_P12v1 at h
  split at h
  · exact (tendrilref06_New_c12x1 k _ _ _ _ _).trans (Option.some.inj h)
  · cases h
theorem tendrilref06_New_d12 : CutOk tendrilref06_New_Λ (nthC tendrilref06_New_C 0) := by
  refine cutOk_of (L := 12) (live := [2, 4, 13, 14]) (by kernel_rfl) (by kernel_rfl) fun k vs bs r h => ?_
  change tendrilref06_New_P12 (k + 1) vs bs = some r at h
  unfold tendrilref06_New_P12 at h
  split at h
  · rename_i q hq
    exact tendrilref06_New_e12 k vs bs r (hq.trans (congrArg some h))
  split at h
  · rename_i q hq
    exact tendrilref06_New_e12x1 k vs bs r (hq.trans (congrArg some h))
  cases h
theorem tendrilref06_New_cuts : ∀ p ∈ cuts Try.prog (lkΓ []) Try.f14.ntmps [(12, [2, 4, 13, 14])] (bodyOf Try.f14) (κ0 Try.prog Try.f14 true [⟨true, (.pair .int (.sl .int))⟩, ⟨false, .int⟩]), CutOk tendrilref06_New_Λ p := cutsOk (l := tendrilref06_New_C) (n := 1) (by kernel_rfl) fun
  | 0, _ => tendrilref06_New_d12
  | k + 1, h => absurd h (by omega)
theorem tendrilref06_New_z12 (vs : List SV) (bs : List Blk) (q : Option ((Int × (List Int)) × Int)) (h : tendrilref06_New_P12v0 0 vs bs = some q) : q = none := by
  unfold tendrilref06_New_P12v0 at h; split at h
  · have h := Option.some.inj h; rw [← h]; first | rfl | (unfold tendrilref06_New_L12; rfl)
  · cases h
theorem tendrilref06_New_z12x1 (vs : List SV) (bs : List Blk) (q : Option ((Int × (List Int)) × Int)) (h : tendrilref06_New_P12v1 0 vs bs = some q) : q = none := by
  unfold tendrilref06_New_P12v1 at h; split at h
  · have h := Option.some.inj h; rw [← h]; first | rfl | (unfold tendrilref06_New_L12x1; rfl)
  · cases h
theorem tendrilref06_New_Λ0 (L : Nat) (vs : List SV) (bs : List Blk) : tendrilref06_New_Λ 0 L vs bs = none := by
  unfold tendrilref06_New_Λ
  split
  · unfold tendrilref06_New_P12
    split
    · rename_i q hq; exact tendrilref06_New_z12 _ _ q hq
    split
    · rename_i q hq; exact tendrilref06_New_z12x1 _ _ q hq
    rfl
  rfl
set_option maxRecDepth 100000 in
theorem tendrilref06_New_run (K : Nat) (x : Tup [⟨false, .int⟩]) : (pxFn Try.prog (lkΓ []) [(12, [2, 4, 13, 14])] Try.f14 (bodyOf Try.f14) true [⟨true, (.pair .int (.sl .int))⟩, ⟨false, .int⟩] (encTup [⟨false, .int⟩] x)).run (tendrilref06_New_Λ K) = tendrilref06_New_K K x := by kernel_rfl
theorem tendrilref06_New_ok : SigOk Try.prog 14 tendrilref06_New_S ∧ Bodied Try.prog 14 :=
  ⟨fn_sound (s := tendrilref06_New_S) (T := [(12, [2, 4, 13, 14])]) (Λ := tendrilref06_New_Λ) 2000000 Try.func14 (c := bodyOf Try.f14) (by kernel_rfl) (by kernel_rfl) lkΓ_nil (by decide +kernel) (by decide +kernel) tendrilref06_New_Λ0 tendrilref06_New_cuts (fun x => tendrilref06_New_run 2000000 x), bodied_of Try.func14 (by decide +kernel) (by decide +kernel)⟩

/-! tendril/tendrilref06.Check -/
def tendrilref06_Check_L10 : Nat → (List Int) → (Int) → (Int) → (Int) → (List Int) → Option (Int)
  | 0, _, _, _, _, _ => none
  | k + 1, p0, p1, p2, p3, p4 =>
    bif Decidable.decide (p2 < p1) then
      bif Decidable.decide ((0 : Int) ≤ p2) then
        bif Decidable.decide (p2 < (↑p0.length : Int)) then
          bif p0.getD p2.toNat (0 : Int) != (-1 : Int) then
            bif p0.getD p2.toNat (0 : Int) != p3 then
              bif p0.getD p2.toNat (0 : Int) != Go.RowKit.wrap64 (p3 - (1 : Int)) then
                some ((1 : Int))
              else
                bif Decidable.decide (p0.getD p2.toNat (0 : Int) < (0 : Int)) then
                  some ((1 : Int))
                else
                  tendrilref06_Check_L10 k (p0) (p1) (Go.RowKit.wrap64 (p2 + (1 : Int))) (p3) (p4)
            else
              tendrilref06_Check_L10 k (p0) (p1) (Go.RowKit.wrap64 (p2 + (1 : Int))) (p3) (p4)
          else
            tendrilref06_Check_L10 k (p0) (p1) (Go.RowKit.wrap64 (p2 + (1 : Int))) (p3) (p4)
        else
          none
      else
        none
    else
      some ((0 : Int))
def tendrilref06_Check_P10v0 (k : Nat) (vs : List SV) (bs : List Blk) : Option (Option (Int)) := match vs, bs with
  | [.val (.one (.ptr 0 0)), .val (.one (.sl .int p0)), .val (.one (.int .i64 p1)), .val (.one (.int .i64 p2))], [.box [(.int .i64 p3), (.sl .int p4)]] => some (tendrilref06_Check_L10 k p0 p1 p2 p3 p4)
  | _, _ => none
def tendrilref06_Check_P10 (k : Nat) (vs : List SV) (bs : List Blk) : Option (Int) := match tendrilref06_Check_P10v0 k vs bs with | some r => r | none => none
def tendrilref06_Check_Λ (k L : Nat) (vs : List SV) (bs : List Blk) : Option (Int) := match Nat.beq L 10 with | true => tendrilref06_Check_P10 k vs bs | false => none
def tendrilref06_Check_K (K : Nat) (x : Int × List Int) : Option (Int) :=
  bif Decidable.decide (x.1 < (0 : Int)) then
    some ((1 : Int))
  else
    bif Decidable.decide ((1152921504606846976 : Int) < x.1) then
      some ((1 : Int))
    else
      bif Decidable.decide ((↑(List.length x.2) : Int) < (1 : Int)) then
        some ((1 : Int))
      else
        bif Decidable.decide ((64 : Int) < (↑(List.length x.2) : Int)) then
          some ((1 : Int))
        else
          tendrilref06_Check_L10 K (x.2) ((↑(List.length x.2) : Int)) ((0 : Int)) (x.1) (x.2)
def tendrilref06_Check (x : (Int × (List Int))) : Option (Int) := tendrilref06_Check_K 2000000 x
def tendrilref06_Check_S : Sig := ⟨[⟨true, (.pair .int (.sl .int))⟩], [⟨false, .int⟩], false, tendrilref06_Check⟩
noncomputable def tendrilref06_Check_C : List (Cut (Tup [⟨false, .int⟩])) := cuts Try.prog (lkΓ []) Try.f15.ntmps [(10, [1, 26, 27, 28])] (bodyOf Try.f15) (κ0 Try.prog Try.f15 false [⟨false, .int⟩])
set_option maxRecDepth 100000 in
theorem tendrilref06_Check_c10 (k : Nat) (p0 : List Int) (p1 : Int) (p2 : Int) (p3 : Int) (p4 : List Int) : ((nthC tendrilref06_Check_C 0).g (mkSt [1, 26, 27, 28] [.val (.one (.ptr 0 0)), .val (.one (.sl .int p0)), .val (.one (.int .i64 p1)), .val (.one (.int .i64 p2))] [.box [(.int .i64 p3), (.sl .int p4)]])).run (tendrilref06_Check_Λ k) = tendrilref06_Check_L10 (k + 1) p0 p1 p2 p3 p4 := by kernel_rfl
theorem tendrilref06_Check_e10 (k : Nat) (vs : List SV) (bs : List Blk) (r : Int) (h : tendrilref06_Check_P10v0 (k + 1) vs bs = some (some r)) : ((nthC tendrilref06_Check_C 0).g (mkSt [1, 26, 27, 28] vs bs)).run (tendrilref06_Check_Λ k) = some r := by
  unfold tendrilref06_Check_P10v0 at h
  split at h
  · exact (tendrilref06_Check_c10 k _ _ _ _ _).trans (Option.some.inj h)
  · cases h
theorem tendrilref06_Check_d10 : CutOk tendrilref06_Check_Λ (nthC tendrilref06_Check_C 0) := by
  refine cutOk_of (L := 10) (live := [1, 26, 27, 28]) (by kernel_rfl) (by kernel_rfl) fun k vs bs r h => ?_
  change tendrilref06_Check_P10 (k + 1) vs bs = some r at h
  unfold tendrilref06_Check_P10 at h
  split at h
  · rename_i q hq
    exact tendrilref06_Check_e10 k vs bs r (hq.trans (congrArg some h))
  cases h
theorem tendrilref06_Check_cuts : ∀ p ∈ cuts Try.prog (lkΓ []) Try.f15.ntmps [(10, [1, 26, 27, 28])] (bodyOf Try.f15) (κ0 Try.prog Try.f15 false [⟨false, .int⟩]), CutOk tendrilref06_Check_Λ p := cutsOk (l := tendrilref06_Check_C) (n := 1) (by kernel_rfl) fun
  | 0, _ => tendrilref06_Check_d10
  | k + 1, h => absurd h (by omega)
theorem tendrilref06_Check_z10 (vs : List SV) (bs : List Blk) (q : Option (Int)) (h : tendrilref06_Check_P10v0 0 vs bs = some q) : q = none := by
  unfold tendrilref06_Check_P10v0 at h; split at h
  · have h := Option.some.inj h; rw [← h]; first | rfl | (unfold tendrilref06_Check_L10; rfl)
  · cases h
theorem tendrilref06_Check_Λ0 (L : Nat) (vs : List SV) (bs : List Blk) : tendrilref06_Check_Λ 0 L vs bs = none := by
  unfold tendrilref06_Check_Λ
  split
  · unfold tendrilref06_Check_P10
    split
    · rename_i q hq; exact tendrilref06_Check_z10 _ _ q hq
    rfl
  rfl
set_option maxRecDepth 100000 in
theorem tendrilref06_Check_run (K : Nat) (x : Tup [⟨true, (.pair .int (.sl .int))⟩]) : (pxFn Try.prog (lkΓ []) [(10, [1, 26, 27, 28])] Try.f15 (bodyOf Try.f15) false [⟨false, .int⟩] (encTup [⟨true, (.pair .int (.sl .int))⟩] x)).run (tendrilref06_Check_Λ K) = tendrilref06_Check_K K x := by kernel_rfl
theorem tendrilref06_Check_ok : SigOk Try.prog 15 tendrilref06_Check_S ∧ Bodied Try.prog 15 :=
  ⟨fn_sound (s := tendrilref06_Check_S) (T := [(10, [1, 26, 27, 28])]) (Λ := tendrilref06_Check_Λ) 2000000 Try.func15 (c := bodyOf Try.f15) (by kernel_rfl) (by kernel_rfl) lkΓ_nil (by decide +kernel) (by decide +kernel) tendrilref06_Check_Λ0 tendrilref06_Check_cuts (fun x => tendrilref06_Check_run 2000000 x), bodied_of Try.func15 (by decide +kernel) (by decide +kernel)⟩

/-! tendril/era.Safe -/
def era_Safe (x : Int × List Int) : Option (Int) :=
  (era_Check ((x.1, x.2))).bind fun r0 =>
  bif r0 != (0 : Int) then
    some ((-1 : Int))
  else
    some (Go.RowKit.wrap64 (x.1 - (2 : Int)))
def era_Safe_S : Sig := ⟨[⟨true, (.pair .int (.sl .int))⟩], [⟨false, .int⟩], false, era_Safe⟩
set_option maxRecDepth 100000 in
theorem era_Safe_run (x : Tup [⟨true, (.pair .int (.sl .int))⟩]) : (pxFn Try.prog (lkΓ [(10, era_Check_S)]) [] Try.f16 (bodyOf Try.f16) false [⟨false, .int⟩] (encTup [⟨true, (.pair .int (.sl .int))⟩] x)).run (fun _ _ _ => none) = era_Safe x := by kernel_rfl
theorem era_Safe_cuts : ∀ p ∈ cuts Try.prog (lkΓ [(10, era_Check_S)]) Try.f16.ntmps [] (bodyOf Try.f16) (κ0 Try.prog Try.f16 false [⟨false, .int⟩]), CutOk (fun _ _ _ _ => none) p := cutsNil (by kernel_rfl)
theorem era_Safe_ok : SigOk Try.prog 16 era_Safe_S ∧ Bodied Try.prog 16 :=
  ⟨fn_sound (s := era_Safe_S) (T := []) (Λ := fun _ _ _ _ => none) 0 Try.func16 (c := bodyOf Try.f16) (by kernel_rfl) (by kernel_rfl) (lkΓ_cons (g := 10) (s0 := era_Check_S) era_Check_ok lkΓ_nil) (by decide +kernel) (by decide +kernel) (fun _ _ _ => rfl) era_Safe_cuts (fun x => era_Safe_run  x), bodied_of Try.func16 (by decide +kernel) (by decide +kernel)⟩

/-! tendril/tendrilref06.Safe -/
def tendrilref06_Safe (x : Int × List Int) : Option (Int) :=
  (tendrilref06_Check ((x.1, x.2))).bind fun r0 =>
  bif r0 != (0 : Int) then
    some ((-1 : Int))
  else
    some (Go.RowKit.wrap64 (x.1 - (2 : Int)))
def tendrilref06_Safe_S : Sig := ⟨[⟨true, (.pair .int (.sl .int))⟩], [⟨false, .int⟩], false, tendrilref06_Safe⟩
set_option maxRecDepth 100000 in
theorem tendrilref06_Safe_run (x : Tup [⟨true, (.pair .int (.sl .int))⟩]) : (pxFn Try.prog (lkΓ [(15, tendrilref06_Check_S)]) [] Try.f17 (bodyOf Try.f17) false [⟨false, .int⟩] (encTup [⟨true, (.pair .int (.sl .int))⟩] x)).run (fun _ _ _ => none) = tendrilref06_Safe x := by kernel_rfl
theorem tendrilref06_Safe_cuts : ∀ p ∈ cuts Try.prog (lkΓ [(15, tendrilref06_Check_S)]) Try.f17.ntmps [] (bodyOf Try.f17) (κ0 Try.prog Try.f17 false [⟨false, .int⟩]), CutOk (fun _ _ _ _ => none) p := cutsNil (by kernel_rfl)
theorem tendrilref06_Safe_ok : SigOk Try.prog 17 tendrilref06_Safe_S ∧ Bodied Try.prog 17 :=
  ⟨fn_sound (s := tendrilref06_Safe_S) (T := []) (Λ := fun _ _ _ _ => none) 0 Try.func17 (c := bodyOf Try.f17) (by kernel_rfl) (by kernel_rfl) (lkΓ_cons (g := 15) (s0 := tendrilref06_Check_S) tendrilref06_Check_ok lkΓ_nil) (by decide +kernel) (by decide +kernel) (fun _ _ _ => rfl) tendrilref06_Safe_cuts (fun x => tendrilref06_Safe_run  x), bodied_of Try.func17 (by decide +kernel) (by decide +kernel)⟩

/-! tendril/tendrillaw06.EraMakes -/
def tendrillaw06_EraMakes (x : Int × Int × List Int) : Option (Bool) :=
  (tendrillaw06_live (())).bind fun r0 =>
  bif !r0 then
    some (Bool.false)
  else
    bif Decidable.decide ((200 : Int) < (↑(List.length x.snd.2) : Int)) then
      some (Bool.true)
    else
      (era_New (x.1)).bind fun r1 =>
      (tendrilref06_New (x.1)).bind fun r2 =>
      (tendrilref06_Same (((r1.fst.1, r1.fst.2), r2.fst.1, r2.fst.2))).bind fun r3 =>
      bif r3 then
        bif r1.2 == r2.2 then
          (era_Check ((x.snd.1, x.snd.2))).bind fun r4 =>
          (tendrilref06_Check ((x.snd.1, x.snd.2))).bind fun r5 =>
          bif r4 == r5 then
            (era_Safe ((x.snd.1, x.snd.2))).bind fun r6 =>
            (tendrilref06_Safe ((x.snd.1, x.snd.2))).bind fun r7 =>
            some (r6 == r7)
          else
            some (Bool.false)
        else
          some (Bool.false)
      else
        some (Bool.false)
def tendrillaw06_EraMakes_S : Sig := ⟨[⟨false, .int⟩, ⟨true, (.pair .int (.sl .int))⟩], [⟨false, .bool⟩], false, tendrillaw06_EraMakes⟩
set_option maxRecDepth 100000 in
theorem tendrillaw06_EraMakes_run (x : Tup [⟨false, .int⟩, ⟨true, (.pair .int (.sl .int))⟩]) : (pxFn Try.prog (lkΓ [(9, tendrillaw06_live_S), (10, era_Check_S), (12, tendrilref06_Same_S), (13, era_New_S), (14, tendrilref06_New_S), (15, tendrilref06_Check_S), (16, era_Safe_S), (17, tendrilref06_Safe_S)]) [] Try.f4 (bodyOf Try.f4) false [⟨false, .bool⟩] (encTup [⟨false, .int⟩, ⟨true, (.pair .int (.sl .int))⟩] x)).run (fun _ _ _ => none) = tendrillaw06_EraMakes x := by kernel_rfl
theorem tendrillaw06_EraMakes_cuts : ∀ p ∈ cuts Try.prog (lkΓ [(9, tendrillaw06_live_S), (10, era_Check_S), (12, tendrilref06_Same_S), (13, era_New_S), (14, tendrilref06_New_S), (15, tendrilref06_Check_S), (16, era_Safe_S), (17, tendrilref06_Safe_S)]) Try.f4.ntmps [] (bodyOf Try.f4) (κ0 Try.prog Try.f4 false [⟨false, .bool⟩]), CutOk (fun _ _ _ _ => none) p := cutsNil (by kernel_rfl)
theorem tendrillaw06_EraMakes_ok : SigOk Try.prog 4 tendrillaw06_EraMakes_S ∧ Bodied Try.prog 4 :=
  ⟨fn_sound (s := tendrillaw06_EraMakes_S) (T := []) (Λ := fun _ _ _ _ => none) 0 Try.func4 (c := bodyOf Try.f4) (by kernel_rfl) (by kernel_rfl) (lkΓ_cons (g := 9) (s0 := tendrillaw06_live_S) tendrillaw06_live_ok (lkΓ_cons (g := 10) (s0 := era_Check_S) era_Check_ok (lkΓ_cons (g := 12) (s0 := tendrilref06_Same_S) tendrilref06_Same_ok (lkΓ_cons (g := 13) (s0 := era_New_S) era_New_ok (lkΓ_cons (g := 14) (s0 := tendrilref06_New_S) tendrilref06_New_ok (lkΓ_cons (g := 15) (s0 := tendrilref06_Check_S) tendrilref06_Check_ok (lkΓ_cons (g := 16) (s0 := era_Safe_S) era_Safe_ok (lkΓ_cons (g := 17) (s0 := tendrilref06_Safe_S) tendrilref06_Safe_ok lkΓ_nil)))))))) (by decide +kernel) (by decide +kernel) (fun _ _ _ => rfl) tendrillaw06_EraMakes_cuts (fun x => tendrillaw06_EraMakes_run  x), bodied_of Try.func4 (by decide +kernel) (by decide +kernel)⟩

/-! tendril/tendrillaw06.EraGoes -/
mutual
def tendrillaw06_EraGoes_L16 : Nat → (Int) → (Int) → (Int) → Option (Bool)
  | 0, _, _, _ => none
  | k + 1, p0, p1, p2 =>
    bif Decidable.decide (p1 < p0) then
      tendrillaw06_EraGoes_L16x1 k (p0) (Go.RowKit.wrap64 (p1 + (1 : Int))) (p2) ([(-1 : Int)])
    else
      tendrillaw06_EraGoes_L26 k (p2) ((0 : Int)) (p2)
def tendrillaw06_EraGoes_L16x1 : Nat → (Int) → (Int) → (Int) → (List Int) → Option (Bool)
  | 0, _, _, _, _ => none
  | k + 1, p0, p1, p2, p3 =>
    bif Decidable.decide (p1 < p0) then
      bif Decidable.decide (p3.length + [(-1 : Int)].length ≤ (1000000 : Nat)) then
        tendrillaw06_EraGoes_L16x1 k (p0) (Go.RowKit.wrap64 (p1 + (1 : Int))) (p2) (p3 ++ [(-1 : Int)])
      else
        none
    else
      tendrillaw06_EraGoes_L26x1 k (p2) ((0 : Int)) (p2) (p3)
def tendrillaw06_EraGoes_L26 : Nat → (Int) → (Int) → (Int) → Option (Bool)
  | 0, _, _, _ => none
  | k + 1, p0, p1, p2 =>
    bif Decidable.decide (p1 < (3 : Int)) then
      (era_Turn ((p2, []))).bind fun r2 =>
      bif !r2.2 then
        some (Bool.false)
      else
        tendrillaw06_EraGoes_L26x1 k (p0) (Go.RowKit.wrap64 (p1 + (1 : Int))) (r2.fst.1) (r2.fst.2)
    else
      bif p2 == Go.RowKit.wrap64 (p0 + (3 : Int)) then
        (era_Safe ((p2, []))).bind fun r3 =>
        some (Decidable.decide (p0 ≤ r3))
      else
        some (Bool.false)
def tendrillaw06_EraGoes_L26x1 : Nat → (Int) → (Int) → (Int) → (List Int) → Option (Bool)
  | 0, _, _, _, _ => none
  | k + 1, p0, p1, p2, p3 =>
    bif Decidable.decide (p1 < (3 : Int)) then
      (era_Turn ((p2, p3))).bind fun r4 =>
      bif !r4.2 then
        some (Bool.false)
      else
        tendrillaw06_EraGoes_L26x1 k (p0) (Go.RowKit.wrap64 (p1 + (1 : Int))) (r4.fst.1) (r4.fst.2)
    else
      bif p2 == Go.RowKit.wrap64 (p0 + (3 : Int)) then
        (era_Safe ((p2, p3))).bind fun r5 =>
        some (Decidable.decide (p0 ≤ r5))
      else
        some (Bool.false)
end
def tendrillaw06_EraGoes_P16v0 (k : Nat) (vs : List SV) (bs : List Blk) : Option (Option (Bool)) := match vs, bs with
  | [.val (.one (.ptr 0 0)), .val (.one (.int .i64 p0)), .val (.one (.int .i64 p1))], [.box [(.int .i64 p2), .nil]] => some (tendrillaw06_EraGoes_L16 k p0 p1 p2)
  | _, _ => none
def tendrillaw06_EraGoes_P16v1 (k : Nat) (vs : List SV) (bs : List Blk) : Option (Option (Bool)) := match vs, bs with
  | [.val (.one (.ptr 0 0)), .val (.one (.int .i64 p0)), .val (.one (.int .i64 p1))], [.box [(.int .i64 p2), (.row 1)], .row .int p3] => some (tendrillaw06_EraGoes_L16x1 k p0 p1 p2 p3)
  | _, _ => none
def tendrillaw06_EraGoes_P26v0 (k : Nat) (vs : List SV) (bs : List Blk) : Option (Option (Bool)) := match vs, bs with
  | [.val (.one (.ptr 0 0)), .val (.one (.int .i64 p0)), .val (.one (.int .i64 p1))], [.box [(.int .i64 p2), .nil]] => some (tendrillaw06_EraGoes_L26 k p0 p1 p2)
  | _, _ => none
def tendrillaw06_EraGoes_P26v1 (k : Nat) (vs : List SV) (bs : List Blk) : Option (Option (Bool)) := match vs, bs with
  | [.val (.one (.ptr 0 0)), .val (.one (.int .i64 p0)), .val (.one (.int .i64 p1))], [.box [(.int .i64 p2), (.row 1)], .row .int p3] => some (tendrillaw06_EraGoes_L26x1 k p0 p1 p2 p3)
  | _, _ => none
def tendrillaw06_EraGoes_P16 (k : Nat) (vs : List SV) (bs : List Blk) : Option (Bool) := match tendrillaw06_EraGoes_P16v0 k vs bs with | some r => r | none => match tendrillaw06_EraGoes_P16v1 k vs bs with | some r => r | none => none
def tendrillaw06_EraGoes_P26 (k : Nat) (vs : List SV) (bs : List Blk) : Option (Bool) := match tendrillaw06_EraGoes_P26v0 k vs bs with | some r => r | none => match tendrillaw06_EraGoes_P26v1 k vs bs with | some r => r | none => none
def tendrillaw06_EraGoes_Λ (k L : Nat) (vs : List SV) (bs : List Blk) : Option (Bool) := match Nat.beq L 16 with | true => tendrillaw06_EraGoes_P16 k vs bs | false => match Nat.beq L 26 with | true => tendrillaw06_EraGoes_P26 k vs bs | false => none
def tendrillaw06_EraGoes_K (K : Nat) (x : Int × List Int) : Option (Bool) :=
  (tendrillaw06_live (())).bind fun r0 =>
  bif !r0 then
    some (Bool.false)
  else
    (era_Check ((x.1, x.2))).bind fun r1 =>
    bif r1 != (0 : Int) then
      some (Bool.true)
    else
      bif Decidable.decide ((1152921504606846972 : Int) < x.1) then
        some (Bool.true)
      else
        tendrillaw06_EraGoes_L16 K ((↑(List.length x.2) : Int)) ((0 : Int)) (x.1)
def tendrillaw06_EraGoes (x : (Int × (List Int))) : Option (Bool) := tendrillaw06_EraGoes_K 2000000 x
def tendrillaw06_EraGoes_S : Sig := ⟨[⟨true, (.pair .int (.sl .int))⟩], [⟨false, .bool⟩], false, tendrillaw06_EraGoes⟩
noncomputable def tendrillaw06_EraGoes_C : List (Cut (Tup [⟨false, .bool⟩])) := cuts Try.prog (lkΓ [(9, tendrillaw06_live_S), (10, era_Check_S), (11, era_Turn_S), (16, era_Safe_S)]) Try.f5.ntmps [(26, [3, 4, 33]), (16, [3, 22, 23])] (bodyOf Try.f5) (κ0 Try.prog Try.f5 false [⟨false, .bool⟩])
set_option maxRecDepth 100000 in
theorem tendrillaw06_EraGoes_c16 (k : Nat) (p0 : Int) (p1 : Int) (p2 : Int) : ((nthC tendrillaw06_EraGoes_C 0).g (mkSt [3, 22, 23] [.val (.one (.ptr 0 0)), .val (.one (.int .i64 p0)), .val (.one (.int .i64 p1))] [.box [(.int .i64 p2), .nil]])).run (tendrillaw06_EraGoes_Λ k) = tendrillaw06_EraGoes_L16 (k + 1) p0 p1 p2 := by kernel_rfl
theorem tendrillaw06_EraGoes_e16 (k : Nat) (vs : List SV) (bs : List Blk) (r : Bool) (h : tendrillaw06_EraGoes_P16v0 (k + 1) vs bs = some (some r)) : ((nthC tendrillaw06_EraGoes_C 0).g (mkSt [3, 22, 23] vs bs)).run (tendrillaw06_EraGoes_Λ k) = some r := by
  unfold tendrillaw06_EraGoes_P16v0 at h
  split at h
  · exact (tendrillaw06_EraGoes_c16 k _ _ _).trans (Option.some.inj h)
  · cases h
set_option maxRecDepth 100000 in
theorem tendrillaw06_EraGoes_c16x1 (k : Nat) (p0 : Int) (p1 : Int) (p2 : Int) (p3 : List Int) : ((nthC tendrillaw06_EraGoes_C 0).g (mkSt [3, 22, 23] [.val (.one (.ptr 0 0)), .val (.one (.int .i64 p0)), .val (.one (.int .i64 p1))] [.box [(.int .i64 p2), (.row 1)], .row .int p3])).run (tendrillaw06_EraGoes_Λ k) = tendrillaw06_EraGoes_L16x1 (k + 1) p0 p1 p2 p3 := by kernel_rfl
theorem tendrillaw06_EraGoes_e16x1 (k : Nat) (vs : List SV) (bs : List Blk) (r : Bool) (h : tendrillaw06_EraGoes_P16v1 (k + 1) vs bs = some (some r)) : ((nthC tendrillaw06_EraGoes_C 0).g (mkSt [3, 22, 23] vs bs)).run (tendrillaw06_EraGoes_Λ k) = some r := by
  unfold tendrillaw06_EraGoes_P16v1 at h
  split at h
  · exact (tendrillaw06_EraGoes_c16x1 k _ _ _ _).trans (Option.some.inj h)
  · cases h
set_option maxRecDepth 100000 in
theorem tendrillaw06_EraGoes_c26 (k : Nat) (p0 : Int) (p1 : Int) (p2 : Int) : ((nthC tendrillaw06_EraGoes_C 1).g (mkSt [3, 4, 33] [.val (.one (.ptr 0 0)), .val (.one (.int .i64 p0)), .val (.one (.int .i64 p1))] [.box [(.int .i64 p2), .nil]])).run (tendrillaw06_EraGoes_Λ k) = tendrillaw06_EraGoes_L26 (k + 1) p0 p1 p2 := by kernel_rfl
theorem tendrillaw06_EraGoes_e26 (k : Nat) (vs : List SV) (bs : List Blk) (r : Bool) (h : tendrillaw06_EraGoes_P26v0 (k + 1) vs bs = some (some r)) : ((nthC tendrillaw06_EraGoes_C 1).g (mkSt [3, 4, 33] vs bs)).run (tendrillaw06_EraGoes_Λ k) = some r := by
  unfold tendrillaw06_EraGoes_P26v0 at h
  split at h
  · exact (tendrillaw06_EraGoes_c26 k _ _ _).trans (Option.some.inj h)
  · cases h
set_option maxRecDepth 100000 in
theorem tendrillaw06_EraGoes_c26x1 (k : Nat) (p0 : Int) (p1 : Int) (p2 : Int) (p3 : List Int) : ((nthC tendrillaw06_EraGoes_C 1).g (mkSt [3, 4, 33] [.val (.one (.ptr 0 0)), .val (.one (.int .i64 p0)), .val (.one (.int .i64 p1))] [.box [(.int .i64 p2), (.row 1)], .row .int p3])).run (tendrillaw06_EraGoes_Λ k) = tendrillaw06_EraGoes_L26x1 (k + 1) p0 p1 p2 p3 := by kernel_rfl
theorem tendrillaw06_EraGoes_e26x1 (k : Nat) (vs : List SV) (bs : List Blk) (r : Bool) (h : tendrillaw06_EraGoes_P26v1 (k + 1) vs bs = some (some r)) : ((nthC tendrillaw06_EraGoes_C 1).g (mkSt [3, 4, 33] vs bs)).run (tendrillaw06_EraGoes_Λ k) = some r := by
  unfold tendrillaw06_EraGoes_P26v1 at h
  split at h
  · exact (tendrillaw06_EraGoes_c26x1 k _ _ _ _).trans (Option.some.inj h)
  · cases h
theorem tendrillaw06_EraGoes_d16 : CutOk tendrillaw06_EraGoes_Λ (nthC tendrillaw06_EraGoes_C 0) := by
  refine cutOk_of (L := 16) (live := [3, 22, 23]) (by kernel_rfl) (by kernel_rfl) fun k vs bs r h => ?_
  change tendrillaw06_EraGoes_P16 (k + 1) vs bs = some r at h
  unfold tendrillaw06_EraGoes_P16 at h
  split at h
  · rename_i q hq
    exact tendrillaw06_EraGoes_e16 k vs bs r (hq.trans (congrArg some h))
  split at h
  · rename_i q hq
    exact tendrillaw06_EraGoes_e16x1 k vs bs r (hq.trans (congrArg some h))
  cases h
theorem tendrillaw06_EraGoes_d26 : CutOk tendrillaw06_EraGoes_Λ (nthC tendrillaw06_EraGoes_C 1) := by
  refine cutOk_of (L := 26) (live := [3, 4, 33]) (by kernel_rfl) (by kernel_rfl) fun k vs bs r h => ?_
  change tendrillaw06_EraGoes_P26 (k + 1) vs bs = some r at h
  unfold tendrillaw06_EraGoes_P26 at h
  split at h
  · rename_i q hq
    exact tendrillaw06_EraGoes_e26 k vs bs r (hq.trans (congrArg some h))
  split at h
  · rename_i q hq
    exact tendrillaw06_EraGoes_e26x1 k vs bs r (hq.trans (congrArg some h))
  cases h
theorem tendrillaw06_EraGoes_cuts : ∀ p ∈ cuts Try.prog (lkΓ [(9, tendrillaw06_live_S), (10, era_Check_S), (11, era_Turn_S), (16, era_Safe_S)]) Try.f5.ntmps [(26, [3, 4, 33]), (16, [3, 22, 23])] (bodyOf Try.f5) (κ0 Try.prog Try.f5 false [⟨false, .bool⟩]), CutOk tendrillaw06_EraGoes_Λ p := cutsOk (l := tendrillaw06_EraGoes_C) (n := 2) (by kernel_rfl) fun
  | 0, _ => tendrillaw06_EraGoes_d16
  | 1, _ => tendrillaw06_EraGoes_d26
  | k + 2, h => absurd h (by omega)
theorem tendrillaw06_EraGoes_z16 (vs : List SV) (bs : List Blk) (q : Option (Bool)) (h : tendrillaw06_EraGoes_P16v0 0 vs bs = some q) : q = none := by
  unfold tendrillaw06_EraGoes_P16v0 at h; split at h
  · have h := Option.some.inj h; rw [← h]; first | rfl | (unfold tendrillaw06_EraGoes_L16; rfl)
  · cases h
theorem tendrillaw06_EraGoes_z16x1 (vs : List SV) (bs : List Blk) (q : Option (Bool)) (h : tendrillaw06_EraGoes_P16v1 0 vs bs = some q) : q = none := by
  unfold tendrillaw06_EraGoes_P16v1 at h; split at h
  · have h := Option.some.inj h; rw [← h]; first | rfl | (unfold tendrillaw06_EraGoes_L16x1; rfl)
  · cases h
theorem tendrillaw06_EraGoes_z26 (vs : List SV) (bs : List Blk) (q : Option (Bool)) (h : tendrillaw06_EraGoes_P26v0 0 vs bs = some q) : q = none := by
  unfold tendrillaw06_EraGoes_P26v0 at h; split at h
  · have h := Option.some.inj h; rw [← h]; first | rfl | (unfold tendrillaw06_EraGoes_L26; rfl)
  · cases h
theorem tendrillaw06_EraGoes_z26x1 (vs : List SV) (bs : List Blk) (q : Option (Bool)) (h : tendrillaw06_EraGoes_P26v1 0 vs bs = some q) : q = none := by
  unfold tendrillaw06_EraGoes_P26v1 at h; split at h
  · have h := Option.some.inj h; rw [← h]; first | rfl | (unfold tendrillaw06_EraGoes_L26x1; rfl)
  · cases h
theorem tendrillaw06_EraGoes_Λ0 (L : Nat) (vs : List SV) (bs : List Blk) : tendrillaw06_EraGoes_Λ 0 L vs bs = none := by
  unfold tendrillaw06_EraGoes_Λ
  split
  · unfold tendrillaw06_EraGoes_P16
    split
    · rename_i q hq; exact tendrillaw06_EraGoes_z16 _ _ q hq
    split
    · rename_i q hq; exact tendrillaw06_EraGoes_z16x1 _ _ q hq
    rfl
  split
  · unfold tendrillaw06_EraGoes_P26
    split
    · rename_i q hq; exact tendrillaw06_EraGoes_z26 _ _ q hq
    split
    · rename_i q hq; exact tendrillaw06_EraGoes_z26x1 _ _ q hq
    rfl
  rfl
set_option maxRecDepth 100000 in
theorem tendrillaw06_EraGoes_run (K : Nat) (x : Tup [⟨true, (.pair .int (.sl .int))⟩]) : (pxFn Try.prog (lkΓ [(9, tendrillaw06_live_S), (10, era_Check_S), (11, era_Turn_S), (16, era_Safe_S)]) [(26, [3, 4, 33]), (16, [3, 22, 23])] Try.f5 (bodyOf Try.f5) false [⟨false, .bool⟩] (encTup [⟨true, (.pair .int (.sl .int))⟩] x)).run (tendrillaw06_EraGoes_Λ K) = tendrillaw06_EraGoes_K K x := by kernel_rfl
theorem tendrillaw06_EraGoes_ok : SigOk Try.prog 5 tendrillaw06_EraGoes_S ∧ Bodied Try.prog 5 :=
  ⟨fn_sound (s := tendrillaw06_EraGoes_S) (T := [(26, [3, 4, 33]), (16, [3, 22, 23])]) (Λ := tendrillaw06_EraGoes_Λ) 2000000 Try.func5 (c := bodyOf Try.f5) (by kernel_rfl) (by kernel_rfl) (lkΓ_cons (g := 9) (s0 := tendrillaw06_live_S) tendrillaw06_live_ok (lkΓ_cons (g := 10) (s0 := era_Check_S) era_Check_ok (lkΓ_cons (g := 11) (s0 := era_Turn_S) era_Turn_ok (lkΓ_cons (g := 16) (s0 := era_Safe_S) era_Safe_ok lkΓ_nil)))) (by decide +kernel) (by decide +kernel) tendrillaw06_EraGoes_Λ0 tendrillaw06_EraGoes_cuts (fun x => tendrillaw06_EraGoes_run 2000000 x), bodied_of Try.func5 (by decide +kernel) (by decide +kernel)⟩

/-! tendril/tendrilref02.Copy -/
def tendrilref02_Copy (x : List Int) : Option (List Int) :=
  bif Decidable.decide ((0 : Nat) + List.length x ≤ (1000000 : Nat)) then
    some (x)
  else
    none
def tendrilref02_Copy_S : Sig := ⟨[⟨false, (.sl .int)⟩], [⟨false, (.sl .int)⟩], true, tendrilref02_Copy⟩
set_option maxRecDepth 100000 in
theorem tendrilref02_Copy_run (x : Tup [⟨false, (.sl .int)⟩]) : (pxFn Try.prog (lkΓ []) [] Try.f18 (bodyOf Try.f18) true [⟨false, (.sl .int)⟩] (encTup [⟨false, (.sl .int)⟩] x)).run (fun _ _ _ => none) = tendrilref02_Copy x := by kernel_rfl
theorem tendrilref02_Copy_cuts : ∀ p ∈ cuts Try.prog (lkΓ []) Try.f18.ntmps [] (bodyOf Try.f18) (κ0 Try.prog Try.f18 true [⟨false, (.sl .int)⟩]), CutOk (fun _ _ _ _ => none) p := cutsNil (by kernel_rfl)
theorem tendrilref02_Copy_ok : SigOk Try.prog 18 tendrilref02_Copy_S ∧ Bodied Try.prog 18 :=
  ⟨fn_sound (s := tendrilref02_Copy_S) (T := []) (Λ := fun _ _ _ _ => none) 0 Try.func18 (c := bodyOf Try.f18) (by kernel_rfl) (by kernel_rfl) lkΓ_nil (by decide +kernel) (by decide +kernel) (fun _ _ _ => rfl) tendrilref02_Copy_cuts (fun x => tendrilref02_Copy_run  x), bodied_of Try.func18 (by decide +kernel) (by decide +kernel)⟩

/-! tendril/tendrilref06.Pin -/
def tendrilref06_Pin (x : (Int × List Int) × Int) : Option ((Int × List Int) × Int) :=
  (tendrilref06_Check ((x.fst.1, x.fst.2))).bind fun r0 =>
  bif r0 != (0 : Int) then
    some ((((0 : Int), []), (1 : Int)))
  else
    bif Decidable.decide (x.2 < (0 : Int)) then
      some ((((0 : Int), []), (1 : Int)))
    else
      bif Decidable.decide ((↑(List.length x.fst.2) : Int) ≤ x.2) then
        some ((((0 : Int), []), (1 : Int)))
      else
        bif Decidable.decide ((0 : Int) ≤ x.2) then
          bif Decidable.decide (x.2 < (↑(List.length x.fst.2) : Int)) then
            bif List.getD x.fst.2 (Int.toNat x.2) (0 : Int) != (-1 : Int) then
              some ((((0 : Int), []), (1 : Int)))
            else
              (tendrilref02_Copy (x.fst.2)).bind fun r1 =>
              bif Decidable.decide ((0 : Int) ≤ x.2) then
                bif Decidable.decide (x.2 < (↑(List.length r1) : Int)) then
                  some (((x.fst.1, List.set r1 (Int.toNat x.2) x.fst.1), (0 : Int)))
                else
                  none
              else
                none
          else
            none
        else
          none
def tendrilref06_Pin_S : Sig := ⟨[⟨true, (.pair .int (.sl .int))⟩, ⟨false, .int⟩], [⟨true, (.pair .int (.sl .int))⟩, ⟨false, .int⟩], true, tendrilref06_Pin⟩
set_option maxRecDepth 100000 in
theorem tendrilref06_Pin_run (x : Tup [⟨true, (.pair .int (.sl .int))⟩, ⟨false, .int⟩]) : (pxFn Try.prog (lkΓ [(15, tendrilref06_Check_S), (18, tendrilref02_Copy_S)]) [] Try.f20 (bodyOf Try.f20) true [⟨true, (.pair .int (.sl .int))⟩, ⟨false, .int⟩] (encTup [⟨true, (.pair .int (.sl .int))⟩, ⟨false, .int⟩] x)).run (fun _ _ _ => none) = tendrilref06_Pin x := by kernel_rfl
theorem tendrilref06_Pin_cuts : ∀ p ∈ cuts Try.prog (lkΓ [(15, tendrilref06_Check_S), (18, tendrilref02_Copy_S)]) Try.f20.ntmps [] (bodyOf Try.f20) (κ0 Try.prog Try.f20 true [⟨true, (.pair .int (.sl .int))⟩, ⟨false, .int⟩]), CutOk (fun _ _ _ _ => none) p := cutsNil (by kernel_rfl)
theorem tendrilref06_Pin_ok : SigOk Try.prog 20 tendrilref06_Pin_S ∧ Bodied Try.prog 20 :=
  ⟨fn_sound (s := tendrilref06_Pin_S) (T := []) (Λ := fun _ _ _ _ => none) 0 Try.func20 (c := bodyOf Try.f20) (by kernel_rfl) (by kernel_rfl) (lkΓ_cons (g := 15) (s0 := tendrilref06_Check_S) tendrilref06_Check_ok (lkΓ_cons (g := 18) (s0 := tendrilref02_Copy_S) tendrilref02_Copy_ok lkΓ_nil)) (by decide +kernel) (by decide +kernel) (fun _ _ _ => rfl) tendrilref06_Pin_cuts (fun x => tendrilref06_Pin_run  x), bodied_of Try.func20 (by decide +kernel) (by decide +kernel)⟩

/-! tendril/era.Unpin -/
def era_Unpin (x : (Int × List Int) × Int) : Option ((Int × List Int) × Int) :=
  (era_pinned (((x.fst.1, x.fst.2), x.2))).bind fun r0 =>
  bif r0.2 != (0 : Int) then
    some ((((0 : Int), []), r0.2))
  else
    bif r0.1 == (-1 : Int) then
      some ((((0 : Int), []), (2 : Int)))
    else
      (era_with (((x.fst.1, x.fst.2), x.2, (-1 : Int)))).bind fun r1 =>
      some (((r1.1, r1.2), (0 : Int)))
def era_Unpin_S : Sig := ⟨[⟨true, (.pair .int (.sl .int))⟩, ⟨false, .int⟩], [⟨true, (.pair .int (.sl .int))⟩, ⟨false, .int⟩], true, era_Unpin⟩
set_option maxRecDepth 100000 in
theorem era_Unpin_run (x : Tup [⟨true, (.pair .int (.sl .int))⟩, ⟨false, .int⟩]) : (pxFn Try.prog (lkΓ [(30, era_pinned_S), (31, era_with_S)]) [] Try.f21 (bodyOf Try.f21) true [⟨true, (.pair .int (.sl .int))⟩, ⟨false, .int⟩] (encTup [⟨true, (.pair .int (.sl .int))⟩, ⟨false, .int⟩] x)).run (fun _ _ _ => none) = era_Unpin x := by kernel_rfl
theorem era_Unpin_cuts : ∀ p ∈ cuts Try.prog (lkΓ [(30, era_pinned_S), (31, era_with_S)]) Try.f21.ntmps [] (bodyOf Try.f21) (κ0 Try.prog Try.f21 true [⟨true, (.pair .int (.sl .int))⟩, ⟨false, .int⟩]), CutOk (fun _ _ _ _ => none) p := cutsNil (by kernel_rfl)
theorem era_Unpin_ok : SigOk Try.prog 21 era_Unpin_S ∧ Bodied Try.prog 21 :=
  ⟨fn_sound (s := era_Unpin_S) (T := []) (Λ := fun _ _ _ _ => none) 0 Try.func21 (c := bodyOf Try.f21) (by kernel_rfl) (by kernel_rfl) (lkΓ_cons (g := 30) (s0 := era_pinned_S) era_pinned_ok (lkΓ_cons (g := 31) (s0 := era_with_S) era_with_ok lkΓ_nil)) (by decide +kernel) (by decide +kernel) (fun _ _ _ => rfl) era_Unpin_cuts (fun x => era_Unpin_run  x), bodied_of Try.func21 (by decide +kernel) (by decide +kernel)⟩

/-! tendril/tendrilref06.Unpin -/
def tendrilref06_Unpin (x : (Int × List Int) × Int) : Option ((Int × List Int) × Int) :=
  (tendrilref06_Check ((x.fst.1, x.fst.2))).bind fun r0 =>
  bif r0 != (0 : Int) then
    some ((((0 : Int), []), (1 : Int)))
  else
    bif Decidable.decide (x.2 < (0 : Int)) then
      some ((((0 : Int), []), (1 : Int)))
    else
      bif Decidable.decide ((↑(List.length x.fst.2) : Int) ≤ x.2) then
        some ((((0 : Int), []), (1 : Int)))
      else
        bif Decidable.decide ((0 : Int) ≤ x.2) then
          bif Decidable.decide (x.2 < (↑(List.length x.fst.2) : Int)) then
            bif List.getD x.fst.2 (Int.toNat x.2) (0 : Int) == (-1 : Int) then
              some ((((0 : Int), []), (2 : Int)))
            else
              (tendrilref02_Copy (x.fst.2)).bind fun r1 =>
              bif Decidable.decide ((0 : Int) ≤ x.2) then
                bif Decidable.decide (x.2 < (↑(List.length r1) : Int)) then
                  some (((x.fst.1, List.set r1 (Int.toNat x.2) (-1 : Int)), (0 : Int)))
                else
                  none
              else
                none
          else
            none
        else
          none
def tendrilref06_Unpin_S : Sig := ⟨[⟨true, (.pair .int (.sl .int))⟩, ⟨false, .int⟩], [⟨true, (.pair .int (.sl .int))⟩, ⟨false, .int⟩], true, tendrilref06_Unpin⟩
set_option maxRecDepth 100000 in
theorem tendrilref06_Unpin_run (x : Tup [⟨true, (.pair .int (.sl .int))⟩, ⟨false, .int⟩]) : (pxFn Try.prog (lkΓ [(15, tendrilref06_Check_S), (18, tendrilref02_Copy_S)]) [] Try.f22 (bodyOf Try.f22) true [⟨true, (.pair .int (.sl .int))⟩, ⟨false, .int⟩] (encTup [⟨true, (.pair .int (.sl .int))⟩, ⟨false, .int⟩] x)).run (fun _ _ _ => none) = tendrilref06_Unpin x := by kernel_rfl
theorem tendrilref06_Unpin_cuts : ∀ p ∈ cuts Try.prog (lkΓ [(15, tendrilref06_Check_S), (18, tendrilref02_Copy_S)]) Try.f22.ntmps [] (bodyOf Try.f22) (κ0 Try.prog Try.f22 true [⟨true, (.pair .int (.sl .int))⟩, ⟨false, .int⟩]), CutOk (fun _ _ _ _ => none) p := cutsNil (by kernel_rfl)
theorem tendrilref06_Unpin_ok : SigOk Try.prog 22 tendrilref06_Unpin_S ∧ Bodied Try.prog 22 :=
  ⟨fn_sound (s := tendrilref06_Unpin_S) (T := []) (Λ := fun _ _ _ _ => none) 0 Try.func22 (c := bodyOf Try.f22) (by kernel_rfl) (by kernel_rfl) (lkΓ_cons (g := 15) (s0 := tendrilref06_Check_S) tendrilref06_Check_ok (lkΓ_cons (g := 18) (s0 := tendrilref02_Copy_S) tendrilref02_Copy_ok lkΓ_nil)) (by decide +kernel) (by decide +kernel) (fun _ _ _ => rfl) tendrilref06_Unpin_cuts (fun x => tendrilref06_Unpin_run  x), bodied_of Try.func22 (by decide +kernel) (by decide +kernel)⟩

/-! tendril/tendrilref06.Turn -/
def tendrilref06_Turn_L12 : Nat → (List Int) → (Int) → (Int) → (Int) → (List Int) → (Int) → (Int) → (List Int) → Option ((Int × List Int) × Bool)
  | 0, _, _, _, _, _, _, _, _ => none
  | k + 1, p0, p1, p2, p3, p4, p5, p6, p7 =>
    bif Decidable.decide (p2 < p1) then
      bif Decidable.decide ((0 : Int) ≤ p2) then
        bif Decidable.decide (p2 < (↑p0.length : Int)) then
          bif p0.getD p2.toNat (0 : Int) != (-1 : Int) then
            bif p0.getD p2.toNat (0 : Int) != p3 then
              some (((p6, p7), Bool.false))
            else
              tendrilref06_Turn_L12 k (p0) (p1) (Go.RowKit.wrap64 (p2 + (1 : Int))) (p3) (p4) (p5) (p6) (p7)
          else
            tendrilref06_Turn_L12 k (p0) (p1) (Go.RowKit.wrap64 (p2 + (1 : Int))) (p3) (p4) (p5) (p6) (p7)
        else
          none
      else
        none
    else
      bif p3 == (1152921504606846976 : Int) then
        some (((p6, p7), Bool.false))
      else
        some (((Go.RowKit.wrap64 (p6 + (1 : Int)), p7), Bool.true))
def tendrilref06_Turn_P12v0 (k : Nat) (vs : List SV) (bs : List Blk) : Option (Option ((Int × List Int) × Bool)) := match vs, bs with
  | [.val (.one (.ptr 0 0)), .val (.one (.ptr 1 0)), .val (.one (.ptr 2 0)), .val (.one (.sl .int p0)), .val (.one (.int .i64 p1)), .val (.one (.int .i64 p2))], [.box [(.int .i64 p3), (.sl .int p4)], .box [(.int .i64 p5), .nil], .box [(.int .i64 p6), (.row 3)], .row .int p7] => some (tendrilref06_Turn_L12 k p0 p1 p2 p3 p4 p5 p6 p7)
  | _, _ => none
def tendrilref06_Turn_P12 (k : Nat) (vs : List SV) (bs : List Blk) : Option ((Int × List Int) × Bool) := match tendrilref06_Turn_P12v0 k vs bs with | some r => r | none => none
def tendrilref06_Turn_Λ (k L : Nat) (vs : List SV) (bs : List Blk) : Option ((Int × List Int) × Bool) := match Nat.beq L 12 with | true => tendrilref06_Turn_P12 k vs bs | false => none
def tendrilref06_Turn_K (K : Nat) (x : Int × List Int) : Option ((Int × List Int) × Bool) :=
  (tendrilref06_Check ((x.1, x.2))).bind fun r0 =>
  bif r0 != (0 : Int) then
    some ((((0 : Int), []), Bool.false))
  else
    (tendrilref02_Copy (x.2)).bind fun r1 =>
    tendrilref06_Turn_L12 K (x.2) ((↑(List.length x.2) : Int)) ((0 : Int)) (x.1) (x.2) ((0 : Int)) (x.1) (r1)
def tendrilref06_Turn (x : (Int × (List Int))) : Option ((Int × (List Int)) × Bool) := tendrilref06_Turn_K 2000000 x
def tendrilref06_Turn_S : Sig := ⟨[⟨true, (.pair .int (.sl .int))⟩], [⟨true, (.pair .int (.sl .int))⟩, ⟨false, .bool⟩], true, tendrilref06_Turn⟩
noncomputable def tendrilref06_Turn_C : List (Cut (Tup [⟨true, (.pair .int (.sl .int))⟩, ⟨false, .bool⟩])) := cuts Try.prog (lkΓ [(15, tendrilref06_Check_S), (18, tendrilref02_Copy_S)]) Try.f23.ntmps [(12, [1, 2, 4, 18, 19, 20])] (bodyOf Try.f23) (κ0 Try.prog Try.f23 true [⟨true, (.pair .int (.sl .int))⟩, ⟨false, .bool⟩])
set_option maxRecDepth 100000 in
theorem tendrilref06_Turn_c12 (k : Nat) (p0 : List Int) (p1 : Int) (p2 : Int) (p3 : Int) (p4 : List Int) (p5 : Int) (p6 : Int) (p7 : List Int) : ((nthC tendrilref06_Turn_C 0).g (mkSt [1, 2, 4, 18, 19, 20] [.val (.one (.ptr 0 0)), .val (.one (.ptr 1 0)), .val (.one (.ptr 2 0)), .val (.one (.sl .int p0)), .val (.one (.int .i64 p1)), .val (.one (.int .i64 p2))] [.box [(.int .i64 p3), (.sl .int p4)], .box [(.int .i64 p5), .nil], .box [(.int .i64 p6), (.row 3)], .row .int p7])).run (tendrilref06_Turn_Λ k) = tendrilref06_Turn_L12 (k + 1) p0 p1 p2 p3 p4 p5 p6 p7 := by kernel_rfl
theorem tendrilref06_Turn_e12 (k : Nat) (vs : List SV) (bs : List Blk) (r : (Int × (List Int)) × Bool) (h : tendrilref06_Turn_P12v0 (k + 1) vs bs = some (some r)) : ((nthC tendrilref06_Turn_C 0).g (mkSt [1, 2, 4, 18, 19, 20] vs bs)).run (tendrilref06_Turn_Λ k) = some r := by
  unfold tendrilref06_Turn_P12v0 at h
  split at h
  · exact (tendrilref06_Turn_c12 k _ _ _ _ _ _ _ _).trans (Option.some.inj h)
  · cases h
theorem tendrilref06_Turn_d12 : CutOk tendrilref06_Turn_Λ (nthC tendrilref06_Turn_C 0) := by
  refine cutOk_of (L := 12) (live := [1, 2, 4, 18, 19, 20]) (by kernel_rfl) (by kernel_rfl) fun k vs bs r h => ?_
  change tendrilref06_Turn_P12 (k + 1) vs bs = some r at h
  unfold tendrilref06_Turn_P12 at h
  split at h
  · rename_i q hq
    exact tendrilref06_Turn_e12 k vs bs r (hq.trans (congrArg some h))
  cases h
theorem tendrilref06_Turn_cuts : ∀ p ∈ cuts Try.prog (lkΓ [(15, tendrilref06_Check_S), (18, tendrilref02_Copy_S)]) Try.f23.ntmps [(12, [1, 2, 4, 18, 19, 20])] (bodyOf Try.f23) (κ0 Try.prog Try.f23 true [⟨true, (.pair .int (.sl .int))⟩, ⟨false, .bool⟩]), CutOk tendrilref06_Turn_Λ p := cutsOk (l := tendrilref06_Turn_C) (n := 1) (by kernel_rfl) fun
  | 0, _ => tendrilref06_Turn_d12
  | k + 1, h => absurd h (by omega)
theorem tendrilref06_Turn_z12 (vs : List SV) (bs : List Blk) (q : Option ((Int × (List Int)) × Bool)) (h : tendrilref06_Turn_P12v0 0 vs bs = some q) : q = none := by
  unfold tendrilref06_Turn_P12v0 at h; split at h
  · have h := Option.some.inj h; rw [← h]; first | rfl | (unfold tendrilref06_Turn_L12; rfl)
  · cases h
theorem tendrilref06_Turn_Λ0 (L : Nat) (vs : List SV) (bs : List Blk) : tendrilref06_Turn_Λ 0 L vs bs = none := by
  unfold tendrilref06_Turn_Λ
  split
  · unfold tendrilref06_Turn_P12
    split
    · rename_i q hq; exact tendrilref06_Turn_z12 _ _ q hq
    rfl
  rfl
set_option maxRecDepth 100000 in
theorem tendrilref06_Turn_run (K : Nat) (x : Tup [⟨true, (.pair .int (.sl .int))⟩]) : (pxFn Try.prog (lkΓ [(15, tendrilref06_Check_S), (18, tendrilref02_Copy_S)]) [(12, [1, 2, 4, 18, 19, 20])] Try.f23 (bodyOf Try.f23) true [⟨true, (.pair .int (.sl .int))⟩, ⟨false, .bool⟩] (encTup [⟨true, (.pair .int (.sl .int))⟩] x)).run (tendrilref06_Turn_Λ K) = tendrilref06_Turn_K K x := by kernel_rfl
theorem tendrilref06_Turn_ok : SigOk Try.prog 23 tendrilref06_Turn_S ∧ Bodied Try.prog 23 :=
  ⟨fn_sound (s := tendrilref06_Turn_S) (T := [(12, [1, 2, 4, 18, 19, 20])]) (Λ := tendrilref06_Turn_Λ) 2000000 Try.func23 (c := bodyOf Try.f23) (by kernel_rfl) (by kernel_rfl) (lkΓ_cons (g := 15) (s0 := tendrilref06_Check_S) tendrilref06_Check_ok (lkΓ_cons (g := 18) (s0 := tendrilref02_Copy_S) tendrilref02_Copy_ok lkΓ_nil)) (by decide +kernel) (by decide +kernel) tendrilref06_Turn_Λ0 tendrilref06_Turn_cuts (fun x => tendrilref06_Turn_run 2000000 x), bodied_of Try.func23 (by decide +kernel) (by decide +kernel)⟩

/-! tendril/tendrillaw06.EraDoes -/
mutual
def tendrillaw06_EraDoes_L30 : Nat → (Bool) → (Int) → (Int) → (Int) → (List Int) → (List Int) → (Int) → (Int) → (Int) → (List Int) → (List Int) → (List Int) → Option (Bool)
  | 0, _, _, _, _, _, _, _, _, _, _, _, _ => none
  | k + 1, p0, p1, p2, p3, p4, p5, p6, p7, p8, p9, p10, p11 =>
    bif Decidable.decide (p2 < p1) then
      bif Decidable.decide (p2 = (↑(nat_lit 2) : Int)) then
        tendrillaw06_EraDoes_L36 k (p0) (p1) (p2) ((↑p11.length : Int)) ((0 : Int)) (p3) (p4) (p5) (p8) (p6) (p7) (p8) (p11) (p9) (p10)
      else
        bif Decidable.decide (p2 = (↑(nat_lit 1) : Int)) then
          tendrillaw06_EraDoes_L36x1 k (p0) (p1) (p2) ((↑p10.length : Int)) ((0 : Int)) (p3) (p4) (p5) (p7) (p6) (p7) (p8) (p10) (p9) (p11)
        else
          bif Decidable.decide (p2 = (↑(nat_lit 0) : Int)) then
            tendrillaw06_EraDoes_L36x2 k (p0) (p1) (p2) ((↑p9.length : Int)) ((0 : Int)) (p3) (p4) (p5) (p6) (p6) (p7) (p8) (p9) (p10) (p11)
          else
            none
    else
      bif p0 then
        (tendrilref02_Same ((p4, p5))).bind fun r11 =>
        some (r11)
      else
        some (Bool.false)
def tendrillaw06_EraDoes_L36 : Nat → (Bool) → (Int) → (Int) → (Int) → (Int) → (Int) → (List Int) → (List Int) → (Int) → (Int) → (Int) → (Int) → (List Int) → (List Int) → (List Int) → Option (Bool)
  | 0, _, _, _, _, _, _, _, _, _, _, _, _, _, _, _ => none
  | k + 1, p0, p1, p2, p3, p4, p5, p6, p7, p8, p9, p10, p11, p12, p13, p14 =>
    bif Decidable.decide (p4 < p3) then
      bif Decidable.decide ((0 : Int) ≤ p4) then
        bif Decidable.decide (p4 < (↑p12.length : Int)) then
          bif Decidable.decide ((0 : Int) ≤ p4) then
            bif Decidable.decide (p4 < (↑p12.length : Int)) then
              tendrillaw06_EraDoes_L36 k (p0) (p1) (p2) (p3) (Go.RowKit.wrap64 (p4 + (1 : Int))) (p5) (p6) (p7) (p8) (p9) (p10) (p11) (p12.set p4.toNat (Go.RowKit.wrap64 (p12.getD p4.toNat (0 : Int) + (1 : Int)))) (p13) (p14)
            else
              none
          else
            none
        else
          none
      else
        none
    else
      tendrillaw06_EraDoes_L30 k (p0) (p1) (Go.RowKit.wrap64 (p2 + (1 : Int))) (p5) (p6) (p7) (p9) (p10) (p11) (p13) (p14) (p12)
def tendrillaw06_EraDoes_L36x1 : Nat → (Bool) → (Int) → (Int) → (Int) → (Int) → (Int) → (List Int) → (List Int) → (Int) → (Int) → (Int) → (Int) → (List Int) → (List Int) → (List Int) → Option (Bool)
  | 0, _, _, _, _, _, _, _, _, _, _, _, _, _, _, _ => none
  | k + 1, p0, p1, p2, p3, p4, p5, p6, p7, p8, p9, p10, p11, p12, p13, p14 =>
    bif Decidable.decide (p4 < p3) then
      bif Decidable.decide ((0 : Int) ≤ p4) then
        bif Decidable.decide (p4 < (↑p12.length : Int)) then
          bif Decidable.decide ((0 : Int) ≤ p4) then
            bif Decidable.decide (p4 < (↑p12.length : Int)) then
              tendrillaw06_EraDoes_L36x1 k (p0) (p1) (p2) (p3) (Go.RowKit.wrap64 (p4 + (1 : Int))) (p5) (p6) (p7) (p8) (p9) (p10) (p11) (p12.set p4.toNat (Go.RowKit.wrap64 (p12.getD p4.toNat (0 : Int) + (1 : Int)))) (p13) (p14)
            else
              none
          else
            none
        else
          none
      else
        none
    else
      tendrillaw06_EraDoes_L30 k (p0) (p1) (Go.RowKit.wrap64 (p2 + (1 : Int))) (p5) (p6) (p7) (p9) (p10) (p11) (p13) (p12) (p14)
def tendrillaw06_EraDoes_L36x2 : Nat → (Bool) → (Int) → (Int) → (Int) → (Int) → (Int) → (List Int) → (List Int) → (Int) → (Int) → (Int) → (Int) → (List Int) → (List Int) → (List Int) → Option (Bool)
  | 0, _, _, _, _, _, _, _, _, _, _, _, _, _, _, _ => none
  | k + 1, p0, p1, p2, p3, p4, p5, p6, p7, p8, p9, p10, p11, p12, p13, p14 =>
    bif Decidable.decide (p4 < p3) then
      bif Decidable.decide ((0 : Int) ≤ p4) then
        bif Decidable.decide (p4 < (↑p12.length : Int)) then
          bif Decidable.decide ((0 : Int) ≤ p4) then
            bif Decidable.decide (p4 < (↑p12.length : Int)) then
              tendrillaw06_EraDoes_L36x2 k (p0) (p1) (p2) (p3) (Go.RowKit.wrap64 (p4 + (1 : Int))) (p5) (p6) (p7) (p8) (p9) (p10) (p11) (p12.set p4.toNat (Go.RowKit.wrap64 (p12.getD p4.toNat (0 : Int) + (1 : Int)))) (p13) (p14)
            else
              none
          else
            none
        else
          none
      else
        none
    else
      tendrillaw06_EraDoes_L30 k (p0) (p1) (Go.RowKit.wrap64 (p2 + (1 : Int))) (p5) (p6) (p7) (p9) (p10) (p11) (p12) (p13) (p14)
end
def tendrillaw06_EraDoes_P30v0 (k : Nat) (vs : List SV) (bs : List Blk) : Option (Option (Bool)) := match vs, bs with
  | [.val (.one (.ptr 0 0)), .val (.one (.row 1)), .val (.one (.bool p0)), .val (.one (.bsl 2 0 3)), .val (.one (.int .i64 p1)), .val (.one (.int .i64 p2))], [.box [(.int .i64 p3), (.sl .int p4)], .row .int p5, .box [(.int .i64 p6), (.row 3), (.int .i64 p7), (.row 4), (.int .i64 p8), (.row 5)], .row .int p9, .row .int p10, .row .int p11] => some (tendrillaw06_EraDoes_L30 k p0 p1 p2 p3 p4 p5 p6 p7 p8 p9 p10 p11)
  | _, _ => none
def tendrillaw06_EraDoes_P36v0 (k : Nat) (vs : List SV) (bs : List Blk) : Option (Option (Bool)) := match vs, bs with
  | [.val (.one (.ptr 0 0)), .val (.one (.row 1)), .val (.one (.bool p0)), .val (.one (.ptr 2 0)), .val (.one (.bsl 3 0 3)), .val (.one (.int .i64 p1)), .val (.one (.int .i64 p2)), .val (.one (.int .i64 p3)), .val (.one (.int .i64 p4))], [.box [(.int .i64 p5), (.sl .int p6)], .row .int p7, .box [(.int .i64 p8), (.row 4)], .box [(.int .i64 p9), (.row 5), (.int .i64 p10), (.row 6), (.int .i64 p11), (.row 4)], .row .int p12, .row .int p13, .row .int p14] => some (tendrillaw06_EraDoes_L36 k p0 p1 p2 p3 p4 p5 p6 p7 p8 p9 p10 p11 p12 p13 p14)
  | _, _ => none
def tendrillaw06_EraDoes_P36v1 (k : Nat) (vs : List SV) (bs : List Blk) : Option (Option (Bool)) := match vs, bs with
  | [.val (.one (.ptr 0 0)), .val (.one (.row 1)), .val (.one (.bool p0)), .val (.one (.ptr 2 0)), .val (.one (.bsl 3 0 3)), .val (.one (.int .i64 p1)), .val (.one (.int .i64 p2)), .val (.one (.int .i64 p3)), .val (.one (.int .i64 p4))], [.box [(.int .i64 p5), (.sl .int p6)], .row .int p7, .box [(.int .i64 p8), (.row 4)], .box [(.int .i64 p9), (.row 5), (.int .i64 p10), (.row 4), (.int .i64 p11), (.row 6)], .row .int p12, .row .int p13, .row .int p14] => some (tendrillaw06_EraDoes_L36x1 k p0 p1 p2 p3 p4 p5 p6 p7 p8 p9 p10 p11 p12 p13 p14)
  | _, _ => none
def tendrillaw06_EraDoes_P36v2 (k : Nat) (vs : List SV) (bs : List Blk) : Option (Option (Bool)) := match vs, bs with
  | [.val (.one (.ptr 0 0)), .val (.one (.row 1)), .val (.one (.bool p0)), .val (.one (.ptr 2 0)), .val (.one (.bsl 3 0 3)), .val (.one (.int .i64 p1)), .val (.one (.int .i64 p2)), .val (.one (.int .i64 p3)), .val (.one (.int .i64 p4))], [.box [(.int .i64 p5), (.sl .int p6)], .row .int p7, .box [(.int .i64 p8), (.row 4)], .box [(.int .i64 p9), (.row 4), (.int .i64 p10), (.row 5), (.int .i64 p11), (.row 6)], .row .int p12, .row .int p13, .row .int p14] => some (tendrillaw06_EraDoes_L36x2 k p0 p1 p2 p3 p4 p5 p6 p7 p8 p9 p10 p11 p12 p13 p14)
  | _, _ => none
def tendrillaw06_EraDoes_P30 (k : Nat) (vs : List SV) (bs : List Blk) : Option (Bool) := match tendrillaw06_EraDoes_P30v0 k vs bs with | some r => r | none => none
def tendrillaw06_EraDoes_P36 (k : Nat) (vs : List SV) (bs : List Blk) : Option (Bool) := match tendrillaw06_EraDoes_P36v0 k vs bs with | some r => r | none => match tendrillaw06_EraDoes_P36v1 k vs bs with | some r => r | none => match tendrillaw06_EraDoes_P36v2 k vs bs with | some r => r | none => none
def tendrillaw06_EraDoes_Λ (k L : Nat) (vs : List SV) (bs : List Blk) : Option (Bool) := match Nat.beq L 30 with | true => tendrillaw06_EraDoes_P30 k vs bs | false => match Nat.beq L 36 with | true => tendrillaw06_EraDoes_P36 k vs bs | false => none
def tendrillaw06_EraDoes_K (K : Nat) (x : (Int × List Int) × Int) : Option (Bool) :=
  (tendrillaw06_live (())).bind fun r0 =>
  bif !r0 then
    some (Bool.false)
  else
    bif Decidable.decide ((200 : Int) < (↑(List.length x.fst.2) : Int)) then
      some (Bool.true)
    else
      (tendrilref02_Copy (x.fst.2)).bind fun r1 =>
      (era_Pin (((x.fst.1, x.fst.2), x.2))).bind fun r2 =>
      (tendrilref06_Pin (((x.fst.1, x.fst.2), x.2))).bind fun r3 =>
      (era_Unpin (((x.fst.1, x.fst.2), x.2))).bind fun r4 =>
      (tendrilref06_Unpin (((x.fst.1, x.fst.2), x.2))).bind fun r5 =>
      (era_Turn ((x.fst.1, x.fst.2))).bind fun r6 =>
      (tendrilref06_Turn ((x.fst.1, x.fst.2))).bind fun r7 =>
      (tendrilref06_Same (((r2.fst.1, r2.fst.2), r3.fst.1, r3.fst.2))).bind fun r8 =>
      bif r8 then
        bif r2.2 == r3.2 then
          (tendrilref06_Same (((r4.fst.1, r4.fst.2), r5.fst.1, r5.fst.2))).bind fun r9 =>
          bif r9 then
            bif r4.2 == r5.2 then
              (tendrilref06_Same (((r6.fst.1, r6.fst.2), r7.fst.1, r7.fst.2))).bind fun r10 =>
              bif r10 then
                tendrillaw06_EraDoes_L30 K (r6.2 == r7.2) ((↑(3 : Nat) : Int)) ((0 : Int)) (x.fst.1) (x.fst.2) (r1) (r2.fst.1) (r4.fst.1) (r6.fst.1) (r2.fst.2) (r4.fst.2) (r6.fst.2)
              else
                tendrillaw06_EraDoes_L30 K (Bool.false) ((↑(3 : Nat) : Int)) ((0 : Int)) (x.fst.1) (x.fst.2) (r1) (r2.fst.1) (r4.fst.1) (r6.fst.1) (r2.fst.2) (r4.fst.2) (r6.fst.2)
            else
              tendrillaw06_EraDoes_L30 K (Bool.false) ((↑(3 : Nat) : Int)) ((0 : Int)) (x.fst.1) (x.fst.2) (r1) (r2.fst.1) (r4.fst.1) (r6.fst.1) (r2.fst.2) (r4.fst.2) (r6.fst.2)
          else
            tendrillaw06_EraDoes_L30 K (Bool.false) ((↑(3 : Nat) : Int)) ((0 : Int)) (x.fst.1) (x.fst.2) (r1) (r2.fst.1) (r4.fst.1) (r6.fst.1) (r2.fst.2) (r4.fst.2) (r6.fst.2)
        else
          tendrillaw06_EraDoes_L30 K (Bool.false) ((↑(3 : Nat) : Int)) ((0 : Int)) (x.fst.1) (x.fst.2) (r1) (r2.fst.1) (r4.fst.1) (r6.fst.1) (r2.fst.2) (r4.fst.2) (r6.fst.2)
      else
        tendrillaw06_EraDoes_L30 K (Bool.false) ((↑(3 : Nat) : Int)) ((0 : Int)) (x.fst.1) (x.fst.2) (r1) (r2.fst.1) (r4.fst.1) (r6.fst.1) (r2.fst.2) (r4.fst.2) (r6.fst.2)
def tendrillaw06_EraDoes (x : (Int × (List Int)) × Int) : Option (Bool) := tendrillaw06_EraDoes_K 2000000 x
def tendrillaw06_EraDoes_S : Sig := ⟨[⟨true, (.pair .int (.sl .int))⟩, ⟨false, .int⟩], [⟨false, .bool⟩], false, tendrillaw06_EraDoes⟩
noncomputable def tendrillaw06_EraDoes_C : List (Cut (Tup [⟨false, .bool⟩])) := cuts Try.prog (lkΓ [(9, tendrillaw06_live_S), (11, era_Turn_S), (12, tendrilref06_Same_S), (18, tendrilref02_Copy_S), (19, era_Pin_S), (20, tendrilref06_Pin_S), (21, era_Unpin_S), (22, tendrilref06_Unpin_S), (23, tendrilref06_Turn_S), (24, tendrilref02_Same_S)]) Try.f6.ntmps [(36, [2, 5, 18, 20, 96, 97, 98, 104, 105]), (30, [2, 5, 18, 96, 97, 98])] (bodyOf Try.f6) (κ0 Try.prog Try.f6 false [⟨false, .bool⟩])
set_option maxRecDepth 100000 in
theorem tendrillaw06_EraDoes_c30 (k : Nat) (p0 : Bool) (p1 : Int) (p2 : Int) (p3 : Int) (p4 : List Int) (p5 : List Int) (p6 : Int) (p7 : Int) (p8 : Int) (p9 : List Int) (p10 : List Int) (p11 : List Int) : ((nthC tendrillaw06_EraDoes_C 0).g (mkSt [2, 5, 18, 96, 97, 98] [.val (.one (.ptr 0 0)), .val (.one (.row 1)), .val (.one (.bool p0)), .val (.one (.bsl 2 0 3)), .val (.one (.int .i64 p1)), .val (.one (.int .i64 p2))] [.box [(.int .i64 p3), (.sl .int p4)], .row .int p5, .box [(.int .i64 p6), (.row 3), (.int .i64 p7), (.row 4), (.int .i64 p8), (.row 5)], .row .int p9, .row .int p10, .row .int p11])).run (tendrillaw06_EraDoes_Λ k) = tendrillaw06_EraDoes_L30 (k + 1) p0 p1 p2 p3 p4 p5 p6 p7 p8 p9 p10 p11 := by kernel_rfl
theorem tendrillaw06_EraDoes_e30 (k : Nat) (vs : List SV) (bs : List Blk) (r : Bool) (h : tendrillaw06_EraDoes_P30v0 (k + 1) vs bs = some (some r)) : ((nthC tendrillaw06_EraDoes_C 0).g (mkSt [2, 5, 18, 96, 97, 98] vs bs)).run (tendrillaw06_EraDoes_Λ k) = some r := by
  unfold tendrillaw06_EraDoes_P30v0 at h
  split at h
  · exact (tendrillaw06_EraDoes_c30 k _ _ _ _ _ _ _ _ _ _ _ _).trans (Option.some.inj h)
  · cases h
set_option maxRecDepth 100000 in
theorem tendrillaw06_EraDoes_c36 (k : Nat) (p0 : Bool) (p1 : Int) (p2 : Int) (p3 : Int) (p4 : Int) (p5 : Int) (p6 : List Int) (p7 : List Int) (p8 : Int) (p9 : Int) (p10 : Int) (p11 : Int) (p12 : List Int) (p13 : List Int) (p14 : List Int) : ((nthC tendrillaw06_EraDoes_C 1).g (mkSt [2, 5, 18, 20, 96, 97, 98, 104, 105] [.val (.one (.ptr 0 0)), .val (.one (.row 1)), .val (.one (.bool p0)), .val (.one (.ptr 2 0)), .val (.one (.bsl 3 0 3)), .val (.one (.int .i64 p1)), .val (.one (.int .i64 p2)), .val (.one (.int .i64 p3)), .val (.one (.int .i64 p4))] [.box [(.int .i64 p5), (.sl .int p6)], .row .int p7, .box [(.int .i64 p8), (.row 4)], .box [(.int .i64 p9), (.row 5), (.int .i64 p10), (.row 6), (.int .i64 p11), (.row 4)], .row .int p12, .row .int p13, .row .int p14])).run (tendrillaw06_EraDoes_Λ k) = tendrillaw06_EraDoes_L36 (k + 1) p0 p1 p2 p3 p4 p5 p6 p7 p8 p9 p10 p11 p12 p13 p14 := by kernel_rfl
theorem tendrillaw06_EraDoes_e36 (k : Nat) (vs : List SV) (bs : List Blk) (r : Bool) (h : tendrillaw06_EraDoes_P36v0 (k + 1) vs bs = some (some r)) : ((nthC tendrillaw06_EraDoes_C 1).g (mkSt [2, 5, 18, 20, 96, 97, 98, 104, 105] vs bs)).run (tendrillaw06_EraDoes_Λ k) = some r := by
  unfold tendrillaw06_EraDoes_P36v0 at h
  split at h
  · exact (tendrillaw06_EraDoes_c36 k _ _ _ _ _ _ _ _ _ _ _ _ _ _ _).trans (Option.some.inj h)
  · cases h
set_option maxRecDepth 100000 in
theorem tendrillaw06_EraDoes_c36x1 (k : Nat) (p0 : Bool) (p1 : Int) (p2 : Int) (p3 : Int) (p4 : Int) (p5 : Int) (p6 : List Int) (p7 : List Int) (p8 : Int) (p9 : Int) (p10 : Int) (p11 : Int) (p12 : List Int) (p13 : List Int) (p14 : List Int) : ((nthC tendrillaw06_EraDoes_C 1).g (mkSt [2, 5, 18, 20, 96, 97, 98, 104, 105] [.val (.one (.ptr 0 0)), .val (.one (.row 1)), .val (.one (.bool p0)), .val (.one (.ptr 2 0)), .val (.one (.bsl 3 0 3)), .val (.one (.int .i64 p1)), .val (.one (.int .i64 p2)), .val (.one (.int .i64 p3)), .val (.one (.int .i64 p4))] [.box [(.int .i64 p5), (.sl .int p6)], .row .int p7, .box [(.int .i64 p8), (.row 4)], .box [(.int .i64 p9), (.row 5), (.int .i64 p10), (.row 4), (.int .i64 p11), (.row 6)], .row .int p12, .row .int p13, .row .int p14])).run (tendrillaw06_EraDoes_Λ k) = tendrillaw06_EraDoes_L36x1 (k + 1) p0 p1 p2 p3 p4 p5 p6 p7 p8 p9 p10 p11 p12 p13 p14 := by kernel_rfl
theorem tendrillaw06_EraDoes_e36x1 (k : Nat) (vs : List SV) (bs : List Blk) (r : Bool) (h : tendrillaw06_EraDoes_P36v1 (k + 1) vs bs = some (some r)) : ((nthC tendrillaw06_EraDoes_C 1).g (mkSt [2, 5, 18, 20, 96, 97, 98, 104, 105] vs bs)).run (tendrillaw06_EraDoes_Λ k) = some r := by
  unfold tendrillaw06_EraDoes_P36v1 at h
  split at h
  · exact (tendrillaw06_EraDoes_c36x1 k _ _ _ _ _ _ _ _ _ _ _ _ _ _ _).trans (Option.some.inj h)
  · cases h
set_option maxRecDepth 100000 in
theorem tendrillaw06_EraDoes_c36x2 (k : Nat) (p0 : Bool) (p1 : Int) (p2 : Int) (p3 : Int) (p4 : Int) (p5 : Int) (p6 : List Int) (p7 : List Int) (p8 : Int) (p9 : Int) (p10 : Int) (p11 : Int) (p12 : List Int) (p13 : List Int) (p14 : List Int) : ((nthC tendrillaw06_EraDoes_C 1).g (mkSt [2, 5, 18, 20, 96, 97, 98, 104, 105] [.val (.one (.ptr 0 0)), .val (.one (.row 1)), .val (.one (.bool p0)), .val (.one (.ptr 2 0)), .val (.one (.bsl 3 0 3)), .val (.one (.int .i64 p1)), .val (.one (.int .i64 p2)), .val (.one (.int .i64 p3)), .val (.one (.int .i64 p4))] [.box [(.int .i64 p5), (.sl .int p6)], .row .int p7, .box [(.int .i64 p8), (.row 4)], .box [(.int .i64 p9), (.row 4), (.int .i64 p10), (.row 5), (.int .i64 p11), (.row 6)], .row .int p12, .row .int p13, .row .int p14])).run (tendrillaw06_EraDoes_Λ k) = tendrillaw06_EraDoes_L36x2 (k + 1) p0 p1 p2 p3 p4 p5 p6 p7 p8 p9 p10 p11 p12 p13 p14 := by kernel_rfl
theorem tendrillaw06_EraDoes_e36x2 (k : Nat) (vs : List SV) (bs : List Blk) (r : Bool) (h : tendrillaw06_EraDoes_P36v2 (k + 1) vs bs = some (some r)) : ((nthC tendrillaw06_EraDoes_C 1).g (mkSt [2, 5, 18, 20, 96, 97, 98, 104, 105] vs bs)).run (tendrillaw06_EraDoes_Λ k) = some r := by
  unfold tendrillaw06_EraDoes_P36v2 at h
  split at h
  · exact (tendrillaw06_EraDoes_c36x2 k _ _ _ _ _ _ _ _ _ _ _ _ _ _ _).trans (Option.some.inj h)
  · cases h
theorem tendrillaw06_EraDoes_d30 : CutOk tendrillaw06_EraDoes_Λ (nthC tendrillaw06_EraDoes_C 0) := by
  refine cutOk_of (L := 30) (live := [2, 5, 18, 96, 97, 98]) (by kernel_rfl) (by kernel_rfl) fun k vs bs r h => ?_
  change tendrillaw06_EraDoes_P30 (k + 1) vs bs = some r at h
  unfold tendrillaw06_EraDoes_P30 at h
  split at h
  · rename_i q hq
    exact tendrillaw06_EraDoes_e30 k vs bs r (hq.trans (congrArg some h))
  cases h
theorem tendrillaw06_EraDoes_d36 : CutOk tendrillaw06_EraDoes_Λ (nthC tendrillaw06_EraDoes_C 1) := by
  refine cutOk_of (L := 36) (live := [2, 5, 18, 20, 96, 97, 98, 104, 105]) (by kernel_rfl) (by kernel_rfl) fun k vs bs r h => ?_
  change tendrillaw06_EraDoes_P36 (k + 1) vs bs = some r at h
  unfold tendrillaw06_EraDoes_P36 at h
  split at h
  · rename_i q hq
    exact tendrillaw06_EraDoes_e36 k vs bs r (hq.trans (congrArg some h))
  split at h
  · rename_i q hq
    exact tendrillaw06_EraDoes_e36x1 k vs bs r (hq.trans (congrArg some h))
  split at h
  · rename_i q hq
    exact tendrillaw06_EraDoes_e36x2 k vs bs r (hq.trans (congrArg some h))
  cases h
theorem tendrillaw06_EraDoes_cuts : ∀ p ∈ cuts Try.prog (lkΓ [(9, tendrillaw06_live_S), (11, era_Turn_S), (12, tendrilref06_Same_S), (18, tendrilref02_Copy_S), (19, era_Pin_S), (20, tendrilref06_Pin_S), (21, era_Unpin_S), (22, tendrilref06_Unpin_S), (23, tendrilref06_Turn_S), (24, tendrilref02_Same_S)]) Try.f6.ntmps [(36, [2, 5, 18, 20, 96, 97, 98, 104, 105]), (30, [2, 5, 18, 96, 97, 98])] (bodyOf Try.f6) (κ0 Try.prog Try.f6 false [⟨false, .bool⟩]), CutOk tendrillaw06_EraDoes_Λ p := cutsOk (l := tendrillaw06_EraDoes_C) (n := 2) (by kernel_rfl) fun
  | 0, _ => tendrillaw06_EraDoes_d30
  | 1, _ => tendrillaw06_EraDoes_d36
  | k + 2, h => absurd h (by omega)
theorem tendrillaw06_EraDoes_z30 (vs : List SV) (bs : List Blk) (q : Option (Bool)) (h : tendrillaw06_EraDoes_P30v0 0 vs bs = some q) : q = none := by
  unfold tendrillaw06_EraDoes_P30v0 at h; split at h
  · have h := Option.some.inj h; rw [← h]; first | rfl | (unfold tendrillaw06_EraDoes_L30; rfl)
  · cases h
theorem tendrillaw06_EraDoes_z36 (vs : List SV) (bs : List Blk) (q : Option (Bool)) (h : tendrillaw06_EraDoes_P36v0 0 vs bs = some q) : q = none := by
  unfold tendrillaw06_EraDoes_P36v0 at h; split at h
  · have h := Option.some.inj h; rw [← h]; first | rfl | (unfold tendrillaw06_EraDoes_L36; rfl)
  · cases h
theorem tendrillaw06_EraDoes_z36x1 (vs : List SV) (bs : List Blk) (q : Option (Bool)) (h : tendrillaw06_EraDoes_P36v1 0 vs bs = some q) : q = none := by
  unfold tendrillaw06_EraDoes_P36v1 at h; split at h
  · have h := Option.some.inj h; rw [← h]; first | rfl | (unfold tendrillaw06_EraDoes_L36x1; rfl)
  · cases h
theorem tendrillaw06_EraDoes_z36x2 (vs : List SV) (bs : List Blk) (q : Option (Bool)) (h : tendrillaw06_EraDoes_P36v2 0 vs bs = some q) : q = none := by
  unfold tendrillaw06_EraDoes_P36v2 at h; split at h
  · have h := Option.some.inj h; rw [← h]; first | rfl | (unfold tendrillaw06_EraDoes_L36x2; rfl)
  · cases h
theorem tendrillaw06_EraDoes_Λ0 (L : Nat) (vs : List SV) (bs : List Blk) : tendrillaw06_EraDoes_Λ 0 L vs bs = none := by
  unfold tendrillaw06_EraDoes_Λ
  split
  · unfold tendrillaw06_EraDoes_P30
    split
    · rename_i q hq; exact tendrillaw06_EraDoes_z30 _ _ q hq
    rfl
  split
  · unfold tendrillaw06_EraDoes_P36
    split
    · rename_i q hq; exact tendrillaw06_EraDoes_z36 _ _ q hq
    split
    · rename_i q hq; exact tendrillaw06_EraDoes_z36x1 _ _ q hq
    split
    · rename_i q hq; exact tendrillaw06_EraDoes_z36x2 _ _ q hq
    rfl
  rfl
set_option maxRecDepth 100000 in
theorem tendrillaw06_EraDoes_run (K : Nat) (x : Tup [⟨true, (.pair .int (.sl .int))⟩, ⟨false, .int⟩]) : (pxFn Try.prog (lkΓ [(9, tendrillaw06_live_S), (11, era_Turn_S), (12, tendrilref06_Same_S), (18, tendrilref02_Copy_S), (19, era_Pin_S), (20, tendrilref06_Pin_S), (21, era_Unpin_S), (22, tendrilref06_Unpin_S), (23, tendrilref06_Turn_S), (24, tendrilref02_Same_S)]) [(36, [2, 5, 18, 20, 96, 97, 98, 104, 105]), (30, [2, 5, 18, 96, 97, 98])] Try.f6 (bodyOf Try.f6) false [⟨false, .bool⟩] (encTup [⟨true, (.pair .int (.sl .int))⟩, ⟨false, .int⟩] x)).run (tendrillaw06_EraDoes_Λ K) = tendrillaw06_EraDoes_K K x := by kernel_rfl
theorem tendrillaw06_EraDoes_ok : SigOk Try.prog 6 tendrillaw06_EraDoes_S ∧ Bodied Try.prog 6 :=
  ⟨fn_sound (s := tendrillaw06_EraDoes_S) (T := [(36, [2, 5, 18, 20, 96, 97, 98, 104, 105]), (30, [2, 5, 18, 96, 97, 98])]) (Λ := tendrillaw06_EraDoes_Λ) 2000000 Try.func6 (c := bodyOf Try.f6) (by kernel_rfl) (by kernel_rfl) (lkΓ_cons (g := 9) (s0 := tendrillaw06_live_S) tendrillaw06_live_ok (lkΓ_cons (g := 11) (s0 := era_Turn_S) era_Turn_ok (lkΓ_cons (g := 12) (s0 := tendrilref06_Same_S) tendrilref06_Same_ok (lkΓ_cons (g := 18) (s0 := tendrilref02_Copy_S) tendrilref02_Copy_ok (lkΓ_cons (g := 19) (s0 := era_Pin_S) era_Pin_ok (lkΓ_cons (g := 20) (s0 := tendrilref06_Pin_S) tendrilref06_Pin_ok (lkΓ_cons (g := 21) (s0 := era_Unpin_S) era_Unpin_ok (lkΓ_cons (g := 22) (s0 := tendrilref06_Unpin_S) tendrilref06_Unpin_ok (lkΓ_cons (g := 23) (s0 := tendrilref06_Turn_S) tendrilref06_Turn_ok (lkΓ_cons (g := 24) (s0 := tendrilref02_Same_S) tendrilref02_Same_ok lkΓ_nil)))))))))) (by decide +kernel) (by decide +kernel) tendrillaw06_EraDoes_Λ0 tendrillaw06_EraDoes_cuts (fun x => tendrillaw06_EraDoes_run 2000000 x), bodied_of Try.func6 (by decide +kernel) (by decide +kernel)⟩

/-! tendril/tendrillaw06.EraApart -/
mutual
def tendrillaw06_EraApart_L22 : Nat → (Int) → (Int) → (Int) → (Int) → (Int) → (Int) → (List Int) → (Int) → (Int) → (List Int) → (List Int) → Option (Bool)
  | 0, _, _, _, _, _, _, _, _, _, _, _ => none
  | k + 1, p0, p1, p2, p3, p4, p5, p6, p7, p8, p9, p10 =>
    bif Decidable.decide (p4 < p3) then
      bif Decidable.decide (p4 = (↑(nat_lit 1) : Int)) then
        bif (↑p10.length : Int) == (0 : Int) then
          tendrillaw06_EraApart_L22 k (p0) (p1) (p2) (p3) (Go.RowKit.wrap64 (p4 + (1 : Int))) (p5) (p6) (p7) (p8) (p9) (p10)
        else
          bif (↑p10.length : Int) != (↑p6.length : Int) then
            some (Bool.false)
          else
            bif p8 != p5 then
              some (Bool.false)
            else
              tendrillaw06_EraApart_L34 k (p0) (p1) (p2) (p3) (p4) ((↑p6.length : Int)) ((0 : Int)) (p5) (p6) (p8) (p7) (p8) (p10) (p9)
      else
        bif Decidable.decide (p4 = (↑(nat_lit 0) : Int)) then
          bif (↑p9.length : Int) == (0 : Int) then
            tendrillaw06_EraApart_L22 k (p0) (p1) (p2) (p3) (Go.RowKit.wrap64 (p4 + (1 : Int))) (p5) (p6) (p7) (p8) (p9) (p10)
          else
            bif (↑p9.length : Int) != (↑p6.length : Int) then
              some (Bool.false)
            else
              bif p7 != p5 then
                some (Bool.false)
              else
                tendrillaw06_EraApart_L34x1 k (p0) (p1) (p2) (p3) (p4) ((↑p6.length : Int)) ((0 : Int)) (p5) (p6) (p7) (p7) (p8) (p9) (p10)
        else
          none
    else
      bif p1 == (0 : Int) then
        bif Decidable.decide ((0 : Int) ≤ p0) then
          some (Bool.true == Decidable.decide (p0 < (↑p6.length : Int)))
        else
          some (Bool.false)
      else
        bif Decidable.decide ((0 : Int) ≤ p0) then
          some ((p2 == (0 : Int)) == Decidable.decide (p0 < (↑p6.length : Int)))
        else
          some ((p2 == (0 : Int)) == Bool.false)
def tendrillaw06_EraApart_L34 : Nat → (Int) → (Int) → (Int) → (Int) → (Int) → (Int) → (Int) → (Int) → (List Int) → (Int) → (Int) → (Int) → (List Int) → (List Int) → Option (Bool)
  | 0, _, _, _, _, _, _, _, _, _, _, _, _, _, _ => none
  | k + 1, p0, p1, p2, p3, p4, p5, p6, p7, p8, p9, p10, p11, p12, p13 =>
    bif Decidable.decide (p6 < p5) then
      bif Decidable.decide ((0 : Int) ≤ p6) then
        bif Decidable.decide (p6 < (↑p12.length : Int)) then
          bif Decidable.decide ((0 : Int) ≤ p6) then
            bif Decidable.decide (p6 < (↑p8.length : Int)) then
              bif !(p12.getD p6.toNat (0 : Int) != p8.getD p6.toNat (0 : Int)) == (p6 == p0) then
                some (Bool.false)
              else
                tendrillaw06_EraApart_L34 k (p0) (p1) (p2) (p3) (p4) (p5) (Go.RowKit.wrap64 (p6 + (1 : Int))) (p7) (p8) (p9) (p10) (p11) (p12) (p13)
            else
              none
          else
            none
        else
          none
      else
        none
    else
      tendrillaw06_EraApart_L22 k (p0) (p1) (p2) (p3) (Go.RowKit.wrap64 (p4 + (1 : Int))) (p7) (p8) (p10) (p11) (p13) (p12)
def tendrillaw06_EraApart_L34x1 : Nat → (Int) → (Int) → (Int) → (Int) → (Int) → (Int) → (Int) → (Int) → (List Int) → (Int) → (Int) → (Int) → (List Int) → (List Int) → Option (Bool)
  | 0, _, _, _, _, _, _, _, _, _, _, _, _, _, _ => none
  | k + 1, p0, p1, p2, p3, p4, p5, p6, p7, p8, p9, p10, p11, p12, p13 =>
    bif Decidable.decide (p6 < p5) then
      bif Decidable.decide ((0 : Int) ≤ p6) then
        bif Decidable.decide (p6 < (↑p12.length : Int)) then
          bif Decidable.decide ((0 : Int) ≤ p6) then
            bif Decidable.decide (p6 < (↑p8.length : Int)) then
              bif !(p12.getD p6.toNat (0 : Int) != p8.getD p6.toNat (0 : Int)) == (p6 == p0) then
                some (Bool.false)
              else
                tendrillaw06_EraApart_L34x1 k (p0) (p1) (p2) (p3) (p4) (p5) (Go.RowKit.wrap64 (p6 + (1 : Int))) (p7) (p8) (p9) (p10) (p11) (p12) (p13)
            else
              none
          else
            none
        else
          none
      else
        none
    else
      tendrillaw06_EraApart_L22 k (p0) (p1) (p2) (p3) (Go.RowKit.wrap64 (p4 + (1 : Int))) (p7) (p8) (p10) (p11) (p12) (p13)
end
def tendrillaw06_EraApart_P22v0 (k : Nat) (vs : List SV) (bs : List Blk) : Option (Option (Bool)) := match vs, bs with
  | [.val (.one (.int .i64 p0)), .val (.one (.ptr 0 0)), .val (.one (.int .i64 p1)), .val (.one (.int .i64 p2)), .val (.one (.bsl 1 0 2)), .val (.one (.int .i64 p3)), .val (.one (.int .i64 p4))], [.box [(.int .i64 p5), (.sl .int p6)], .box [(.int .i64 p7), (.row 2), (.int .i64 p8), (.row 3)], .row .int p9, .row .int p10] => some (tendrillaw06_EraApart_L22 k p0 p1 p2 p3 p4 p5 p6 p7 p8 p9 p10)
  | _, _ => none
def tendrillaw06_EraApart_P34v0 (k : Nat) (vs : List SV) (bs : List Blk) : Option (Option (Bool)) := match vs, bs with
  | [.val (.one (.int .i64 p0)), .val (.one (.ptr 0 0)), .val (.one (.int .i64 p1)), .val (.one (.int .i64 p2)), .val (.one (.ptr 1 0)), .val (.one (.bsl 2 0 2)), .val (.one (.int .i64 p3)), .val (.one (.int .i64 p4)), .val (.one (.int .i64 p5)), .val (.one (.int .i64 p6))], [.box [(.int .i64 p7), (.sl .int p8)], .box [(.int .i64 p9), (.row 3)], .box [(.int .i64 p10), (.row 4), (.int .i64 p11), (.row 3)], .row .int p12, .row .int p13] => some (tendrillaw06_EraApart_L34 k p0 p1 p2 p3 p4 p5 p6 p7 p8 p9 p10 p11 p12 p13)
  | _, _ => none
def tendrillaw06_EraApart_P34v1 (k : Nat) (vs : List SV) (bs : List Blk) : Option (Option (Bool)) := match vs, bs with
  | [.val (.one (.int .i64 p0)), .val (.one (.ptr 0 0)), .val (.one (.int .i64 p1)), .val (.one (.int .i64 p2)), .val (.one (.ptr 1 0)), .val (.one (.bsl 2 0 2)), .val (.one (.int .i64 p3)), .val (.one (.int .i64 p4)), .val (.one (.int .i64 p5)), .val (.one (.int .i64 p6))], [.box [(.int .i64 p7), (.sl .int p8)], .box [(.int .i64 p9), (.row 3)], .box [(.int .i64 p10), (.row 3), (.int .i64 p11), (.row 4)], .row .int p12, .row .int p13] => some (tendrillaw06_EraApart_L34x1 k p0 p1 p2 p3 p4 p5 p6 p7 p8 p9 p10 p11 p12 p13)
  | _, _ => none
def tendrillaw06_EraApart_P22 (k : Nat) (vs : List SV) (bs : List Blk) : Option (Bool) := match tendrillaw06_EraApart_P22v0 k vs bs with | some r => r | none => none
def tendrillaw06_EraApart_P34 (k : Nat) (vs : List SV) (bs : List Blk) : Option (Bool) := match tendrillaw06_EraApart_P34v0 k vs bs with | some r => r | none => match tendrillaw06_EraApart_P34v1 k vs bs with | some r => r | none => none
def tendrillaw06_EraApart_Λ (k L : Nat) (vs : List SV) (bs : List Blk) : Option (Bool) := match Nat.beq L 22 with | true => tendrillaw06_EraApart_P22 k vs bs | false => match Nat.beq L 34 with | true => tendrillaw06_EraApart_P34 k vs bs | false => none
def tendrillaw06_EraApart_K (K : Nat) (x : (Int × List Int) × Int) : Option (Bool) :=
  (tendrillaw06_live (())).bind fun r0 =>
  bif !r0 then
    some (Bool.false)
  else
    bif Decidable.decide ((200 : Int) < (↑(List.length x.fst.2) : Int)) then
      some (Bool.true)
    else
      (era_Check ((x.fst.1, x.fst.2))).bind fun r1 =>
      bif r1 != (0 : Int) then
        some (Bool.true)
      else
        (era_Pin (((x.fst.1, x.fst.2), x.2))).bind fun r2 =>
        (era_Unpin (((x.fst.1, x.fst.2), x.2))).bind fun r3 =>
        bif r2.2 == (0 : Int) then
          bif r3.2 == (0 : Int) then
            some (Bool.false)
          else
            tendrillaw06_EraApart_L22 K (x.2) (r2.2) (r3.2) ((↑(2 : Nat) : Int)) ((0 : Int)) (x.fst.1) (x.fst.2) (r2.fst.1) (r3.fst.1) (r2.fst.2) (r3.fst.2)
        else
          tendrillaw06_EraApart_L22 K (x.2) (r2.2) (r3.2) ((↑(2 : Nat) : Int)) ((0 : Int)) (x.fst.1) (x.fst.2) (r2.fst.1) (r3.fst.1) (r2.fst.2) (r3.fst.2)
def tendrillaw06_EraApart (x : (Int × (List Int)) × Int) : Option (Bool) := tendrillaw06_EraApart_K 2000000 x
def tendrillaw06_EraApart_S : Sig := ⟨[⟨true, (.pair .int (.sl .int))⟩, ⟨false, .int⟩], [⟨false, .bool⟩], false, tendrillaw06_EraApart⟩
noncomputable def tendrillaw06_EraApart_C : List (Cut (Tup [⟨false, .bool⟩])) := cuts Try.prog (lkΓ [(9, tendrillaw06_live_S), (10, era_Check_S), (19, era_Pin_S), (21, era_Unpin_S)]) Try.f7.ntmps [(34, [1, 2, 6, 8, 10, 43, 44, 45, 69, 70]), (22, [1, 2, 6, 8, 43, 44, 45])] (bodyOf Try.f7) (κ0 Try.prog Try.f7 false [⟨false, .bool⟩])
set_option maxRecDepth 100000 in
theorem tendrillaw06_EraApart_c22 (k : Nat) (p0 : Int) (p1 : Int) (p2 : Int) (p3 : Int) (p4 : Int) (p5 : Int) (p6 : List Int) (p7 : Int) (p8 : Int) (p9 : List Int) (p10 : List Int) : ((nthC tendrillaw06_EraApart_C 0).g (mkSt [1, 2, 6, 8, 43, 44, 45] [.val (.one (.int .i64 p0)), .val (.one (.ptr 0 0)), .val (.one (.int .i64 p1)), .val (.one (.int .i64 p2)), .val (.one (.bsl 1 0 2)), .val (.one (.int .i64 p3)), .val (.one (.int .i64 p4))] [.box [(.int .i64 p5), (.sl .int p6)], .box [(.int .i64 p7), (.row 2), (.int .i64 p8), (.row 3)], .row .int p9, .row .int p10])).run (tendrillaw06_EraApart_Λ k) = tendrillaw06_EraApart_L22 (k + 1) p0 p1 p2 p3 p4 p5 p6 p7 p8 p9 p10 := by kernel_rfl
theorem tendrillaw06_EraApart_e22 (k : Nat) (vs : List SV) (bs : List Blk) (r : Bool) (h : tendrillaw06_EraApart_P22v0 (k + 1) vs bs = some (some r)) : ((nthC tendrillaw06_EraApart_C 0).g (mkSt [1, 2, 6, 8, 43, 44, 45] vs bs)).run (tendrillaw06_EraApart_Λ k) = some r := by
  unfold tendrillaw06_EraApart_P22v0 at h
  split at h
  · exact (tendrillaw06_EraApart_c22 k _ _ _ _ _ _ _ _ _ _ _).trans (Option.some.inj h)
  · cases h
set_option maxRecDepth 100000 in
theorem tendrillaw06_EraApart_c34 (k : Nat) (p0 : Int) (p1 : Int) (p2 : Int) (p3 : Int) (p4 : Int) (p5 : Int) (p6 : Int) (p7 : Int) (p8 : List Int) (p9 : Int) (p10 : Int) (p11 : Int) (p12 : List Int) (p13 : List Int) : ((nthC tendrillaw06_EraApart_C 1).g (mkSt [1, 2, 6, 8, 10, 43, 44, 45, 69, 70] [.val (.one (.int .i64 p0)), .val (.one (.ptr 0 0)), .val (.one (.int .i64 p1)), .val (.one (.int .i64 p2)), .val (.one (.ptr 1 0)), .val (.one (.bsl 2 0 2)), .val (.one (.int .i64 p3)), .val (.one (.int .i64 p4)), .val (.one (.int .i64 p5)), .val (.one (.int .i64 p6))] [.box [(.int .i64 p7), (.sl .int p8)], .box [(.int .i64 p9), (.row 3)], .box [(.int .i64 p10), (.row 4), (.int .i64 p11), (.row 3)], .row .int p12, .row .int p13])).run (tendrillaw06_EraApart_Λ k) = tendrillaw06_EraApart_L34 (k + 1) p0 p1 p2 p3 p4 p5 p6 p7 p8 p9 p10 p11 p12 p13 := by kernel_rfl
theorem tendrillaw06_EraApart_e34 (k : Nat) (vs : List SV) (bs : List Blk) (r : Bool) (h : tendrillaw06_EraApart_P34v0 (k + 1) vs bs = some (some r)) : ((nthC tendrillaw06_EraApart_C 1).g (mkSt [1, 2, 6, 8, 10, 43, 44, 45, 69, 70] vs bs)).run (tendrillaw06_EraApart_Λ k) = some r := by
  unfold tendrillaw06_EraApart_P34v0 at h
  split at h
  · exact (tendrillaw06_EraApart_c34 k _ _ _ _ _ _ _ _ _ _ _ _ _ _).trans (Option.some.inj h)
  · cases h
set_option maxRecDepth 100000 in
theorem tendrillaw06_EraApart_c34x1 (k : Nat) (p0 : Int) (p1 : Int) (p2 : Int) (p3 : Int) (p4 : Int) (p5 : Int) (p6 : Int) (p7 : Int) (p8 : List Int) (p9 : Int) (p10 : Int) (p11 : Int) (p12 : List Int) (p13 : List Int) : ((nthC tendrillaw06_EraApart_C 1).g (mkSt [1, 2, 6, 8, 10, 43, 44, 45, 69, 70] [.val (.one (.int .i64 p0)), .val (.one (.ptr 0 0)), .val (.one (.int .i64 p1)), .val (.one (.int .i64 p2)), .val (.one (.ptr 1 0)), .val (.one (.bsl 2 0 2)), .val (.one (.int .i64 p3)), .val (.one (.int .i64 p4)), .val (.one (.int .i64 p5)), .val (.one (.int .i64 p6))] [.box [(.int .i64 p7), (.sl .int p8)], .box [(.int .i64 p9), (.row 3)], .box [(.int .i64 p10), (.row 3), (.int .i64 p11), (.row 4)], .row .int p12, .row .int p13])).run (tendrillaw06_EraApart_Λ k) = tendrillaw06_EraApart_L34x1 (k + 1) p0 p1 p2 p3 p4 p5 p6 p7 p8 p9 p10 p11 p12 p13 := by kernel_rfl
theorem tendrillaw06_EraApart_e34x1 (k : Nat) (vs : List SV) (bs : List Blk) (r : Bool) (h : tendrillaw06_EraApart_P34v1 (k + 1) vs bs = some (some r)) : ((nthC tendrillaw06_EraApart_C 1).g (mkSt [1, 2, 6, 8, 10, 43, 44, 45, 69, 70] vs bs)).run (tendrillaw06_EraApart_Λ k) = some r := by
  unfold tendrillaw06_EraApart_P34v1 at h
  split at h
  · exact (tendrillaw06_EraApart_c34x1 k _ _ _ _ _ _ _ _ _ _ _ _ _ _).trans (Option.some.inj h)
  · cases h
theorem tendrillaw06_EraApart_d22 : CutOk tendrillaw06_EraApart_Λ (nthC tendrillaw06_EraApart_C 0) := by
  refine cutOk_of (L := 22) (live := [1, 2, 6, 8, 43, 44, 45]) (by kernel_rfl) (by kernel_rfl) fun k vs bs r h => ?_
  change tendrillaw06_EraApart_P22 (k + 1) vs bs = some r at h
  unfold tendrillaw06_EraApart_P22 at h
  split at h
  · rename_i q hq
    exact tendrillaw06_EraApart_e22 k vs bs r (hq.trans (congrArg some h))
  cases h
theorem tendrillaw06_EraApart_d34 : CutOk tendrillaw06_EraApart_Λ (nthC tendrillaw06_EraApart_C 1) := by
  refine cutOk_of (L := 34) (live := [1, 2, 6, 8, 10, 43, 44, 45, 69, 70]) (by kernel_rfl) (by kernel_rfl) fun k vs bs r h => ?_
  change tendrillaw06_EraApart_P34 (k + 1) vs bs = some r at h
  unfold tendrillaw06_EraApart_P34 at h
  split at h
  · rename_i q hq
    exact tendrillaw06_EraApart_e34 k vs bs r (hq.trans (congrArg some h))
  split at h
  · rename_i q hq
    exact tendrillaw06_EraApart_e34x1 k vs bs r (hq.trans (congrArg some h))
  cases h
theorem tendrillaw06_EraApart_cuts : ∀ p ∈ cuts Try.prog (lkΓ [(9, tendrillaw06_live_S), (10, era_Check_S), (19, era_Pin_S), (21, era_Unpin_S)]) Try.f7.ntmps [(34, [1, 2, 6, 8, 10, 43, 44, 45, 69, 70]), (22, [1, 2, 6, 8, 43, 44, 45])] (bodyOf Try.f7) (κ0 Try.prog Try.f7 false [⟨false, .bool⟩]), CutOk tendrillaw06_EraApart_Λ p := cutsOk (l := tendrillaw06_EraApart_C) (n := 2) (by kernel_rfl) fun
  | 0, _ => tendrillaw06_EraApart_d22
  | 1, _ => tendrillaw06_EraApart_d34
  | k + 2, h => absurd h (by omega)
theorem tendrillaw06_EraApart_z22 (vs : List SV) (bs : List Blk) (q : Option (Bool)) (h : tendrillaw06_EraApart_P22v0 0 vs bs = some q) : q = none := by
  unfold tendrillaw06_EraApart_P22v0 at h; split at h
  · have h := Option.some.inj h; rw [← h]; first | rfl | (unfold tendrillaw06_EraApart_L22; rfl)
  · cases h
theorem tendrillaw06_EraApart_z34 (vs : List SV) (bs : List Blk) (q : Option (Bool)) (h : tendrillaw06_EraApart_P34v0 0 vs bs = some q) : q = none := by
  unfold tendrillaw06_EraApart_P34v0 at h; split at h
  · have h := Option.some.inj h; rw [← h]; first | rfl | (unfold tendrillaw06_EraApart_L34; rfl)
  · cases h
theorem tendrillaw06_EraApart_z34x1 (vs : List SV) (bs : List Blk) (q : Option (Bool)) (h : tendrillaw06_EraApart_P34v1 0 vs bs = some q) : q = none := by
  unfold tendrillaw06_EraApart_P34v1 at h; split at h
  · have h := Option.some.inj h; rw [← h]; first | rfl | (unfold tendrillaw06_EraApart_L34x1; rfl)
  · cases h
theorem tendrillaw06_EraApart_Λ0 (L : Nat) (vs : List SV) (bs : List Blk) : tendrillaw06_EraApart_Λ 0 L vs bs = none := by
  unfold tendrillaw06_EraApart_Λ
  split
  · unfold tendrillaw06_EraApart_P22
    split
    · rename_i q hq; exact tendrillaw06_EraApart_z22 _ _ q hq
    rfl
  split
  · unfold tendrillaw06_EraApart_P34
    split
    · rename_i q hq; exact tendrillaw06_EraApart_z34 _ _ q hq
    split
    · rename_i q hq; exact tendrillaw06_EraApart_z34x1 _ _ q hq
    rfl
  rfl
set_option maxRecDepth 100000 in
theorem tendrillaw06_EraApart_run (K : Nat) (x : Tup [⟨true, (.pair .int (.sl .int))⟩, ⟨false, .int⟩]) : (pxFn Try.prog (lkΓ [(9, tendrillaw06_live_S), (10, era_Check_S), (19, era_Pin_S), (21, era_Unpin_S)]) [(34, [1, 2, 6, 8, 10, 43, 44, 45, 69, 70]), (22, [1, 2, 6, 8, 43, 44, 45])] Try.f7 (bodyOf Try.f7) false [⟨false, .bool⟩] (encTup [⟨true, (.pair .int (.sl .int))⟩, ⟨false, .int⟩] x)).run (tendrillaw06_EraApart_Λ K) = tendrillaw06_EraApart_K K x := by kernel_rfl
theorem tendrillaw06_EraApart_ok : SigOk Try.prog 7 tendrillaw06_EraApart_S ∧ Bodied Try.prog 7 :=
  ⟨fn_sound (s := tendrillaw06_EraApart_S) (T := [(34, [1, 2, 6, 8, 10, 43, 44, 45, 69, 70]), (22, [1, 2, 6, 8, 43, 44, 45])]) (Λ := tendrillaw06_EraApart_Λ) 2000000 Try.func7 (c := bodyOf Try.f7) (by kernel_rfl) (by kernel_rfl) (lkΓ_cons (g := 9) (s0 := tendrillaw06_live_S) tendrillaw06_live_ok (lkΓ_cons (g := 10) (s0 := era_Check_S) era_Check_ok (lkΓ_cons (g := 19) (s0 := era_Pin_S) era_Pin_ok (lkΓ_cons (g := 21) (s0 := era_Unpin_S) era_Unpin_ok lkΓ_nil)))) (by decide +kernel) (by decide +kernel) tendrillaw06_EraApart_Λ0 tendrillaw06_EraApart_cuts (fun x => tendrillaw06_EraApart_run 2000000 x), bodied_of Try.func7 (by decide +kernel) (by decide +kernel)⟩

/-! tendril/tendrillaw06.EraSafe -/
mutual
def tendrillaw06_EraSafe_L22 : Nat → (Int) → (List Int) → (Int) → (Int) → (Int) → (List Int) → (List Int) → Option (Bool)
  | 0, _, _, _, _, _, _, _ => none
  | k + 1, p0, p1, p2, p3, p4, p5, p6 =>
    bif Decidable.decide (p3 < p2) then
      bif Decidable.decide ((0 : Int) ≤ p3) then
        bif Decidable.decide (p3 < (↑p5.length : Int)) then
          tendrillaw06_EraSafe_L22 k (p0) (p1) (p2) (Go.RowKit.wrap64 (p3 + (1 : Int))) (p4) (p5.set p3.toNat (-1 : Int)) (p6)
        else
          none
      else
        none
    else
      tendrillaw06_EraSafe_L32 k (p0) (p1) ((↑p1.length : Int)) ((0 : Int)) (p4) (p5) (p6)
def tendrillaw06_EraSafe_L32 : Nat → (Int) → (List Int) → (Int) → (Int) → (Int) → (List Int) → (List Int) → Option (Bool)
  | 0, _, _, _, _, _, _, _ => none
  | k + 1, p0, p1, p2, p3, p4, p5, p6 =>
    bif Decidable.decide (p3 < p2) then
      bif Decidable.decide ((0 : Int) ≤ p3) then
        bif Decidable.decide (p3 < (↑p1.length : Int)) then
          bif Decidable.decide (p1.getD p3.toNat (0 : Int) < (0 : Int)) then
            some (Bool.true)
          else
            bif Decidable.decide (p0 = (0 : Int)) then
              none
            else
              bif (p1.getD p3.toNat (0 : Int)).tmod (3 : Int) == (0 : Int) then
                (era_Pin (((p4, p6), (Go.RowKit.wrap64 ((p1.getD p3.toNat (0 : Int)).tdiv (3 : Int))).tmod p0))).bind fun r2 =>
                bif Decidable.decide ((0 : Int) ≤ (Go.RowKit.wrap64 ((p1.getD p3.toNat (0 : Int)).tdiv (3 : Int))).tmod p0) then
                  bif Decidable.decide ((Go.RowKit.wrap64 ((p1.getD p3.toNat (0 : Int)).tdiv (3 : Int))).tmod p0 < (↑p5.length : Int)) then
                    bif !(r2.2 == (0 : Int)) == (p5.getD ((Go.RowKit.wrap64 ((p1.getD p3.toNat (0 : Int)).tdiv (3 : Int))).tmod p0).toNat (0 : Int) == (-1 : Int)) then
                      some (Bool.false)
                    else
                      bif r2.2 == (0 : Int) then
                        bif Decidable.decide ((0 : Int) ≤ (Go.RowKit.wrap64 ((p1.getD p3.toNat (0 : Int)).tdiv (3 : Int))).tmod p0) then
                          bif Decidable.decide ((Go.RowKit.wrap64 ((p1.getD p3.toNat (0 : Int)).tdiv (3 : Int))).tmod p0 < (↑p5.length : Int)) then
                            (era_Check ((r2.fst.1, r2.fst.2))).bind fun r3 =>
                            bif r3 != (0 : Int) then
                              some (Bool.false)
                            else
                              tendrillaw06_EraSafe_L88 k (p0) (p1) (p2) (p3) ((↑(p5.set ((Go.RowKit.wrap64 ((p1.getD p3.toNat (0 : Int)).tdiv (3 : Int))).tmod p0).toNat p4).length : Int)) ((0 : Int)) (r2.fst.1) (p5.set ((Go.RowKit.wrap64 ((p1.getD p3.toNat (0 : Int)).tdiv (3 : Int))).tmod p0).toNat p4) (r2.fst.2)
                          else
                            none
                        else
                          none
                      else
                        (era_Check ((p4, p6))).bind fun r4 =>
                        bif r4 != (0 : Int) then
                          some (Bool.false)
                        else
                          tendrillaw06_EraSafe_L88 k (p0) (p1) (p2) (p3) ((↑p5.length : Int)) ((0 : Int)) (p4) (p5) (p6)
                  else
                    none
                else
                  none
              else
                bif (p1.getD p3.toNat (0 : Int)).tmod (3 : Int) == (1 : Int) then
                  (era_Unpin (((p4, p6), (Go.RowKit.wrap64 ((p1.getD p3.toNat (0 : Int)).tdiv (3 : Int))).tmod p0))).bind fun r5 =>
                  bif Decidable.decide ((0 : Int) ≤ (Go.RowKit.wrap64 ((p1.getD p3.toNat (0 : Int)).tdiv (3 : Int))).tmod p0) then
                    bif Decidable.decide ((Go.RowKit.wrap64 ((p1.getD p3.toNat (0 : Int)).tdiv (3 : Int))).tmod p0 < (↑p5.length : Int)) then
                      bif !(r5.2 == (0 : Int)) == (p5.getD ((Go.RowKit.wrap64 ((p1.getD p3.toNat (0 : Int)).tdiv (3 : Int))).tmod p0).toNat (0 : Int) != (-1 : Int)) then
                        some (Bool.false)
                      else
                        bif r5.2 == (0 : Int) then
                          bif Decidable.decide ((0 : Int) ≤ (Go.RowKit.wrap64 ((p1.getD p3.toNat (0 : Int)).tdiv (3 : Int))).tmod p0) then
                            bif Decidable.decide ((Go.RowKit.wrap64 ((p1.getD p3.toNat (0 : Int)).tdiv (3 : Int))).tmod p0 < (↑p5.length : Int)) then
                              (era_Check ((r5.fst.1, r5.fst.2))).bind fun r6 =>
                              bif r6 != (0 : Int) then
                                some (Bool.false)
                              else
                                tendrillaw06_EraSafe_L88 k (p0) (p1) (p2) (p3) ((↑(p5.set ((Go.RowKit.wrap64 ((p1.getD p3.toNat (0 : Int)).tdiv (3 : Int))).tmod p0).toNat (-1 : Int)).length : Int)) ((0 : Int)) (r5.fst.1) (p5.set ((Go.RowKit.wrap64 ((p1.getD p3.toNat (0 : Int)).tdiv (3 : Int))).tmod p0).toNat (-1 : Int)) (r5.fst.2)
                            else
                              none
                          else
                            none
                        else
                          (era_Check ((p4, p6))).bind fun r7 =>
                          bif r7 != (0 : Int) then
                            some (Bool.false)
                          else
                            tendrillaw06_EraSafe_L88 k (p0) (p1) (p2) (p3) ((↑p5.length : Int)) ((0 : Int)) (p4) (p5) (p6)
                    else
                      none
                  else
                    none
                else
                  (era_Turn ((p4, p6))).bind fun r8 =>
                  bif !r8.2 == (r8.fst.1 == Go.RowKit.wrap64 (p4 + (1 : Int))) then
                    some (Bool.false)
                  else
                    bif !r8.2 then
                      bif r8.fst.1 != p4 then
                        some (Bool.false)
                      else
                        (era_Check ((r8.fst.1, r8.fst.2))).bind fun r9 =>
                        bif r9 != (0 : Int) then
                          some (Bool.false)
                        else
                          tendrillaw06_EraSafe_L88 k (p0) (p1) (p2) (p3) ((↑p5.length : Int)) ((0 : Int)) (r8.fst.1) (p5) (r8.fst.2)
                    else
                      (era_Check ((r8.fst.1, r8.fst.2))).bind fun r10 =>
                      bif r10 != (0 : Int) then
                        some (Bool.false)
                      else
                        tendrillaw06_EraSafe_L88 k (p0) (p1) (p2) (p3) ((↑p5.length : Int)) ((0 : Int)) (r8.fst.1) (p5) (r8.fst.2)
        else
          none
      else
        none
    else
      some (Bool.true)
def tendrillaw06_EraSafe_L88 : Nat → (Int) → (List Int) → (Int) → (Int) → (Int) → (Int) → (Int) → (List Int) → (List Int) → Option (Bool)
  | 0, _, _, _, _, _, _, _, _, _ => none
  | k + 1, p0, p1, p2, p3, p4, p5, p6, p7, p8 =>
    bif Decidable.decide (p5 < p4) then
      bif Decidable.decide ((0 : Int) ≤ p5) then
        bif Decidable.decide (p5 < (↑p7.length : Int)) then
          bif p7.getD p5.toNat (0 : Int) != (-1 : Int) then
            (era_Safe ((p6, p8))).bind fun r11 =>
            bif Decidable.decide (p7.getD p5.toNat (0 : Int) ≤ r11) then
              some (Bool.false)
            else
              bif Decidable.decide (Go.RowKit.wrap64 (p7.getD p5.toNat (0 : Int) + (1 : Int)) < p6) then
                some (Bool.false)
              else
                tendrillaw06_EraSafe_L88 k (p0) (p1) (p2) (p3) (p4) (Go.RowKit.wrap64 (p5 + (1 : Int))) (p6) (p7) (p8)
          else
            tendrillaw06_EraSafe_L88 k (p0) (p1) (p2) (p3) (p4) (Go.RowKit.wrap64 (p5 + (1 : Int))) (p6) (p7) (p8)
        else
          none
      else
        none
    else
      tendrillaw06_EraSafe_L32 k (p0) (p1) (p2) (Go.RowKit.wrap64 (p3 + (1 : Int))) (p6) (p7) (p8)
end
def tendrillaw06_EraSafe_P22v0 (k : Nat) (vs : List SV) (bs : List Blk) : Option (Option (Bool)) := match vs, bs with
  | [.val (.one (.int .i64 p0)), .val (.one (.sl .int p1)), .val (.one (.ptr 0 0)), .val (.one (.row 1)), .val (.one (.int .i64 p2)), .val (.one (.int .i64 p3))], [.box [(.int .i64 p4), (.row 2)], .row .int p5, .row .int p6] => some (tendrillaw06_EraSafe_L22 k p0 p1 p2 p3 p4 p5 p6)
  | _, _ => none
def tendrillaw06_EraSafe_P32v0 (k : Nat) (vs : List SV) (bs : List Blk) : Option (Option (Bool)) := match vs, bs with
  | [.val (.one (.int .i64 p0)), .val (.one (.ptr 0 0)), .val (.one (.row 1)), .val (.one (.sl .int p1)), .val (.one (.int .i64 p2)), .val (.one (.int .i64 p3))], [.box [(.int .i64 p4), (.row 2)], .row .int p5, .row .int p6] => some (tendrillaw06_EraSafe_L32 k p0 p1 p2 p3 p4 p5 p6)
  | _, _ => none
def tendrillaw06_EraSafe_P88v0 (k : Nat) (vs : List SV) (bs : List Blk) : Option (Option (Bool)) := match vs, bs with
  | [.val (.one (.int .i64 p0)), .val (.one (.ptr 0 0)), .val (.one (.row 1)), .val (.one (.sl .int p1)), .val (.one (.int .i64 p2)), .val (.one (.int .i64 p3)), .val (.one (.row 1)), .val (.one (.int .i64 p4)), .val (.one (.int .i64 p5))], [.box [(.int .i64 p6), (.row 2)], .row .int p7, .row .int p8] => some (tendrillaw06_EraSafe_L88 k p0 p1 p2 p3 p4 p5 p6 p7 p8)
  | _, _ => none
def tendrillaw06_EraSafe_P22 (k : Nat) (vs : List SV) (bs : List Blk) : Option (Bool) := match tendrillaw06_EraSafe_P22v0 k vs bs with | some r => r | none => none
def tendrillaw06_EraSafe_P32 (k : Nat) (vs : List SV) (bs : List Blk) : Option (Bool) := match tendrillaw06_EraSafe_P32v0 k vs bs with | some r => r | none => none
def tendrillaw06_EraSafe_P88 (k : Nat) (vs : List SV) (bs : List Blk) : Option (Bool) := match tendrillaw06_EraSafe_P88v0 k vs bs with | some r => r | none => none
def tendrillaw06_EraSafe_Λ (k L : Nat) (vs : List SV) (bs : List Blk) : Option (Bool) := match Nat.beq L 22 with | true => tendrillaw06_EraSafe_P22 k vs bs | false => match Nat.beq L 32 with | true => tendrillaw06_EraSafe_P32 k vs bs | false => match Nat.beq L 88 with | true => tendrillaw06_EraSafe_P88 k vs bs | false => none
def tendrillaw06_EraSafe_K (K : Nat) (x : Int × List Int) : Option (Bool) :=
  (tendrillaw06_live (())).bind fun r0 =>
  bif !r0 then
    some (Bool.false)
  else
    bif Decidable.decide (x.1 < (1 : Int)) then
      some (Bool.true)
    else
      bif Decidable.decide ((8 : Int) < x.1) then
        some (Bool.true)
      else
        bif Decidable.decide ((100 : Int) < (↑(List.length x.2) : Int)) then
          some (Bool.true)
        else
          (era_New (x.1)).bind fun r1 =>
          bif r1.2 != (0 : Int) then
            some (Bool.false)
          else
            bif (↑(List.length r1.fst.2) : Int) != x.1 then
              some (Bool.false)
            else
              bif Decidable.decide ((0 : Int) ≤ x.1) then
                bif Decidable.decide (x.1 ≤ (1000000 : Int)) then
                  tendrillaw06_EraSafe_L22 K (x.1) (x.2) ((↑(List.replicate (Int.toNat x.1) (0 : Int)).length : Int)) ((0 : Int)) (r1.fst.1) (List.replicate (Int.toNat x.1) (0 : Int)) (r1.fst.2)
                else
                  none
              else
                none
def tendrillaw06_EraSafe (x : Int × (List Int)) : Option (Bool) := tendrillaw06_EraSafe_K 2000000 x
def tendrillaw06_EraSafe_S : Sig := ⟨[⟨false, .int⟩, ⟨false, (.sl .int)⟩], [⟨false, .bool⟩], false, tendrillaw06_EraSafe⟩
noncomputable def tendrillaw06_EraSafe_C : List (Cut (Tup [⟨false, .bool⟩])) := cuts Try.prog (lkΓ [(9, tendrillaw06_live_S), (10, era_Check_S), (11, era_Turn_S), (13, era_New_S), (16, era_Safe_S), (19, era_Pin_S), (21, era_Unpin_S)]) Try.f8.ntmps [(88, [0, 5, 7, 59, 60, 61, 147, 148, 149]), (32, [0, 5, 7, 59, 60, 61]), (22, [0, 1, 5, 7, 51, 52])] (bodyOf Try.f8) (κ0 Try.prog Try.f8 false [⟨false, .bool⟩])
set_option maxRecDepth 100000 in
theorem tendrillaw06_EraSafe_c22 (k : Nat) (p0 : Int) (p1 : List Int) (p2 : Int) (p3 : Int) (p4 : Int) (p5 : List Int) (p6 : List Int) : ((nthC tendrillaw06_EraSafe_C 0).g (mkSt [0, 1, 5, 7, 51, 52] [.val (.one (.int .i64 p0)), .val (.one (.sl .int p1)), .val (.one (.ptr 0 0)), .val (.one (.row 1)), .val (.one (.int .i64 p2)), .val (.one (.int .i64 p3))] [.box [(.int .i64 p4), (.row 2)], .row .int p5, .row .int p6])).run (tendrillaw06_EraSafe_Λ k) = tendrillaw06_EraSafe_L22 (k + 1) p0 p1 p2 p3 p4 p5 p6 := by kernel_rfl
theorem tendrillaw06_EraSafe_e22 (k : Nat) (vs : List SV) (bs : List Blk) (r : Bool) (h : tendrillaw06_EraSafe_P22v0 (k + 1) vs bs = some (some r)) : ((nthC tendrillaw06_EraSafe_C 0).g (mkSt [0, 1, 5, 7, 51, 52] vs bs)).run (tendrillaw06_EraSafe_Λ k) = some r := by
  unfold tendrillaw06_EraSafe_P22v0 at h
  split at h
  · exact (tendrillaw06_EraSafe_c22 k _ _ _ _ _ _ _).trans (Option.some.inj h)
  · cases h
set_option maxRecDepth 100000 in
theorem tendrillaw06_EraSafe_c32 (k : Nat) (p0 : Int) (p1 : List Int) (p2 : Int) (p3 : Int) (p4 : Int) (p5 : List Int) (p6 : List Int) : ((nthC tendrillaw06_EraSafe_C 1).g (mkSt [0, 5, 7, 59, 60, 61] [.val (.one (.int .i64 p0)), .val (.one (.ptr 0 0)), .val (.one (.row 1)), .val (.one (.sl .int p1)), .val (.one (.int .i64 p2)), .val (.one (.int .i64 p3))] [.box [(.int .i64 p4), (.row 2)], .row .int p5, .row .int p6])).run (tendrillaw06_EraSafe_Λ k) = tendrillaw06_EraSafe_L32 (k + 1) p0 p1 p2 p3 p4 p5 p6 := by kernel_rfl
theorem tendrillaw06_EraSafe_e32 (k : Nat) (vs : List SV) (bs : List Blk) (r : Bool) (h : tendrillaw06_EraSafe_P32v0 (k + 1) vs bs = some (some r)) : ((nthC tendrillaw06_EraSafe_C 1).g (mkSt [0, 5, 7, 59, 60, 61] vs bs)).run (tendrillaw06_EraSafe_Λ k) = some r := by
  unfold tendrillaw06_EraSafe_P32v0 at h
  split at h
  · exact (tendrillaw06_EraSafe_c32 k _ _ _ _ _ _ _).trans (Option.some.inj h)
  · cases h
set_option maxRecDepth 100000 in
theorem tendrillaw06_EraSafe_c88 (k : Nat) (p0 : Int) (p1 : List Int) (p2 : Int) (p3 : Int) (p4 : Int) (p5 : Int) (p6 : Int) (p7 : List Int) (p8 : List Int) : ((nthC tendrillaw06_EraSafe_C 2).g (mkSt [0, 5, 7, 59, 60, 61, 147, 148, 149] [.val (.one (.int .i64 p0)), .val (.one (.ptr 0 0)), .val (.one (.row 1)), .val (.one (.sl .int p1)), .val (.one (.int .i64 p2)), .val (.one (.int .i64 p3)), .val (.one (.row 1)), .val (.one (.int .i64 p4)), .val (.one (.int .i64 p5))] [.box [(.int .i64 p6), (.row 2)], .row .int p7, .row .int p8])).run (tendrillaw06_EraSafe_Λ k) = tendrillaw06_EraSafe_L88 (k + 1) p0 p1 p2 p3 p4 p5 p6 p7 p8 := by kernel_rfl
theorem tendrillaw06_EraSafe_e88 (k : Nat) (vs : List SV) (bs : List Blk) (r : Bool) (h : tendrillaw06_EraSafe_P88v0 (k + 1) vs bs = some (some r)) : ((nthC tendrillaw06_EraSafe_C 2).g (mkSt [0, 5, 7, 59, 60, 61, 147, 148, 149] vs bs)).run (tendrillaw06_EraSafe_Λ k) = some r := by
  unfold tendrillaw06_EraSafe_P88v0 at h
  split at h
  · exact (tendrillaw06_EraSafe_c88 k _ _ _ _ _ _ _ _ _).trans (Option.some.inj h)
  · cases h
theorem tendrillaw06_EraSafe_d22 : CutOk tendrillaw06_EraSafe_Λ (nthC tendrillaw06_EraSafe_C 0) := by
  refine cutOk_of (L := 22) (live := [0, 1, 5, 7, 51, 52]) (by kernel_rfl) (by kernel_rfl) fun k vs bs r h => ?_
  change tendrillaw06_EraSafe_P22 (k + 1) vs bs = some r at h
  unfold tendrillaw06_EraSafe_P22 at h
  split at h
  · rename_i q hq
    exact tendrillaw06_EraSafe_e22 k vs bs r (hq.trans (congrArg some h))
  cases h
theorem tendrillaw06_EraSafe_d32 : CutOk tendrillaw06_EraSafe_Λ (nthC tendrillaw06_EraSafe_C 1) := by
  refine cutOk_of (L := 32) (live := [0, 5, 7, 59, 60, 61]) (by kernel_rfl) (by kernel_rfl) fun k vs bs r h => ?_
  change tendrillaw06_EraSafe_P32 (k + 1) vs bs = some r at h
  unfold tendrillaw06_EraSafe_P32 at h
  split at h
  · rename_i q hq
    exact tendrillaw06_EraSafe_e32 k vs bs r (hq.trans (congrArg some h))
  cases h
theorem tendrillaw06_EraSafe_d88 : CutOk tendrillaw06_EraSafe_Λ (nthC tendrillaw06_EraSafe_C 2) := by
  refine cutOk_of (L := 88) (live := [0, 5, 7, 59, 60, 61, 147, 148, 149]) (by kernel_rfl) (by kernel_rfl) fun k vs bs r h => ?_
  change tendrillaw06_EraSafe_P88 (k + 1) vs bs = some r at h
  unfold tendrillaw06_EraSafe_P88 at h
  split at h
  · rename_i q hq
    exact tendrillaw06_EraSafe_e88 k vs bs r (hq.trans (congrArg some h))
  cases h
theorem tendrillaw06_EraSafe_cuts : ∀ p ∈ cuts Try.prog (lkΓ [(9, tendrillaw06_live_S), (10, era_Check_S), (11, era_Turn_S), (13, era_New_S), (16, era_Safe_S), (19, era_Pin_S), (21, era_Unpin_S)]) Try.f8.ntmps [(88, [0, 5, 7, 59, 60, 61, 147, 148, 149]), (32, [0, 5, 7, 59, 60, 61]), (22, [0, 1, 5, 7, 51, 52])] (bodyOf Try.f8) (κ0 Try.prog Try.f8 false [⟨false, .bool⟩]), CutOk tendrillaw06_EraSafe_Λ p := cutsOk (l := tendrillaw06_EraSafe_C) (n := 3) (by kernel_rfl) fun
  | 0, _ => tendrillaw06_EraSafe_d22
  | 1, _ => tendrillaw06_EraSafe_d32
  | 2, _ => tendrillaw06_EraSafe_d88
  | k + 3, h => absurd h (by omega)
theorem tendrillaw06_EraSafe_z22 (vs : List SV) (bs : List Blk) (q : Option (Bool)) (h : tendrillaw06_EraSafe_P22v0 0 vs bs = some q) : q = none := by
  unfold tendrillaw06_EraSafe_P22v0 at h; split at h
  · have h := Option.some.inj h; rw [← h]; first | rfl | (unfold tendrillaw06_EraSafe_L22; rfl)
  · cases h
theorem tendrillaw06_EraSafe_z32 (vs : List SV) (bs : List Blk) (q : Option (Bool)) (h : tendrillaw06_EraSafe_P32v0 0 vs bs = some q) : q = none := by
  unfold tendrillaw06_EraSafe_P32v0 at h; split at h
  · have h := Option.some.inj h; rw [← h]; first | rfl | (unfold tendrillaw06_EraSafe_L32; rfl)
  · cases h
theorem tendrillaw06_EraSafe_z88 (vs : List SV) (bs : List Blk) (q : Option (Bool)) (h : tendrillaw06_EraSafe_P88v0 0 vs bs = some q) : q = none := by
  unfold tendrillaw06_EraSafe_P88v0 at h; split at h
  · have h := Option.some.inj h; rw [← h]; first | rfl | (unfold tendrillaw06_EraSafe_L88; rfl)
  · cases h
theorem tendrillaw06_EraSafe_Λ0 (L : Nat) (vs : List SV) (bs : List Blk) : tendrillaw06_EraSafe_Λ 0 L vs bs = none := by
  unfold tendrillaw06_EraSafe_Λ
  split
  · unfold tendrillaw06_EraSafe_P22
    split
    · rename_i q hq; exact tendrillaw06_EraSafe_z22 _ _ q hq
    rfl
  split
  · unfold tendrillaw06_EraSafe_P32
    split
    · rename_i q hq; exact tendrillaw06_EraSafe_z32 _ _ q hq
    rfl
  split
  · unfold tendrillaw06_EraSafe_P88
    split
    · rename_i q hq; exact tendrillaw06_EraSafe_z88 _ _ q hq
    rfl
  rfl
set_option maxRecDepth 100000 in
theorem tendrillaw06_EraSafe_run (K : Nat) (x : Tup [⟨false, .int⟩, ⟨false, (.sl .int)⟩]) : (pxFn Try.prog (lkΓ [(9, tendrillaw06_live_S), (10, era_Check_S), (11, era_Turn_S), (13, era_New_S), (16, era_Safe_S), (19, era_Pin_S), (21, era_Unpin_S)]) [(88, [0, 5, 7, 59, 60, 61, 147, 148, 149]), (32, [0, 5, 7, 59, 60, 61]), (22, [0, 1, 5, 7, 51, 52])] Try.f8 (bodyOf Try.f8) false [⟨false, .bool⟩] (encTup [⟨false, .int⟩, ⟨false, (.sl .int)⟩] x)).run (tendrillaw06_EraSafe_Λ K) = tendrillaw06_EraSafe_K K x := by kernel_rfl
theorem tendrillaw06_EraSafe_ok : SigOk Try.prog 8 tendrillaw06_EraSafe_S ∧ Bodied Try.prog 8 :=
  ⟨fn_sound (s := tendrillaw06_EraSafe_S) (T := [(88, [0, 5, 7, 59, 60, 61, 147, 148, 149]), (32, [0, 5, 7, 59, 60, 61]), (22, [0, 1, 5, 7, 51, 52])]) (Λ := tendrillaw06_EraSafe_Λ) 2000000 Try.func8 (c := bodyOf Try.f8) (by kernel_rfl) (by kernel_rfl) (lkΓ_cons (g := 9) (s0 := tendrillaw06_live_S) tendrillaw06_live_ok (lkΓ_cons (g := 10) (s0 := era_Check_S) era_Check_ok (lkΓ_cons (g := 11) (s0 := era_Turn_S) era_Turn_ok (lkΓ_cons (g := 13) (s0 := era_New_S) era_New_ok (lkΓ_cons (g := 16) (s0 := era_Safe_S) era_Safe_ok (lkΓ_cons (g := 19) (s0 := era_Pin_S) era_Pin_ok (lkΓ_cons (g := 21) (s0 := era_Unpin_S) era_Unpin_ok lkΓ_nil))))))) (by decide +kernel) (by decide +kernel) tendrillaw06_EraSafe_Λ0 tendrillaw06_EraSafe_cuts (fun x => tendrillaw06_EraSafe_run 2000000 x), bodied_of Try.func8 (by decide +kernel) (by decide +kernel)⟩

end Go.Proofs.YtcoiboghdmmdcabFn
