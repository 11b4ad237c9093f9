/- What the functions that this seat's laws reach compute, as plain functions, each with its contract; no condition. -/
import Derived.Test.YtfnkomlakgiicacProg
import Derived.KernelRfl
import Derived.Test.YtfnkomlakgiicacPx25
set_option linter.unusedVariables false
set_option linter.unusedSimpArgs false
namespace Go.Proofs.YtfnkomlakgiicacFn
open Go Go.RowKit Go.Proofs.YtfnkomlakgiicacPx
/-! slices.Clone of numbers: by hand over the evaluator: nil, or not. -/
def slices_Clone (x : List Int) : Option (List Int) := bif decide (0 + x.length ≤ 1000000) then some x else none
def slices_Clone_S : Sig := ⟨[⟨false, (.sl .int)⟩], [⟨false, (.sl .int)⟩], true, slices_Clone⟩
theorem slices_Clone_cuts : ∀ p ∈ cuts Try.prog (lkΓ []) Try.f21.ntmps [] (bodyOf Try.f21) (κ0 Try.prog Try.f21 true [⟨false, (.sl .int)⟩]), CutOk (fun _ _ _ _ => none) p := cutsNil (by kernel_rfl)
theorem slices_Clone_run0 (xs : List Int) : (pxFn Try.prog (lkΓ []) [] Try.f21 (bodyOf Try.f21) true [⟨false, (.sl .int)⟩] [.one (.sln false .int xs)]).run (fun _ _ _ => none) = some [] := by kernel_rfl
theorem slices_Clone_run1 (xs : List Int) : (pxFn Try.prog (lkΓ []) [] Try.f21 (bodyOf Try.f21) true [⟨false, (.sl .int)⟩] [.one (.sln true .int xs)]).run (fun _ _ _ => none) = slices_Clone xs := by kernel_rfl
theorem slices_Clone_go {S : Nat → Prop} {w : World} {v : Value} {nn : Bool} {xs r : List Int} (hd : (V1.one (.sln nn .int xs)).Den S w noρ v) (hS : ∀ b, w.heap.size ≤ b → S b)
    (hrun : (pxFn Try.prog (lkΓ []) [] Try.f21 (bodyOf Try.f21) true [⟨false, (.sl .int)⟩] [.one (.sln nn .int xs)]).run (fun _ _ _ => none) = some r) :
    Calls Try.prog 21 [v].toArray w fun e w' => ∃ v, e = .returned v ∧ Below w.heap.size w w' ∧ ∀ base, ResOk S w.heap.size w' (slices_Clone_S.out base r) v :=
  fn_calls (s := slices_Clone_S) (T := []) (Λ := fun _ _ _ _ => none) 0 Try.func21 (c := bodyOf Try.f21) (by kernel_rfl) (by kernel_rfl) lkΓ_nil (by decide +kernel) (fun _ _ _ => rfl) slices_Clone_cuts (av := [.one (.sln nn .int xs)]) (vs := [v]) (show (1 : Nat) ≤ _ by decide +kernel) hrun hS ⟨hd, trivial⟩
theorem slices_Clone_ok : SigOk Try.prog 21 slices_Clone_S ∧ Bodied Try.prog 21 := by
  refine ⟨fun S w x r vs hfn hS hvs => ?_, bodied_of Try.func21 (by decide +kernel) (by decide +kernel)⟩
  match vs, hvs with
  | [v], ⟨hd, _⟩ =>
    have hd : RI S w .int v x := hd
    obtain ⟨p, c, rfl, hc, hr⟩ := RI.shape hd
    cases hp : p.isSome with
    | true => exact slices_Clone_go (nn := true) ⟨hd, p, _, c, rfl, hp⟩ hS ((slices_Clone_run1 x).trans hfn)
    | false =>
      have hx : x = [] := by
        rcases Nat.eq_zero_or_pos (List.length x) with h | h
        · exact List.eq_nil_of_length_eq_zero h
        · obtain ⟨b, o, rfl, _⟩ := hr h
          cases hp
      refine slices_Clone_go (nn := false) (xs := x) ⟨hd, p, _, c, rfl, hp⟩ hS ((slices_Clone_run0 x).trans ?_)
      subst hx
      exact hfn
  | [], hvs => exact hvs.elim
  | _ :: _ :: _, hvs => exact hvs.2.elim

/-! tendril/mem.in -/
def mem_in (x : List Int × Int) : Option (Bool) :=
  bif Decidable.decide (0 ≤ x.2) then
    some (Decidable.decide (x.2 < (↑(List.length x.1) : Int)))
  else
    some (Bool.false)
def mem_in_S : Sig := ⟨[⟨false, (.sl .int)⟩, ⟨false, .int⟩], [⟨false, .bool⟩], false, mem_in⟩
set_option maxRecDepth 100000 in
theorem mem_in_run (x : Tup [⟨false, (.sl .int)⟩, ⟨false, .int⟩]) : (pxFn Try.prog (lkΓ []) [] Try.f20 (bodyOf Try.f20) false [⟨false, .bool⟩] (encTup [⟨false, (.sl .int)⟩, ⟨false, .int⟩] x)).run (fun _ _ _ => none) = mem_in x := by kernel_rfl
theorem mem_in_cuts : ∀ p ∈ cuts Try.prog (lkΓ []) Try.f20.ntmps [] (bodyOf Try.f20) (κ0 Try.prog Try.f20 false [⟨false, .bool⟩]), CutOk (fun _ _ _ _ => none) p := cutsNil (by kernel_rfl)
theorem mem_in_ok : SigOk Try.prog 20 mem_in_S ∧ Bodied Try.prog 20 :=
  ⟨fn_sound (s := mem_in_S) (T := []) (Λ := fun _ _ _ _ => none) 0 Try.func20 (c := bodyOf Try.f20) (by kernel_rfl) (by kernel_rfl) lkΓ_nil (by decide +kernel) (by decide +kernel) (fun _ _ _ => rfl) mem_in_cuts (fun x => mem_in_run  x), bodied_of Try.func20 (by decide +kernel) (by decide +kernel)⟩

/-! tendril/mem.Store -/
def mem_Store (x : List Int × Int × Int) : Option (List Int × Int) :=
  (mem_in ((x.1, x.snd.1))).bind fun r0 =>
  bif !r0 then
    some (([], 1))
  else
    (slices_Clone (x.1)).bind fun r1 =>
    bif Decidable.decide (0 ≤ x.snd.1) then
      bif Decidable.decide (x.snd.1 < (↑(List.length r1) : Int)) then
        some ((List.set r1 (Int.toNat x.snd.1) x.snd.2, 0))
      else
        none
    else
      none
def mem_Store_S : Sig := ⟨[⟨false, (.sl .int)⟩, ⟨false, .int⟩, ⟨false, .int⟩], [⟨false, (.sl .int)⟩, ⟨false, .int⟩], true, mem_Store⟩
set_option maxRecDepth 100000 in
theorem mem_Store_run (x : Tup [⟨false, (.sl .int)⟩, ⟨false, .int⟩, ⟨false, .int⟩]) : (pxFn Try.prog (lkΓ [(20, mem_in_S), (21, slices_Clone_S)]) [] Try.f14 (bodyOf Try.f14) true [⟨false, (.sl .int)⟩, ⟨false, .int⟩] (encTup [⟨false, (.sl .int)⟩, ⟨false, .int⟩, ⟨false, .int⟩] x)).run (fun _ _ _ => none) = mem_Store x := by kernel_rfl
theorem mem_Store_cuts : ∀ p ∈ cuts Try.prog (lkΓ [(20, mem_in_S), (21, slices_Clone_S)]) Try.f14.ntmps [] (bodyOf Try.f14) (κ0 Try.prog Try.f14 true [⟨false, (.sl .int)⟩, ⟨false, .int⟩]), CutOk (fun _ _ _ _ => none) p := cutsNil (by kernel_rfl)
theorem mem_Store_ok : SigOk Try.prog 14 mem_Store_S ∧ Bodied Try.prog 14 :=
  ⟨fn_sound (s := mem_Store_S) (T := []) (Λ := fun _ _ _ _ => none) 0 Try.func14 (c := bodyOf Try.f14) (by kernel_rfl) (by kernel_rfl) (lkΓ_cons mem_in_ok (lkΓ_cons slices_Clone_ok lkΓ_nil)) (by decide +kernel) (by decide +kernel) (fun _ _ _ => rfl) mem_Store_cuts (fun x => mem_Store_run  x), bodied_of Try.func14 (by decide +kernel) (by decide +kernel)⟩

/-! tendril/mem.Cas -/
def mem_Cas (x : List Int × Int × Int × Int) : Option (List Int × Bool × Int) :=
  (mem_in ((x.1, x.snd.1))).bind fun r0 =>
  bif !r0 then
    some (([], Bool.false, 1))
  else
    bif Decidable.decide (0 ≤ x.snd.1) then
      bif Decidable.decide (x.snd.1 < (↑(List.length x.1) : Int)) then
        bif List.getD x.1 (Int.toNat x.snd.1) 0 != x.snd.snd.1 then
          (slices_Clone (x.1)).bind fun r1 =>
          some ((r1, Bool.false, 0))
        else
          (mem_Store ((x.1, x.snd.1, x.snd.snd.2))).bind fun r2 =>
          some ((r2.1, Bool.true, r2.2))
      else
        none
    else
      none
def mem_Cas_S : Sig := ⟨[⟨false, (.sl .int)⟩, ⟨false, .int⟩, ⟨false, .int⟩, ⟨false, .int⟩], [⟨false, (.sl .int)⟩, ⟨false, .bool⟩, ⟨false, .int⟩], true, mem_Cas⟩
set_option maxRecDepth 100000 in
theorem mem_Cas_run (x : Tup [⟨false, (.sl .int)⟩, ⟨false, .int⟩, ⟨false, .int⟩, ⟨false, .int⟩]) : (pxFn Try.prog (lkΓ [(14, mem_Store_S), (20, mem_in_S), (21, slices_Clone_S)]) [] Try.f11 (bodyOf Try.f11) true [⟨false, (.sl .int)⟩, ⟨false, .bool⟩, ⟨false, .int⟩] (encTup [⟨false, (.sl .int)⟩, ⟨false, .int⟩, ⟨false, .int⟩, ⟨false, .int⟩] x)).run (fun _ _ _ => none) = mem_Cas x := by kernel_rfl
theorem mem_Cas_cuts : ∀ p ∈ cuts Try.prog (lkΓ [(14, mem_Store_S), (20, mem_in_S), (21, slices_Clone_S)]) Try.f11.ntmps [] (bodyOf Try.f11) (κ0 Try.prog Try.f11 true [⟨false, (.sl .int)⟩, ⟨false, .bool⟩, ⟨false, .int⟩]), CutOk (fun _ _ _ _ => none) p := cutsNil (by kernel_rfl)
theorem mem_Cas_ok : SigOk Try.prog 11 mem_Cas_S ∧ Bodied Try.prog 11 :=
  ⟨fn_sound (s := mem_Cas_S) (T := []) (Λ := fun _ _ _ _ => none) 0 Try.func11 (c := bodyOf Try.f11) (by kernel_rfl) (by kernel_rfl) (lkΓ_cons mem_Store_ok (lkΓ_cons mem_in_ok (lkΓ_cons slices_Clone_ok lkΓ_nil))) (by decide +kernel) (by decide +kernel) (fun _ _ _ => rfl) mem_Cas_cuts (fun x => mem_Cas_run  x), bodied_of Try.func11 (by decide +kernel) (by decide +kernel)⟩

/-! tendril/tendrilref02.Same -/
def tendrilref02_Same_L10 : Nat → (List Int) → (List Int) → (Int) → (Int) → Option (Bool)
  | 0, _, _, _, _ => none
  | k + 1, p0, p1, p2, p3 =>
    bif Decidable.decide (p3 < p2) then
      bif Decidable.decide (0 ≤ p3) then
        bif Decidable.decide (p3 < (↑p0.length : Int)) then
          bif Decidable.decide (0 ≤ p3) then
            bif Decidable.decide (p3 < (↑p1.length : Int)) then
              bif p0.getD p3.toNat 0 != p1.getD p3.toNat 0 then
                some (Bool.false)
              else
                tendrilref02_Same_L10 k (p0) (p1) (p2) (Go.RowKit.wrap64 (p3 + 1))
            else
              none
          else
            none
        else
          none
      else
        none
    else
      some (Bool.true)
def tendrilref02_Same_P10 (k : Nat) (vs : List SV) (bs : List Blk) : Option (Bool) := match vs, bs with
  | [.val (.one (.sl .int p0)), .val (.one (.sl .int p1)), .val (.one (.int .i64 p2)), .val (.one (.int .i64 p3))], [] => tendrilref02_Same_L10 k p0 p1 p2 p3
  | _, _ => none
def tendrilref02_Same_Λ (k L : Nat) (vs : List SV) (bs : List Blk) : Option (Bool) := match Nat.beq L 10 with | true => tendrilref02_Same_P10 k vs bs | false => none
def tendrilref02_Same_K (K : Nat) (x : List Int × List Int) : Option (Bool) :=
  bif (↑(List.length x.1) : Int) != (↑(List.length x.2) : Int) then
    some (Bool.false)
  else
    tendrilref02_Same_L10 K (x.1) (x.2) ((↑(List.length x.1) : Int)) (0)
def tendrilref02_Same (x : (List Int) × (List Int)) : Option (Bool) := tendrilref02_Same_K 2000000 x
def tendrilref02_Same_S : Sig := ⟨[⟨false, (.sl .int)⟩, ⟨false, (.sl .int)⟩], [⟨false, .bool⟩], false, tendrilref02_Same⟩
noncomputable def tendrilref02_Same_C : List (Cut (Tup [⟨false, .bool⟩])) := cuts Try.prog (lkΓ []) Try.f13.ntmps [(10, [0, 1, 12, 13])] (bodyOf Try.f13) (κ0 Try.prog Try.f13 false [⟨false, .bool⟩])
set_option maxRecDepth 100000 in
theorem tendrilref02_Same_c10 (k : Nat) (p0 : List Int) (p1 : List Int) (p2 : Int) (p3 : Int) : ((nthC tendrilref02_Same_C 0).g (mkSt [0, 1, 12, 13] [.val (.one (.sl .int p0)), .val (.one (.sl .int p1)), .val (.one (.int .i64 p2)), .val (.one (.int .i64 p3))] [])).run (tendrilref02_Same_Λ k) = tendrilref02_Same_L10 (k + 1) p0 p1 p2 p3 := by kernel_rfl
theorem tendrilref02_Same_d10 : CutOk tendrilref02_Same_Λ (nthC tendrilref02_Same_C 0) := by
  refine cutOk_of (L := 10) (live := [0, 1, 12, 13]) (by kernel_rfl) (by kernel_rfl) fun k vs bs r h => ?_
  change tendrilref02_Same_P10 (k + 1) vs bs = some r at h
  unfold tendrilref02_Same_P10 at h
  split at h
  · exact (tendrilref02_Same_c10 k _ _ _ _).trans h
  · cases h
theorem tendrilref02_Same_cuts : ∀ p ∈ cuts Try.prog (lkΓ []) Try.f13.ntmps [(10, [0, 1, 12, 13])] (bodyOf Try.f13) (κ0 Try.prog Try.f13 false [⟨false, .bool⟩]), CutOk tendrilref02_Same_Λ p := cutsOk (l := tendrilref02_Same_C) (n := 1) (by kernel_rfl) fun
  | 0, _ => tendrilref02_Same_d10
  | k + 1, h => absurd h (by omega)
theorem tendrilref02_Same_Λ0 (L : Nat) (vs : List SV) (bs : List Blk) : tendrilref02_Same_Λ 0 L vs bs = none := by
  unfold tendrilref02_Same_Λ
  split
  · unfold tendrilref02_Same_P10; split
    · first | rfl | (unfold tendrilref02_Same_L10; rfl)
    · rfl
  rfl
set_option maxRecDepth 100000 in
theorem tendrilref02_Same_run (K : Nat) (x : Tup [⟨false, (.sl .int)⟩, ⟨false, (.sl .int)⟩]) : (pxFn Try.prog (lkΓ []) [(10, [0, 1, 12, 13])] Try.f13 (bodyOf Try.f13) false [⟨false, .bool⟩] (encTup [⟨false, (.sl .int)⟩, ⟨false, (.sl .int)⟩] x)).run (tendrilref02_Same_Λ K) = tendrilref02_Same_K K x := by kernel_rfl
theorem tendrilref02_Same_ok : SigOk Try.prog 13 tendrilref02_Same_S ∧ Bodied Try.prog 13 :=
  ⟨fn_sound (s := tendrilref02_Same_S) (T := [(10, [0, 1, 12, 13])]) (Λ := tendrilref02_Same_Λ) 2000000 Try.func13 (c := bodyOf Try.f13) (by kernel_rfl) (by kernel_rfl) lkΓ_nil (by decide +kernel) (by decide +kernel) tendrilref02_Same_Λ0 tendrilref02_Same_cuts (fun x => tendrilref02_Same_run 2000000 x), bodied_of Try.func13 (by decide +kernel) (by decide +kernel)⟩

/-! tendril/tendrillaw02.live -/
def tendrillaw02_live (x : Unit) : Option (Bool) :=
  (mem_Cas (([1, 2], 1, 2, 5))).bind fun r0 =>
  bif r0.snd.2 == 0 then
    bif r0.snd.1 then
      (tendrilref02_Same ((r0.1, [1, 5]))).bind fun r1 =>
      some (r1)
    else
      some (Bool.false)
  else
    some (Bool.false)
def tendrillaw02_live_S : Sig := ⟨[], [⟨false, .bool⟩], false, tendrillaw02_live⟩
set_option maxRecDepth 100000 in
theorem tendrillaw02_live_run (x : Tup []) : (pxFn Try.prog (lkΓ [(11, mem_Cas_S), (13, tendrilref02_Same_S)]) [] Try.f9 (bodyOf Try.f9) false [⟨false, .bool⟩] (encTup [] x)).run (fun _ _ _ => none) = tendrillaw02_live x := by kernel_rfl
theorem tendrillaw02_live_cuts : ∀ p ∈ cuts Try.prog (lkΓ [(11, mem_Cas_S), (13, tendrilref02_Same_S)]) Try.f9.ntmps [] (bodyOf Try.f9) (κ0 Try.prog Try.f9 false [⟨false, .bool⟩]), CutOk (fun _ _ _ _ => none) p := cutsNil (by kernel_rfl)
theorem tendrillaw02_live_ok : SigOk Try.prog 9 tendrillaw02_live_S ∧ Bodied Try.prog 9 :=
  ⟨fn_sound (s := tendrillaw02_live_S) (T := []) (Λ := fun _ _ _ _ => none) 0 Try.func9 (c := bodyOf Try.f9) (by kernel_rfl) (by kernel_rfl) (lkΓ_cons mem_Cas_ok (lkΓ_cons tendrilref02_Same_ok lkΓ_nil)) (by decide +kernel) (by decide +kernel) (fun _ _ _ => rfl) tendrillaw02_live_cuts (fun x => tendrillaw02_live_run  x), bodied_of Try.func9 (by decide +kernel) (by decide +kernel)⟩

/-! tendril/tendrilref02.Copy -/
def tendrilref02_Copy (x : List Int) : Option (List Int) :=
  bif Decidable.decide (0 + List.length x ≤ 1000000) then
    some (x)
  else
    none
def tendrilref02_Copy_S : Sig := ⟨[⟨false, (.sl .int)⟩], [⟨false, (.sl .int)⟩], true, tendrilref02_Copy⟩
set_option maxRecDepth 100000 in
theorem tendrilref02_Copy_run (x : Tup [⟨false, (.sl .int)⟩]) : (pxFn Try.prog (lkΓ []) [] Try.f10 (bodyOf Try.f10) true [⟨false, (.sl .int)⟩] (encTup [⟨false, (.sl .int)⟩] x)).run (fun _ _ _ => none) = tendrilref02_Copy x := by kernel_rfl
theorem tendrilref02_Copy_cuts : ∀ p ∈ cuts Try.prog (lkΓ []) Try.f10.ntmps [] (bodyOf Try.f10) (κ0 Try.prog Try.f10 true [⟨false, (.sl .int)⟩]), CutOk (fun _ _ _ _ => none) p := cutsNil (by kernel_rfl)
theorem tendrilref02_Copy_ok : SigOk Try.prog 10 tendrilref02_Copy_S ∧ Bodied Try.prog 10 :=
  ⟨fn_sound (s := tendrilref02_Copy_S) (T := []) (Λ := fun _ _ _ _ => none) 0 Try.func10 (c := bodyOf Try.f10) (by kernel_rfl) (by kernel_rfl) lkΓ_nil (by decide +kernel) (by decide +kernel) (fun _ _ _ => rfl) tendrilref02_Copy_cuts (fun x => tendrilref02_Copy_run  x), bodied_of Try.func10 (by decide +kernel) (by decide +kernel)⟩

/-! tendril/tendrilref02.Load -/
def tendrilref02_Load (x : List Int × Int) : Option (Int × Int) :=
  bif Decidable.decide (x.2 < 0) then
    some ((0, 1))
  else
    bif Decidable.decide ((↑(List.length x.1) : Int) ≤ x.2) then
      some ((0, 1))
    else
      bif Decidable.decide (0 ≤ x.2) then
        bif Decidable.decide (x.2 < (↑(List.length x.1) : Int)) then
          some ((List.getD x.1 (Int.toNat x.2) 0, 0))
        else
          none
      else
        none
def tendrilref02_Load_S : Sig := ⟨[⟨false, (.sl .int)⟩, ⟨false, .int⟩], [⟨false, .int⟩, ⟨false, .int⟩], false, tendrilref02_Load⟩
set_option maxRecDepth 100000 in
theorem tendrilref02_Load_run (x : Tup [⟨false, (.sl .int)⟩, ⟨false, .int⟩]) : (pxFn Try.prog (lkΓ []) [] Try.f18 (bodyOf Try.f18) false [⟨false, .int⟩, ⟨false, .int⟩] (encTup [⟨false, (.sl .int)⟩, ⟨false, .int⟩] x)).run (fun _ _ _ => none) = tendrilref02_Load x := by kernel_rfl
theorem tendrilref02_Load_cuts : ∀ p ∈ cuts Try.prog (lkΓ []) Try.f18.ntmps [] (bodyOf Try.f18) (κ0 Try.prog Try.f18 false [⟨false, .int⟩, ⟨false, .int⟩]), CutOk (fun _ _ _ _ => none) p := cutsNil (by kernel_rfl)
theorem tendrilref02_Load_ok : SigOk Try.prog 18 tendrilref02_Load_S ∧ Bodied Try.prog 18 :=
  ⟨fn_sound (s := tendrilref02_Load_S) (T := []) (Λ := fun _ _ _ _ => none) 0 Try.func18 (c := bodyOf Try.f18) (by kernel_rfl) (by kernel_rfl) lkΓ_nil (by decide +kernel) (by decide +kernel) (fun _ _ _ => rfl) tendrilref02_Load_cuts (fun x => tendrilref02_Load_run  x), bodied_of Try.func18 (by decide +kernel) (by decide +kernel)⟩

/-! tendril/tendrilref02.Store -/
def tendrilref02_Store (x : List Int × Int × Int) : Option (List Int × Int) :=
  bif Decidable.decide (x.snd.1 < 0) then
    some (([], 1))
  else
    bif Decidable.decide ((↑(List.length x.1) : Int) ≤ x.snd.1) then
      some (([], 1))
    else
      bif Decidable.decide (0 + List.length x.1 ≤ 1000000) then
        bif Decidable.decide (0 ≤ x.snd.1) then
          bif Decidable.decide (x.snd.1 < (↑(List.length x.1) : Int)) then
            some ((List.set x.1 (Int.toNat x.snd.1) x.snd.2, 0))
          else
            none
        else
          none
      else
        none
def tendrilref02_Store_S : Sig := ⟨[⟨false, (.sl .int)⟩, ⟨false, .int⟩, ⟨false, .int⟩], [⟨false, (.sl .int)⟩, ⟨false, .int⟩], true, tendrilref02_Store⟩
set_option maxRecDepth 100000 in
theorem tendrilref02_Store_run (x : Tup [⟨false, (.sl .int)⟩, ⟨false, .int⟩, ⟨false, .int⟩]) : (pxFn Try.prog (lkΓ []) [] Try.f19 (bodyOf Try.f19) true [⟨false, (.sl .int)⟩, ⟨false, .int⟩] (encTup [⟨false, (.sl .int)⟩, ⟨false, .int⟩, ⟨false, .int⟩] x)).run (fun _ _ _ => none) = tendrilref02_Store x := by kernel_rfl
theorem tendrilref02_Store_cuts : ∀ p ∈ cuts Try.prog (lkΓ []) Try.f19.ntmps [] (bodyOf Try.f19) (κ0 Try.prog Try.f19 true [⟨false, (.sl .int)⟩, ⟨false, .int⟩]), CutOk (fun _ _ _ _ => none) p := cutsNil (by kernel_rfl)
theorem tendrilref02_Store_ok : SigOk Try.prog 19 tendrilref02_Store_S ∧ Bodied Try.prog 19 :=
  ⟨fn_sound (s := tendrilref02_Store_S) (T := []) (Λ := fun _ _ _ _ => none) 0 Try.func19 (c := bodyOf Try.f19) (by kernel_rfl) (by kernel_rfl) lkΓ_nil (by decide +kernel) (by decide +kernel) (fun _ _ _ => rfl) tendrilref02_Store_cuts (fun x => tendrilref02_Store_run  x), bodied_of Try.func19 (by decide +kernel) (by decide +kernel)⟩

/-! tendril/tendrilref02.Cas -/
def tendrilref02_Cas (x : List Int × Int × Int × Int) : Option (List Int × Bool × Int) :=
  (tendrilref02_Load ((x.1, x.snd.1))).bind fun r0 =>
  bif r0.2 != 0 then
    some (([], Bool.false, r0.2))
  else
    bif r0.1 != x.snd.snd.1 then
      bif Decidable.decide (0 + List.length x.1 ≤ 1000000) then
        some ((x.1, Bool.false, 0))
      else
        none
    else
      (tendrilref02_Store ((x.1, x.snd.1, x.snd.snd.2))).bind fun r1 =>
      some ((r1.1, Bool.true, 0))
def tendrilref02_Cas_S : Sig := ⟨[⟨false, (.sl .int)⟩, ⟨false, .int⟩, ⟨false, .int⟩, ⟨false, .int⟩], [⟨false, (.sl .int)⟩, ⟨false, .bool⟩, ⟨false, .int⟩], true, tendrilref02_Cas⟩
set_option maxRecDepth 100000 in
theorem tendrilref02_Cas_run (x : Tup [⟨false, (.sl .int)⟩, ⟨false, .int⟩, ⟨false, .int⟩, ⟨false, .int⟩]) : (pxFn Try.prog (lkΓ [(18, tendrilref02_Load_S), (19, tendrilref02_Store_S)]) [] Try.f12 (bodyOf Try.f12) true [⟨false, (.sl .int)⟩, ⟨false, .bool⟩, ⟨false, .int⟩] (encTup [⟨false, (.sl .int)⟩, ⟨false, .int⟩, ⟨false, .int⟩, ⟨false, .int⟩] x)).run (fun _ _ _ => none) = tendrilref02_Cas x := by kernel_rfl
theorem tendrilref02_Cas_cuts : ∀ p ∈ cuts Try.prog (lkΓ [(18, tendrilref02_Load_S), (19, tendrilref02_Store_S)]) Try.f12.ntmps [] (bodyOf Try.f12) (κ0 Try.prog Try.f12 true [⟨false, (.sl .int)⟩, ⟨false, .bool⟩, ⟨false, .int⟩]), CutOk (fun _ _ _ _ => none) p := cutsNil (by kernel_rfl)
theorem tendrilref02_Cas_ok : SigOk Try.prog 12 tendrilref02_Cas_S ∧ Bodied Try.prog 12 :=
  ⟨fn_sound (s := tendrilref02_Cas_S) (T := []) (Λ := fun _ _ _ _ => none) 0 Try.func12 (c := bodyOf Try.f12) (by kernel_rfl) (by kernel_rfl) (lkΓ_cons tendrilref02_Load_ok (lkΓ_cons tendrilref02_Store_ok lkΓ_nil)) (by decide +kernel) (by decide +kernel) (fun _ _ _ => rfl) tendrilref02_Cas_cuts (fun x => tendrilref02_Cas_run  x), bodied_of Try.func12 (by decide +kernel) (by decide +kernel)⟩

/-! tendril/tendrillaw02.MemSwaps -/
def tendrillaw02_MemSwaps_L22 : Nat → (List Int) → (Bool) → (Int) → (Int) → (List Int) → (List Int) → Option (Bool)
  | 0, _, _, _, _, _, _ => none
  | k + 1, p0, p1, p2, p3, p4, p5 =>
    bif Decidable.decide (p3 < p2) then
      bif Decidable.decide (0 ≤ p3) then
        bif Decidable.decide (p3 < (↑p5.length : Int)) then
          bif Decidable.decide (0 ≤ p3) then
            bif Decidable.decide (p3 < (↑p5.length : Int)) then
              tendrillaw02_MemSwaps_L22 k (p0) (p1) (p2) (Go.RowKit.wrap64 (p3 + 1)) (p4) (p5.set p3.toNat (Go.RowKit.wrap64 (p5.getD p3.toNat 0 + 1)))
            else
              none
          else
            none
        else
          none
      else
        none
    else
      bif p1 then
        (tendrilref02_Same ((p0, p4))).bind fun r5 =>
        some (r5)
      else
        some (Bool.false)
def tendrillaw02_MemSwaps_P22 (k : Nat) (vs : List SV) (bs : List Blk) : Option (Bool) := match vs, bs with
  | [.val (.one (.sl .int p0)), .val (.one (.row 0)), .val (.one (.row 1)), .val (.one (.bool p1)), .val (.one (.int .i64 p2)), .val (.one (.int .i64 p3))], [.row .int p4, .row .int p5] => tendrillaw02_MemSwaps_L22 k p0 p1 p2 p3 p4 p5
  | _, _ => none
def tendrillaw02_MemSwaps_Λ (k L : Nat) (vs : List SV) (bs : List Blk) : Option (Bool) := match Nat.beq L 22 with | true => tendrillaw02_MemSwaps_P22 k vs bs | false => none
def tendrillaw02_MemSwaps_K (K : Nat) (x : List Int × Int × Int × Int) : Option (Bool) :=
  (tendrillaw02_live (())).bind fun r0 =>
  bif !r0 then
    some (Bool.false)
  else
    bif Decidable.decide (1000 < (↑(List.length x.1) : Int)) then
      some (Bool.true)
    else
      (tendrilref02_Copy (x.1)).bind fun r1 =>
      (mem_Cas ((x.1, x.snd.1, x.snd.snd.1, x.snd.snd.2))).bind fun r2 =>
      (tendrilref02_Cas ((x.1, x.snd.1, x.snd.snd.1, x.snd.snd.2))).bind fun r3 =>
      (tendrilref02_Same ((r2.1, r3.1))).bind fun r4 =>
      bif r4 then
        bif r2.snd.1 == r3.snd.1 then
          tendrillaw02_MemSwaps_L22 K (x.1) (r2.snd.2 == r3.snd.2) ((↑(List.length r2.1) : Int)) (0) (r1) (r2.1)
        else
          tendrillaw02_MemSwaps_L22 K (x.1) (Bool.false) ((↑(List.length r2.1) : Int)) (0) (r1) (r2.1)
      else
        tendrillaw02_MemSwaps_L22 K (x.1) (Bool.false) ((↑(List.length r2.1) : Int)) (0) (r1) (r2.1)
def tendrillaw02_MemSwaps (x : (List Int) × Int × Int × Int) : Option (Bool) := tendrillaw02_MemSwaps_K 2000000 x
def tendrillaw02_MemSwaps_S : Sig := ⟨[⟨false, (.sl .int)⟩, ⟨false, .int⟩, ⟨false, .int⟩, ⟨false, .int⟩], [⟨false, .bool⟩], false, tendrillaw02_MemSwaps⟩
noncomputable def tendrillaw02_MemSwaps_C : List (Cut (Tup [⟨false, .bool⟩])) := cuts Try.prog (lkΓ [(9, tendrillaw02_live_S), (10, tendrilref02_Copy_S), (11, mem_Cas_S), (12, tendrilref02_Cas_S), (13, tendrilref02_Same_S)]) Try.f3.ntmps [(22, [0, 9, 10, 16, 57, 58])] (bodyOf Try.f3) (κ0 Try.prog Try.f3 false [⟨false, .bool⟩])
set_option maxRecDepth 100000 in
theorem tendrillaw02_MemSwaps_c22 (k : Nat) (p0 : List Int) (p1 : Bool) (p2 : Int) (p3 : Int) (p4 : List Int) (p5 : List Int) : ((nthC tendrillaw02_MemSwaps_C 0).g (mkSt [0, 9, 10, 16, 57, 58] [.val (.one (.sl .int p0)), .val (.one (.row 0)), .val (.one (.row 1)), .val (.one (.bool p1)), .val (.one (.int .i64 p2)), .val (.one (.int .i64 p3))] [.row .int p4, .row .int p5])).run (tendrillaw02_MemSwaps_Λ k) = tendrillaw02_MemSwaps_L22 (k + 1) p0 p1 p2 p3 p4 p5 := by kernel_rfl
theorem tendrillaw02_MemSwaps_d22 : CutOk tendrillaw02_MemSwaps_Λ (nthC tendrillaw02_MemSwaps_C 0) := by
  refine cutOk_of (L := 22) (live := [0, 9, 10, 16, 57, 58]) (by kernel_rfl) (by kernel_rfl) fun k vs bs r h => ?_
  change tendrillaw02_MemSwaps_P22 (k + 1) vs bs = some r at h
  unfold tendrillaw02_MemSwaps_P22 at h
  split at h
  · exact (tendrillaw02_MemSwaps_c22 k _ _ _ _ _ _).trans h
  · cases h
theorem tendrillaw02_MemSwaps_cuts : ∀ p ∈ cuts Try.prog (lkΓ [(9, tendrillaw02_live_S), (10, tendrilref02_Copy_S), (11, mem_Cas_S), (12, tendrilref02_Cas_S), (13, tendrilref02_Same_S)]) Try.f3.ntmps [(22, [0, 9, 10, 16, 57, 58])] (bodyOf Try.f3) (κ0 Try.prog Try.f3 false [⟨false, .bool⟩]), CutOk tendrillaw02_MemSwaps_Λ p := cutsOk (l := tendrillaw02_MemSwaps_C) (n := 1) (by kernel_rfl) fun
  | 0, _ => tendrillaw02_MemSwaps_d22
  | k + 1, h => absurd h (by omega)
theorem tendrillaw02_MemSwaps_Λ0 (L : Nat) (vs : List SV) (bs : List Blk) : tendrillaw02_MemSwaps_Λ 0 L vs bs = none := by
  unfold tendrillaw02_MemSwaps_Λ
  split
  · unfold tendrillaw02_MemSwaps_P22; split
    · first | rfl | (unfold tendrillaw02_MemSwaps_L22; rfl)
    · rfl
  rfl
set_option maxRecDepth 100000 in
theorem tendrillaw02_MemSwaps_run (K : Nat) (x : Tup [⟨false, (.sl .int)⟩, ⟨false, .int⟩, ⟨false, .int⟩, ⟨false, .int⟩]) : (pxFn Try.prog (lkΓ [(9, tendrillaw02_live_S), (10, tendrilref02_Copy_S), (11, mem_Cas_S), (12, tendrilref02_Cas_S), (13, tendrilref02_Same_S)]) [(22, [0, 9, 10, 16, 57, 58])] Try.f3 (bodyOf Try.f3) false [⟨false, .bool⟩] (encTup [⟨false, (.sl .int)⟩, ⟨false, .int⟩, ⟨false, .int⟩, ⟨false, .int⟩] x)).run (tendrillaw02_MemSwaps_Λ K) = tendrillaw02_MemSwaps_K K x := by kernel_rfl
theorem tendrillaw02_MemSwaps_ok : SigOk Try.prog 3 tendrillaw02_MemSwaps_S ∧ Bodied Try.prog 3 :=
  ⟨fn_sound (s := tendrillaw02_MemSwaps_S) (T := [(22, [0, 9, 10, 16, 57, 58])]) (Λ := tendrillaw02_MemSwaps_Λ) 2000000 Try.func3 (c := bodyOf Try.f3) (by kernel_rfl) (by kernel_rfl) (lkΓ_cons tendrillaw02_live_ok (lkΓ_cons tendrilref02_Copy_ok (lkΓ_cons mem_Cas_ok (lkΓ_cons tendrilref02_Cas_ok (lkΓ_cons tendrilref02_Same_ok lkΓ_nil))))) (by decide +kernel) (by decide +kernel) tendrillaw02_MemSwaps_Λ0 tendrillaw02_MemSwaps_cuts (fun x => tendrillaw02_MemSwaps_run 2000000 x), bodied_of Try.func3 (by decide +kernel) (by decide +kernel)⟩

/-! tendril/mem.Load -/
def mem_Load (x : List Int × Int) : Option (Int × Int) :=
  (mem_in ((x.1, x.2))).bind fun r0 =>
  bif !r0 then
    some ((0, 1))
  else
    bif Decidable.decide (0 ≤ x.2) then
      bif Decidable.decide (x.2 < (↑(List.length x.1) : Int)) then
        some ((List.getD x.1 (Int.toNat x.2) 0, 0))
      else
        none
    else
      none
def mem_Load_S : Sig := ⟨[⟨false, (.sl .int)⟩, ⟨false, .int⟩], [⟨false, .int⟩, ⟨false, .int⟩], false, mem_Load⟩
set_option maxRecDepth 100000 in
theorem mem_Load_run (x : Tup [⟨false, (.sl .int)⟩, ⟨false, .int⟩]) : (pxFn Try.prog (lkΓ [(20, mem_in_S)]) [] Try.f15 (bodyOf Try.f15) false [⟨false, .int⟩, ⟨false, .int⟩] (encTup [⟨false, (.sl .int)⟩, ⟨false, .int⟩] x)).run (fun _ _ _ => none) = mem_Load x := by kernel_rfl
theorem mem_Load_cuts : ∀ p ∈ cuts Try.prog (lkΓ [(20, mem_in_S)]) Try.f15.ntmps [] (bodyOf Try.f15) (κ0 Try.prog Try.f15 false [⟨false, .int⟩, ⟨false, .int⟩]), CutOk (fun _ _ _ _ => none) p := cutsNil (by kernel_rfl)
theorem mem_Load_ok : SigOk Try.prog 15 mem_Load_S ∧ Bodied Try.prog 15 :=
  ⟨fn_sound (s := mem_Load_S) (T := []) (Λ := fun _ _ _ _ => none) 0 Try.func15 (c := bodyOf Try.f15) (by kernel_rfl) (by kernel_rfl) (lkΓ_cons mem_in_ok lkΓ_nil) (by decide +kernel) (by decide +kernel) (fun _ _ _ => rfl) mem_Load_cuts (fun x => mem_Load_run  x), bodied_of Try.func15 (by decide +kernel) (by decide +kernel)⟩

/-! tendril/tendrillaw02.MemBack -/
def tendrillaw02_MemBack (x : List Int × Int × Int × Int) : Option (Bool) :=
  (tendrillaw02_live (())).bind fun r0 =>
  bif !r0 then
    some (Bool.false)
  else
    bif Decidable.decide (1000 < (↑(List.length x.1) : Int)) then
      some (Bool.true)
    else
      (mem_Store ((x.1, x.snd.1, x.snd.snd.1))).bind fun r1 =>
      bif r1.2 != 0 then
        (mem_Load ((x.1, x.snd.1))).bind fun r2 =>
        bif r2.2 == r1.2 then
          some ((↑(List.length r1.1) : Int) == 0)
        else
          some (Bool.false)
      else
        (mem_Load ((r1.1, x.snd.1))).bind fun r3 =>
        (mem_Load ((r1.1, x.snd.snd.2))).bind fun r4 =>
        (mem_Load ((x.1, x.snd.snd.2))).bind fun r5 =>
        bif r3.2 == 0 then
          bif r3.1 == x.snd.snd.1 then
            bif r4.2 == r5.2 then
              bif x.snd.snd.2 == x.snd.1 then
                some ((↑(List.length r1.1) : Int) == (↑(List.length x.1) : Int))
              else
                bif r4.1 == r5.1 then
                  some ((↑(List.length r1.1) : Int) == (↑(List.length x.1) : Int))
                else
                  some (Bool.false)
            else
              some (Bool.false)
          else
            some (Bool.false)
        else
          some (Bool.false)
def tendrillaw02_MemBack_S : Sig := ⟨[⟨false, (.sl .int)⟩, ⟨false, .int⟩, ⟨false, .int⟩, ⟨false, .int⟩], [⟨false, .bool⟩], false, tendrillaw02_MemBack⟩
set_option maxRecDepth 100000 in
theorem tendrillaw02_MemBack_run (x : Tup [⟨false, (.sl .int)⟩, ⟨false, .int⟩, ⟨false, .int⟩, ⟨false, .int⟩]) : (pxFn Try.prog (lkΓ [(9, tendrillaw02_live_S), (14, mem_Store_S), (15, mem_Load_S)]) [] Try.f4 (bodyOf Try.f4) false [⟨false, .bool⟩] (encTup [⟨false, (.sl .int)⟩, ⟨false, .int⟩, ⟨false, .int⟩, ⟨false, .int⟩] x)).run (fun _ _ _ => none) = tendrillaw02_MemBack x := by kernel_rfl
theorem tendrillaw02_MemBack_cuts : ∀ p ∈ cuts Try.prog (lkΓ [(9, tendrillaw02_live_S), (14, mem_Store_S), (15, mem_Load_S)]) Try.f4.ntmps [] (bodyOf Try.f4) (κ0 Try.prog Try.f4 false [⟨false, .bool⟩]), CutOk (fun _ _ _ _ => none) p := cutsNil (by kernel_rfl)
theorem tendrillaw02_MemBack_ok : SigOk Try.prog 4 tendrillaw02_MemBack_S ∧ Bodied Try.prog 4 :=
  ⟨fn_sound (s := tendrillaw02_MemBack_S) (T := []) (Λ := fun _ _ _ _ => none) 0 Try.func4 (c := bodyOf Try.f4) (by kernel_rfl) (by kernel_rfl) (lkΓ_cons tendrillaw02_live_ok (lkΓ_cons mem_Store_ok (lkΓ_cons mem_Load_ok lkΓ_nil))) (by decide +kernel) (by decide +kernel) (fun _ _ _ => rfl) tendrillaw02_MemBack_cuts (fun x => tendrillaw02_MemBack_run  x), bodied_of Try.func4 (by decide +kernel) (by decide +kernel)⟩

/-! tendril/tendrillaw02.MemOnce -/
def tendrillaw02_MemOnce (x : List Int × Int × Int × Int) : Option (Bool) :=
  (tendrillaw02_live (())).bind fun r0 =>
  bif !r0 then
    some (Bool.false)
  else
    bif Decidable.decide (1000 < (↑(List.length x.1) : Int)) then
      some (Bool.true)
    else
      (mem_Load ((x.1, x.snd.1))).bind fun r1 =>
      bif r1.2 != 0 then
        some (Bool.true)
      else
        (mem_Cas ((x.1, x.snd.1, r1.1, x.snd.snd.1))).bind fun r2 =>
        (mem_Cas ((r2.1, x.snd.1, r1.1, x.snd.snd.2))).bind fun r3 =>
        (mem_Load ((r3.1, x.snd.1))).bind fun r4 =>
        bif r2.snd.2 != 0 then
          some (Bool.false)
        else
          bif r3.snd.2 != 0 then
            some (Bool.false)
          else
            bif r4.2 != 0 then
              some (Bool.false)
            else
              bif !r2.snd.1 then
                some (Bool.false)
              else
                bif !r3.snd.1 == (x.snd.snd.1 == r1.1) then
                  some (Bool.false)
                else
                  bif r3.snd.1 then
                    bif r4.1 == x.snd.snd.2 then
                      some (Bool.true)
                    else
                      bif !r3.snd.1 then
                        some (r4.1 == x.snd.snd.1)
                      else
                        some (Bool.false)
                  else
                    bif !r3.snd.1 then
                      some (r4.1 == x.snd.snd.1)
                    else
                      some (Bool.false)
def tendrillaw02_MemOnce_S : Sig := ⟨[⟨false, (.sl .int)⟩, ⟨false, .int⟩, ⟨false, .int⟩, ⟨false, .int⟩], [⟨false, .bool⟩], false, tendrillaw02_MemOnce⟩
set_option maxRecDepth 100000 in
theorem tendrillaw02_MemOnce_run (x : Tup [⟨false, (.sl .int)⟩, ⟨false, .int⟩, ⟨false, .int⟩, ⟨false, .int⟩]) : (pxFn Try.prog (lkΓ [(9, tendrillaw02_live_S), (11, mem_Cas_S), (15, mem_Load_S)]) [] Try.f5 (bodyOf Try.f5) false [⟨false, .bool⟩] (encTup [⟨false, (.sl .int)⟩, ⟨false, .int⟩, ⟨false, .int⟩, ⟨false, .int⟩] x)).run (fun _ _ _ => none) = tendrillaw02_MemOnce x := by kernel_rfl
theorem tendrillaw02_MemOnce_cuts : ∀ p ∈ cuts Try.prog (lkΓ [(9, tendrillaw02_live_S), (11, mem_Cas_S), (15, mem_Load_S)]) Try.f5.ntmps [] (bodyOf Try.f5) (κ0 Try.prog Try.f5 false [⟨false, .bool⟩]), CutOk (fun _ _ _ _ => none) p := cutsNil (by kernel_rfl)
theorem tendrillaw02_MemOnce_ok : SigOk Try.prog 5 tendrillaw02_MemOnce_S ∧ Bodied Try.prog 5 :=
  ⟨fn_sound (s := tendrillaw02_MemOnce_S) (T := []) (Λ := fun _ _ _ _ => none) 0 Try.func5 (c := bodyOf Try.f5) (by kernel_rfl) (by kernel_rfl) (lkΓ_cons tendrillaw02_live_ok (lkΓ_cons mem_Cas_ok (lkΓ_cons mem_Load_ok lkΓ_nil))) (by decide +kernel) (by decide +kernel) (fun _ _ _ => rfl) tendrillaw02_MemOnce_cuts (fun x => tendrillaw02_MemOnce_run  x), bodied_of Try.func5 (by decide +kernel) (by decide +kernel)⟩

/-! tendril/tendrillaw02.MemSame -/
def tendrillaw02_MemSame (x : List Int × Int × Int × Int) : Option (Bool) :=
  (tendrillaw02_live (())).bind fun r0 =>
  bif !r0 then
    some (Bool.false)
  else
    bif Decidable.decide (1000 < (↑(List.length x.1) : Int)) then
      some (Bool.true)
    else
      (mem_Cas ((x.1, x.snd.1, x.snd.snd.1, x.snd.snd.2))).bind fun r1 =>
      (mem_Store ((x.1, x.snd.1, x.snd.snd.2))).bind fun r2 =>
      (mem_Load ((x.1, x.snd.1))).bind fun r3 =>
      bif r1.snd.2 != 0 then
        bif r2.2 == r1.snd.2 then
          bif r3.2 == r1.snd.2 then
            bif !r1.snd.1 then
              some ((↑(List.length r1.1) : Int) == 0)
            else
              some (Bool.false)
          else
            some (Bool.false)
        else
          some (Bool.false)
      else
        bif r1.snd.1 == (r3.1 == x.snd.snd.1) then
          bif r1.snd.1 then
            (tendrilref02_Same ((r1.1, r2.1))).bind fun r4 =>
            bif r4 then
              some (Bool.true)
            else
              bif !r1.snd.1 then
                (tendrilref02_Same ((r1.1, x.1))).bind fun r5 =>
                some (r5)
              else
                some (Bool.false)
          else
            bif !r1.snd.1 then
              (tendrilref02_Same ((r1.1, x.1))).bind fun r6 =>
              some (r6)
            else
              some (Bool.false)
        else
          some (Bool.false)
def tendrillaw02_MemSame_S : Sig := ⟨[⟨false, (.sl .int)⟩, ⟨false, .int⟩, ⟨false, .int⟩, ⟨false, .int⟩], [⟨false, .bool⟩], false, tendrillaw02_MemSame⟩
set_option maxRecDepth 100000 in
theorem tendrillaw02_MemSame_run (x : Tup [⟨false, (.sl .int)⟩, ⟨false, .int⟩, ⟨false, .int⟩, ⟨false, .int⟩]) : (pxFn Try.prog (lkΓ [(9, tendrillaw02_live_S), (11, mem_Cas_S), (13, tendrilref02_Same_S), (14, mem_Store_S), (15, mem_Load_S)]) [] Try.f6 (bodyOf Try.f6) false [⟨false, .bool⟩] (encTup [⟨false, (.sl .int)⟩, ⟨false, .int⟩, ⟨false, .int⟩, ⟨false, .int⟩] x)).run (fun _ _ _ => none) = tendrillaw02_MemSame x := by kernel_rfl
theorem tendrillaw02_MemSame_cuts : ∀ p ∈ cuts Try.prog (lkΓ [(9, tendrillaw02_live_S), (11, mem_Cas_S), (13, tendrilref02_Same_S), (14, mem_Store_S), (15, mem_Load_S)]) Try.f6.ntmps [] (bodyOf Try.f6) (κ0 Try.prog Try.f6 false [⟨false, .bool⟩]), CutOk (fun _ _ _ _ => none) p := cutsNil (by kernel_rfl)
theorem tendrillaw02_MemSame_ok : SigOk Try.prog 6 tendrillaw02_MemSame_S ∧ Bodied Try.prog 6 :=
  ⟨fn_sound (s := tendrillaw02_MemSame_S) (T := []) (Λ := fun _ _ _ _ => none) 0 Try.func6 (c := bodyOf Try.f6) (by kernel_rfl) (by kernel_rfl) (lkΓ_cons tendrillaw02_live_ok (lkΓ_cons mem_Cas_ok (lkΓ_cons tendrilref02_Same_ok (lkΓ_cons mem_Store_ok (lkΓ_cons mem_Load_ok lkΓ_nil))))) (by decide +kernel) (by decide +kernel) (fun _ _ _ => rfl) tendrillaw02_MemSame_cuts (fun x => tendrillaw02_MemSame_run  x), bodied_of Try.func6 (by decide +kernel) (by decide +kernel)⟩

/-! tendril/mem.New -/
def mem_New (x : Int) : Option (List Int × Int) :=
  bif Decidable.decide (x < 0) then
    some (([], 1))
  else
    bif Decidable.decide (4096 < x) then
      some (([], 1))
    else
      bif Decidable.decide (0 ≤ x) then
        bif Decidable.decide (x ≤ 1000000) then
          some ((List.replicate (Int.toNat x) 0, 0))
        else
          none
      else
        none
def mem_New_S : Sig := ⟨[⟨false, .int⟩], [⟨false, (.sl .int)⟩, ⟨false, .int⟩], true, mem_New⟩
set_option maxRecDepth 100000 in
theorem mem_New_run (x : Tup [⟨false, .int⟩]) : (pxFn Try.prog (lkΓ []) [] Try.f16 (bodyOf Try.f16) true [⟨false, (.sl .int)⟩, ⟨false, .int⟩] (encTup [⟨false, .int⟩] x)).run (fun _ _ _ => none) = mem_New x := by kernel_rfl
theorem mem_New_cuts : ∀ p ∈ cuts Try.prog (lkΓ []) Try.f16.ntmps [] (bodyOf Try.f16) (κ0 Try.prog Try.f16 true [⟨false, (.sl .int)⟩, ⟨false, .int⟩]), CutOk (fun _ _ _ _ => none) p := cutsNil (by kernel_rfl)
theorem mem_New_ok : SigOk Try.prog 16 mem_New_S ∧ Bodied Try.prog 16 :=
  ⟨fn_sound (s := mem_New_S) (T := []) (Λ := fun _ _ _ _ => none) 0 Try.func16 (c := bodyOf Try.f16) (by kernel_rfl) (by kernel_rfl) lkΓ_nil (by decide +kernel) (by decide +kernel) (fun _ _ _ => rfl) mem_New_cuts (fun x => mem_New_run  x), bodied_of Try.func16 (by decide +kernel) (by decide +kernel)⟩

/-! tendril/tendrilref02.New -/
def tendrilref02_New (x : Int) : Option (List Int × Int) :=
  bif Decidable.decide (x < 0) then
    some (([], 1))
  else
    bif Decidable.decide (4096 < x) then
      some (([], 1))
    else
      bif Decidable.decide (0 ≤ x) then
        bif Decidable.decide (x ≤ 1000000) then
          some ((List.replicate (Int.toNat x) 0, 0))
        else
          none
      else
        none
def tendrilref02_New_S : Sig := ⟨[⟨false, .int⟩], [⟨false, (.sl .int)⟩, ⟨false, .int⟩], true, tendrilref02_New⟩
set_option maxRecDepth 100000 in
theorem tendrilref02_New_run (x : Tup [⟨false, .int⟩]) : (pxFn Try.prog (lkΓ []) [] Try.f17 (bodyOf Try.f17) true [⟨false, (.sl .int)⟩, ⟨false, .int⟩] (encTup [⟨false, .int⟩] x)).run (fun _ _ _ => none) = tendrilref02_New x := by kernel_rfl
theorem tendrilref02_New_cuts : ∀ p ∈ cuts Try.prog (lkΓ []) Try.f17.ntmps [] (bodyOf Try.f17) (κ0 Try.prog Try.f17 true [⟨false, (.sl .int)⟩, ⟨false, .int⟩]), CutOk (fun _ _ _ _ => none) p := cutsNil (by kernel_rfl)
theorem tendrilref02_New_ok : SigOk Try.prog 17 tendrilref02_New_S ∧ Bodied Try.prog 17 :=
  ⟨fn_sound (s := tendrilref02_New_S) (T := []) (Λ := fun _ _ _ _ => none) 0 Try.func17 (c := bodyOf Try.f17) (by kernel_rfl) (by kernel_rfl) lkΓ_nil (by decide +kernel) (by decide +kernel) (fun _ _ _ => rfl) tendrilref02_New_cuts (fun x => tendrilref02_New_run  x), bodied_of Try.func17 (by decide +kernel) (by decide +kernel)⟩

/-! tendril/tendrillaw02.MemDoes -/
def tendrillaw02_MemDoes_L30 : Nat → (List Int) → (Bool) → (Int) → (Int) → (List Int) → (List Int) → Option (Bool)
  | 0, _, _, _, _, _, _ => none
  | k + 1, p0, p1, p2, p3, p4, p5 =>
    bif Decidable.decide (p3 < p2) then
      bif Decidable.decide (0 ≤ p3) then
        bif Decidable.decide (p3 < (↑p5.length : Int)) then
          bif Decidable.decide (0 ≤ p3) then
            bif Decidable.decide (p3 < (↑p5.length : Int)) then
              tendrillaw02_MemDoes_L30 k (p0) (p1) (p2) (Go.RowKit.wrap64 (p3 + 1)) (p4) (p5.set p3.toNat (Go.RowKit.wrap64 (p5.getD p3.toNat 0 + 1)))
            else
              none
          else
            none
        else
          none
      else
        none
    else
      bif p1 then
        (tendrilref02_Same ((p0, p4))).bind fun r10 =>
        some (r10)
      else
        some (Bool.false)
def tendrillaw02_MemDoes_P30 (k : Nat) (vs : List SV) (bs : List Blk) : Option (Bool) := match vs, bs with
  | [.val (.one (.sl .int p0)), .val (.one (.row 0)), .val (.one (.row 1)), .val (.one (.bool p1)), .val (.one (.int .i64 p2)), .val (.one (.int .i64 p3))], [.row .int p4, .row .int p5] => tendrillaw02_MemDoes_L30 k p0 p1 p2 p3 p4 p5
  | _, _ => none
def tendrillaw02_MemDoes_Λ (k L : Nat) (vs : List SV) (bs : List Blk) : Option (Bool) := match Nat.beq L 30 with | true => tendrillaw02_MemDoes_P30 k vs bs | false => none
def tendrillaw02_MemDoes_K (K : Nat) (x : List Int × Int × Int × Int) : Option (Bool) :=
  (tendrillaw02_live (())).bind fun r0 =>
  bif !r0 then
    some (Bool.false)
  else
    bif Decidable.decide (1000 < (↑(List.length x.1) : Int)) then
      some (Bool.true)
    else
      (tendrilref02_Copy (x.1)).bind fun r1 =>
      (mem_New (x.snd.1)).bind fun r2 =>
      (tendrilref02_New (x.snd.1)).bind fun r3 =>
      (mem_Load ((x.1, x.snd.snd.1))).bind fun r4 =>
      (tendrilref02_Load ((x.1, x.snd.snd.1))).bind fun r5 =>
      (mem_Store ((x.1, x.snd.snd.1, x.snd.snd.2))).bind fun r6 =>
      (tendrilref02_Store ((x.1, x.snd.snd.1, x.snd.snd.2))).bind fun r7 =>
      (tendrilref02_Same ((r2.1, r3.1))).bind fun r8 =>
      bif r8 then
        bif r2.2 == r3.2 then
          bif r4.1 == r5.1 then
            bif r4.2 == r5.2 then
              (tendrilref02_Same ((r6.1, r7.1))).bind fun r9 =>
              bif r9 then
                tendrillaw02_MemDoes_L30 K (x.1) (r6.2 == r7.2) ((↑(List.length r6.1) : Int)) (0) (r1) (r6.1)
              else
                tendrillaw02_MemDoes_L30 K (x.1) (Bool.false) ((↑(List.length r6.1) : Int)) (0) (r1) (r6.1)
            else
              tendrillaw02_MemDoes_L30 K (x.1) (Bool.false) ((↑(List.length r6.1) : Int)) (0) (r1) (r6.1)
          else
            tendrillaw02_MemDoes_L30 K (x.1) (Bool.false) ((↑(List.length r6.1) : Int)) (0) (r1) (r6.1)
        else
          tendrillaw02_MemDoes_L30 K (x.1) (Bool.false) ((↑(List.length r6.1) : Int)) (0) (r1) (r6.1)
      else
        tendrillaw02_MemDoes_L30 K (x.1) (Bool.false) ((↑(List.length r6.1) : Int)) (0) (r1) (r6.1)
def tendrillaw02_MemDoes (x : (List Int) × Int × Int × Int) : Option (Bool) := tendrillaw02_MemDoes_K 2000000 x
def tendrillaw02_MemDoes_S : Sig := ⟨[⟨false, (.sl .int)⟩, ⟨false, .int⟩, ⟨false, .int⟩, ⟨false, .int⟩], [⟨false, .bool⟩], false, tendrillaw02_MemDoes⟩
noncomputable def tendrillaw02_MemDoes_C : List (Cut (Tup [⟨false, .bool⟩])) := cuts Try.prog (lkΓ [(9, tendrillaw02_live_S), (10, tendrilref02_Copy_S), (13, tendrilref02_Same_S), (14, mem_Store_S), (15, mem_Load_S), (16, mem_New_S), (17, tendrilref02_New_S), (18, tendrilref02_Load_S), (19, tendrilref02_Store_S)]) Try.f7.ntmps [(30, [0, 9, 18, 22, 96, 97])] (bodyOf Try.f7) (κ0 Try.prog Try.f7 false [⟨false, .bool⟩])
set_option maxRecDepth 100000 in
theorem tendrillaw02_MemDoes_c30 (k : Nat) (p0 : List Int) (p1 : Bool) (p2 : Int) (p3 : Int) (p4 : List Int) (p5 : List Int) : ((nthC tendrillaw02_MemDoes_C 0).g (mkSt [0, 9, 18, 22, 96, 97] [.val (.one (.sl .int p0)), .val (.one (.row 0)), .val (.one (.row 1)), .val (.one (.bool p1)), .val (.one (.int .i64 p2)), .val (.one (.int .i64 p3))] [.row .int p4, .row .int p5])).run (tendrillaw02_MemDoes_Λ k) = tendrillaw02_MemDoes_L30 (k + 1) p0 p1 p2 p3 p4 p5 := by kernel_rfl
theorem tendrillaw02_MemDoes_d30 : CutOk tendrillaw02_MemDoes_Λ (nthC tendrillaw02_MemDoes_C 0) := by
  refine cutOk_of (L := 30) (live := [0, 9, 18, 22, 96, 97]) (by kernel_rfl) (by kernel_rfl) fun k vs bs r h => ?_
  change tendrillaw02_MemDoes_P30 (k + 1) vs bs = some r at h
  unfold tendrillaw02_MemDoes_P30 at h
  split at h
  · exact (tendrillaw02_MemDoes_c30 k _ _ _ _ _ _).trans h
  · cases h
theorem tendrillaw02_MemDoes_cuts : ∀ p ∈ cuts Try.prog (lkΓ [(9, tendrillaw02_live_S), (10, tendrilref02_Copy_S), (13, tendrilref02_Same_S), (14, mem_Store_S), (15, mem_Load_S), (16, mem_New_S), (17, tendrilref02_New_S), (18, tendrilref02_Load_S), (19, tendrilref02_Store_S)]) Try.f7.ntmps [(30, [0, 9, 18, 22, 96, 97])] (bodyOf Try.f7) (κ0 Try.prog Try.f7 false [⟨false, .bool⟩]), CutOk tendrillaw02_MemDoes_Λ p := cutsOk (l := tendrillaw02_MemDoes_C) (n := 1) (by kernel_rfl) fun
  | 0, _ => tendrillaw02_MemDoes_d30
  | k + 1, h => absurd h (by omega)
theorem tendrillaw02_MemDoes_Λ0 (L : Nat) (vs : List SV) (bs : List Blk) : tendrillaw02_MemDoes_Λ 0 L vs bs = none := by
  unfold tendrillaw02_MemDoes_Λ
  split
  · unfold tendrillaw02_MemDoes_P30; split
    · first | rfl | (unfold tendrillaw02_MemDoes_L30; rfl)
    · rfl
  rfl
set_option maxRecDepth 100000 in
theorem tendrillaw02_MemDoes_run (K : Nat) (x : Tup [⟨false, (.sl .int)⟩, ⟨false, .int⟩, ⟨false, .int⟩, ⟨false, .int⟩]) : (pxFn Try.prog (lkΓ [(9, tendrillaw02_live_S), (10, tendrilref02_Copy_S), (13, tendrilref02_Same_S), (14, mem_Store_S), (15, mem_Load_S), (16, mem_New_S), (17, tendrilref02_New_S), (18, tendrilref02_Load_S), (19, tendrilref02_Store_S)]) [(30, [0, 9, 18, 22, 96, 97])] Try.f7 (bodyOf Try.f7) false [⟨false, .bool⟩] (encTup [⟨false, (.sl .int)⟩, ⟨false, .int⟩, ⟨false, .int⟩, ⟨false, .int⟩] x)).run (tendrillaw02_MemDoes_Λ K) = tendrillaw02_MemDoes_K K x := by kernel_rfl
theorem tendrillaw02_MemDoes_ok : SigOk Try.prog 7 tendrillaw02_MemDoes_S ∧ Bodied Try.prog 7 :=
  ⟨fn_sound (s := tendrillaw02_MemDoes_S) (T := [(30, [0, 9, 18, 22, 96, 97])]) (Λ := tendrillaw02_MemDoes_Λ) 2000000 Try.func7 (c := bodyOf Try.f7) (by kernel_rfl) (by kernel_rfl) (lkΓ_cons tendrillaw02_live_ok (lkΓ_cons tendrilref02_Copy_ok (lkΓ_cons tendrilref02_Same_ok (lkΓ_cons mem_Store_ok (lkΓ_cons mem_Load_ok (lkΓ_cons mem_New_ok (lkΓ_cons tendrilref02_New_ok (lkΓ_cons tendrilref02_Load_ok (lkΓ_cons tendrilref02_Store_ok lkΓ_nil))))))))) (by decide +kernel) (by decide +kernel) tendrillaw02_MemDoes_Λ0 tendrillaw02_MemDoes_cuts (fun x => tendrillaw02_MemDoes_run 2000000 x), bodied_of Try.func7 (by decide +kernel) (by decide +kernel)⟩

/-! tendril/tendrillaw02.MemNew -/
def tendrillaw02_MemNew (x : Int × Int) : Option (Bool) :=
  (tendrillaw02_live (())).bind fun r0 =>
  bif !r0 then
    some (Bool.false)
  else
    (mem_New (x.1)).bind fun r1 =>
    bif r1.2 != 0 then
      bif (↑(List.length r1.1) : Int) == 0 then
        bif Decidable.decide (x.1 < 0) then
          some (Bool.true)
        else
          some (Decidable.decide (4096 < x.1))
      else
        some (Bool.false)
    else
      (mem_Load ((r1.1, x.2))).bind fun r2 =>
      bif (↑(List.length r1.1) : Int) == x.1 then
        bif r2.1 == 0 then
          bif Decidable.decide (0 ≤ x.2) then
            some ((r2.2 == 0) == Decidable.decide (x.2 < x.1))
          else
            some ((r2.2 == 0) == Bool.false)
        else
          some (Bool.false)
      else
        some (Bool.false)
def tendrillaw02_MemNew_S : Sig := ⟨[⟨false, .int⟩, ⟨false, .int⟩], [⟨false, .bool⟩], false, tendrillaw02_MemNew⟩
set_option maxRecDepth 100000 in
theorem tendrillaw02_MemNew_run (x : Tup [⟨false, .int⟩, ⟨false, .int⟩]) : (pxFn Try.prog (lkΓ [(9, tendrillaw02_live_S), (15, mem_Load_S), (16, mem_New_S)]) [] Try.f8 (bodyOf Try.f8) false [⟨false, .bool⟩] (encTup [⟨false, .int⟩, ⟨false, .int⟩] x)).run (fun _ _ _ => none) = tendrillaw02_MemNew x := by kernel_rfl
theorem tendrillaw02_MemNew_cuts : ∀ p ∈ cuts Try.prog (lkΓ [(9, tendrillaw02_live_S), (15, mem_Load_S), (16, mem_New_S)]) Try.f8.ntmps [] (bodyOf Try.f8) (κ0 Try.prog Try.f8 false [⟨false, .bool⟩]), CutOk (fun _ _ _ _ => none) p := cutsNil (by kernel_rfl)
theorem tendrillaw02_MemNew_ok : SigOk Try.prog 8 tendrillaw02_MemNew_S ∧ Bodied Try.prog 8 :=
  ⟨fn_sound (s := tendrillaw02_MemNew_S) (T := []) (Λ := fun _ _ _ _ => none) 0 Try.func8 (c := bodyOf Try.f8) (by kernel_rfl) (by kernel_rfl) (lkΓ_cons tendrillaw02_live_ok (lkΓ_cons mem_Load_ok (lkΓ_cons mem_New_ok lkΓ_nil))) (by decide +kernel) (by decide +kernel) (fun _ _ _ => rfl) tendrillaw02_MemNew_cuts (fun x => tendrillaw02_MemNew_run  x), bodied_of Try.func8 (by decide +kernel) (by decide +kernel)⟩

end Go.Proofs.YtfnkomlakgiicacFn
