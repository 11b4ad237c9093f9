/- What the functions that this seat's laws reach compute, as plain functions; no condition. -/
import Derived.Test.YtkdohmgacodhjaaProg
import Derived.KernelRfl
import Derived.Test.YtkdohmgacodhjaaPx25
set_option linter.unusedVariables false
set_option linter.unusedSimpArgs false
namespace Go.Proofs.YtkdohmgacodhjaaFn
open Go Go.RowKit Go.Proofs.YtkdohmgacodhjaaPx
/-! slices.Clone of numbers: by hand over the evaluator: nil, or not. -/
def slices_Clone (x : List Int) : Option (List Int) := bif decide (0 + x.length ≤ 1000000) then some x else none
def slices_Clone_S : Sig := ⟨[⟨false, (.sl .int)⟩], [⟨false, (.sl .int)⟩], true, slices_Clone⟩
theorem slices_Clone_cuts : ∀ p ∈ cuts Try.prog (lkΓ []) Try.f30.ntmps [] (bodyOf Try.f30) (κ0 Try.prog Try.f30 true [⟨false, (.sl .int)⟩]), CutOk (fun _ _ _ _ => none) p := cutsNil (by kernel_rfl)
theorem slices_Clone_run0 (xs : List Int) : (pxFn Try.prog (lkΓ []) [] Try.f30 (bodyOf Try.f30) true [⟨false, (.sl .int)⟩] [.one (.sln false .int xs)]).run (fun _ _ _ => none) = some [] := by kernel_rfl
theorem slices_Clone_run1 (xs : List Int) : (pxFn Try.prog (lkΓ []) [] Try.f30 (bodyOf Try.f30) true [⟨false, (.sl .int)⟩] [.one (.sln true .int xs)]).run (fun _ _ _ => none) = slices_Clone xs := by kernel_rfl
theorem slices_Clone_go {S : Nat → Prop} {w : World} {v : Value} {nn : Bool} {xs r : List Int} (hd : (V1.one (.sln nn .int xs)).Den S w noρ v) (hS : ∀ b, w.heap.size ≤ b → S b)
    (hrun : (pxFn Try.prog (lkΓ []) [] Try.f30 (bodyOf Try.f30) true [⟨false, (.sl .int)⟩] [.one (.sln nn .int xs)]).run (fun _ _ _ => none) = some r) :
    Calls Try.prog 30 [v].toArray w fun e w' => ∃ v, e = .returned v ∧ Below w.heap.size w w' ∧ ∀ base, ResOk S w.heap.size w' (slices_Clone_S.out base r) v :=
  fn_calls (s := slices_Clone_S) (T := []) (Λ := fun _ _ _ _ => none) 0 Try.func30 (c := bodyOf Try.f30) (by kernel_rfl) (by kernel_rfl) lkΓ_nil (by decide +kernel) (fun _ _ _ => rfl) slices_Clone_cuts (av := [.one (.sln nn .int xs)]) (vs := [v]) (show (1 : Nat) ≤ _ by decide +kernel) hrun hS ⟨hd, trivial⟩
theorem slices_Clone_ok : SigOk Try.prog 30 slices_Clone_S ∧ Bodied Try.prog 30 := by
  refine ⟨fun S w x r vs hfn hS hvs => ?_, bodied_of Try.func30 (by decide +kernel) (by decide +kernel)⟩
  match vs, hvs with
  | [v], ⟨hd, _⟩ =>
    have hd : RI S w .int v x := hd
    obtain ⟨p, c, rfl, hc, hr⟩ := RI.shape hd
    cases hp : p.isSome with
    | true => exact slices_Clone_go (nn := true) ⟨hd, p, _, c, rfl, hp⟩ hS ((slices_Clone_run1 x).trans hfn)
    | false =>
      have hx : x = [] := by
        rcases Nat.eq_zero_or_pos (List.length x) with h | h
        · exact List.eq_nil_of_length_eq_zero h
        · obtain ⟨b, o, rfl, _⟩ := hr h
          cases hp
      refine slices_Clone_go (nn := false) (xs := x) ⟨hd, p, _, c, rfl, hp⟩ hS ((slices_Clone_run0 x).trans ?_)
      subst hx
      exact hfn
  | [], hvs => exact hvs.elim
  | _ :: _ :: _, hvs => exact hvs.2.elim


/-! tendril/place.Check -/
def place_Check (x : Int × Int × Int × Int × Int) : Option (Int) :=
  bif Decidable.decide ((if x.snd.snd.snd.2 < if x.snd.snd.snd.1 < if x.snd.snd.1 < if x.snd.1 < x.1 then x.snd.1 else x.1 then x.snd.snd.1 else if x.snd.1 < x.1 then x.snd.1 else x.1 then x.snd.snd.snd.1 else if x.snd.snd.1 < if x.snd.1 < x.1 then x.snd.1 else x.1 then x.snd.snd.1 else if x.snd.1 < x.1 then x.snd.1 else x.1 then x.snd.snd.snd.2 else if x.snd.snd.snd.1 < if x.snd.snd.1 < if x.snd.1 < x.1 then x.snd.1 else x.1 then x.snd.snd.1 else if x.snd.1 < x.1 then x.snd.1 else x.1 then x.snd.snd.snd.1 else if x.snd.snd.1 < if x.snd.1 < x.1 then x.snd.1 else x.1 then x.snd.snd.1 else if x.snd.1 < x.1 then x.snd.1 else x.1) < (1 : Int)) then
    some ((1 : Int))
  else
    bif Decidable.decide ((64 : Int) < if (if x.1 < x.snd.1 then x.snd.1 else x.1) < x.snd.snd.1 then x.snd.snd.1 else if x.1 < x.snd.1 then x.snd.1 else x.1) then
      some ((1 : Int))
    else
      bif Decidable.decide ((64 : Int) < if x.snd.snd.snd.1 < x.snd.snd.snd.2 then x.snd.snd.snd.2 else x.snd.snd.snd.1) then
        some ((1 : Int))
      else
        some ((0 : Int))
def place_Check_S : Sig := ⟨[⟨true, (.pair .int (.pair .int (.pair .int (.pair .int .int))))⟩], [⟨false, .int⟩], false, place_Check⟩
/-! math/bits.Mul32 -/
def math_bits_Mul32 (x : Int × Int) : Option (Int × Int) :=
  some ((Go.IntKind.u32.wrap ((Go.IntKind.u64.wrap (Go.IntKind.u64.wrap x.1 * Go.IntKind.u64.wrap x.2)).fdiv ((2 : Int) ^ Min.min (Int.toNat (32 : Int)) Go.IntKind.u64.bits)), Go.IntKind.u32.wrap (Go.IntKind.u64.wrap (Go.IntKind.u64.wrap x.1 * Go.IntKind.u64.wrap x.2))))
def math_bits_Mul32_S : Sig := ⟨[⟨false, (.num .u32)⟩, ⟨false, (.num .u32)⟩], [⟨false, (.num .u32)⟩, ⟨false, (.num .u32)⟩], false, math_bits_Mul32⟩
/-! math/bits.Mul64 -/
def math_bits_Mul64 (x : Int × Int) : Option (Int × Int) :=
  some ((Go.IntKind.u64.wrap (Go.IntKind.u64.wrap (Go.IntKind.u64.wrap (Int.fdiv x.1 ((2 : Int) ^ Min.min (Int.toNat (32 : Int)) Go.IntKind.u64.bits) * Int.fdiv x.2 ((2 : Int) ^ Min.min (Int.toNat (32 : Int)) Go.IntKind.u64.bits)) + (Go.IntKind.u64.wrap (Go.IntKind.u64.wrap (Int.fdiv x.1 ((2 : Int) ^ Min.min (Int.toNat (32 : Int)) Go.IntKind.u64.bits) * Go.bits Go.BinOp.and Go.IntKind.u64 x.2 (4294967295 : Int)) + (Go.IntKind.u64.wrap (Go.bits Go.BinOp.and Go.IntKind.u64 x.1 (4294967295 : Int) * Go.bits Go.BinOp.and Go.IntKind.u64 x.2 (4294967295 : Int))).fdiv ((2 : Int) ^ Min.min (Int.toNat (32 : Int)) Go.IntKind.u64.bits))).fdiv ((2 : Int) ^ Min.min (Int.toNat (32 : Int)) Go.IntKind.u64.bits)) + (Go.IntKind.u64.wrap (Go.bits Go.BinOp.and Go.IntKind.u64 (Go.IntKind.u64.wrap (Go.IntKind.u64.wrap (Int.fdiv x.1 ((2 : Int) ^ Min.min (Int.toNat (32 : Int)) Go.IntKind.u64.bits) * Go.bits Go.BinOp.and Go.IntKind.u64 x.2 (4294967295 : Int)) + (Go.IntKind.u64.wrap (Go.bits Go.BinOp.and Go.IntKind.u64 x.1 (4294967295 : Int) * Go.bits Go.BinOp.and Go.IntKind.u64 x.2 (4294967295 : Int))).fdiv ((2 : Int) ^ Min.min (Int.toNat (32 : Int)) Go.IntKind.u64.bits))) (4294967295 : Int) + Go.IntKind.u64.wrap (Go.bits Go.BinOp.and Go.IntKind.u64 x.1 (4294967295 : Int) * Int.fdiv x.2 ((2 : Int) ^ Min.min (Int.toNat (32 : Int)) Go.IntKind.u64.bits)))).fdiv ((2 : Int) ^ Min.min (Int.toNat (32 : Int)) Go.IntKind.u64.bits)), Go.IntKind.u64.wrap (x.1 * x.2)))
def math_bits_Mul64_S : Sig := ⟨[⟨false, (.num .u64)⟩, ⟨false, (.num .u64)⟩], [⟨false, (.num .u64)⟩, ⟨false, (.num .u64)⟩], false, math_bits_Mul64⟩
/-! math/bits.Mul -/
def math_bits_Mul (x : Int × Int) : Option (Int × Int) :=
  (math_bits_Mul64 ((x.1, x.2))).bind fun r0 =>
  some ((r0.1, r0.2))
def math_bits_Mul_S : Sig := ⟨[⟨false, (.num .u64)⟩, ⟨false, (.num .u64)⟩], [⟨false, (.num .u64)⟩, ⟨false, (.num .u64)⟩], false, math_bits_Mul⟩
/-! slices.Repeat[[]int,int] -/
def slices_Repeat_L18 : Nat → (Int) → (List Int) → Option (List Int)
  | 0, _, _ => none
  | k + 1, p0, p1 =>
    bif Decidable.decide (p0 < (↑p1.length : Int)) then
      bif Decidable.decide ((↑(0 : Nat) : Int) ≤ p0) then
        bif Decidable.decide (p0 ≤ (↑p1.length : Int)) then
          bif Decidable.decide ((↑(0 : Nat) : Int) ≤ p0) then
            bif Decidable.decide (p0 ≤ (↑p1.length : Int)) then
              slices_Repeat_L18 k (Go.RowKit.wrap64 (p0 + (↑(Min.min (List.drop (0 : Nat) (List.take p0.toNat p1)).length (p1.length - p0.toNat)) : Int))) (List.take p0.toNat p1 ++ List.take (Min.min (List.drop (0 : Nat) (List.take p0.toNat p1)).length (p1.length - p0.toNat)) (List.drop (0 : Nat) (List.take p0.toNat p1)) ++ List.drop (p0.toNat + Min.min (List.drop (0 : Nat) (List.take p0.toNat p1)).length (p1.length - p0.toNat)) p1)
            else
              none
          else
            none
        else
          none
      else
        none
    else
      some (p1)
def slices_Repeat_K (K : Nat) (x : List Int × Int) : Option (List Int) :=
  bif Decidable.decide (x.2 < (0 : Int)) then
    none
  else
    (math_bits_Mul ((Go.IntKind.u64.wrap (↑(List.length x.1) : Int), Go.IntKind.u64.wrap x.2))).bind fun r0 =>
    bif Decidable.decide ((0 : Int) < r0.1) then
      none
    else
      bif Decidable.decide ((9223372036854775807 : Int) < r0.2) then
        none
      else
        bif Decidable.decide ((0 : Int) ≤ Go.RowKit.wrap64 r0.2) then
          bif Decidable.decide (Go.RowKit.wrap64 r0.2 ≤ (1000000 : Int)) then
            slices_Repeat_L18 K ((↑(Min.min (List.length x.1) (List.replicate (Go.RowKit.wrap64 r0.2).toNat (0 : Int)).length) : Int)) (List.take (Min.min (List.length x.1) (List.replicate (Go.RowKit.wrap64 r0.2).toNat (0 : Int)).length) x.1 ++ List.drop ((0 : Nat) + Min.min (List.length x.1) (List.replicate (Go.RowKit.wrap64 r0.2).toNat (0 : Int)).length) (List.replicate (Go.RowKit.wrap64 r0.2).toNat (0 : Int)))
          else
            none
        else
          none
def slices_Repeat (x : (List Int) × Int) : Option ((List Int)) := slices_Repeat_K 2000000 x
def slices_Repeat_S : Sig := ⟨[⟨false, (.sl .int)⟩, ⟨false, .int⟩], [⟨false, (.sl .int)⟩], true, slices_Repeat⟩
/-! tendril/era.New -/
def era_New (x : Int) : Option ((Int × List Int) × Int) :=
  bif Decidable.decide (x < (1 : Int)) then
    some ((((0 : Int), []), (1 : Int)))
  else
    bif Decidable.decide ((64 : Int) < x) then
      some ((((0 : Int), []), (1 : Int)))
    else
      (slices_Repeat (([(-1 : Int)], x))).bind fun r0 =>
      some ((((0 : Int), r0), (0 : Int)))
def era_New_S : Sig := ⟨[⟨false, .int⟩], [⟨true, (.pair .int (.sl .int))⟩, ⟨false, .int⟩], true, era_New⟩
/-! tendril/pool.New -/
def pool_New_L12 : Nat → (Int) → (Int) → (List Int) → (List Int) → (List Int) → (List Int) → Option ((List Int × List Int × List Int × List Int) × Int)
  | 0, _, _, _, _, _, _ => none
  | k + 1, p0, p1, p2, p3, p4, p5 =>
    bif Decidable.decide (p1 < p0) then
      bif Decidable.decide ((0 : Int) ≤ p1) then
        bif Decidable.decide (p1 < (↑p5.length : Int)) then
          pool_New_L12 k (p0) (Go.RowKit.wrap64 (p1 + (1 : Int))) (p2) (p3) (p4) (p5.set p1.toNat p1)
        else
          none
      else
        none
    else
      some (((p2, p3, p4, p5), (0 : Int)))
def pool_New_K (K : Nat) (x : Int) : Option ((List Int × List Int × List Int × List Int) × Int) :=
  bif Decidable.decide (x < (1 : Int)) then
    some ((([], [], [], []), (1 : Int)))
  else
    bif Decidable.decide ((64 : Int) < x) then
      some ((([], [], [], []), (1 : Int)))
    else
      bif Decidable.decide ((0 : Int) ≤ x) then
        bif Decidable.decide (x ≤ (1000000 : Int)) then
          bif Decidable.decide ((0 : Int) ≤ x) then
            bif Decidable.decide (x ≤ (1000000 : Int)) then
              bif Decidable.decide ((0 : Int) ≤ x) then
                bif Decidable.decide (x ≤ (1000000 : Int)) then
                  bif Decidable.decide ((0 : Int) ≤ x) then
                    bif Decidable.decide (x ≤ (1000000 : Int)) then
                      pool_New_L12 K ((↑(List.replicate (Int.toNat x) (0 : Int)).length : Int)) ((0 : Int)) (List.replicate (Int.toNat x) (0 : Int)) (List.replicate (Int.toNat x) (0 : Int)) (List.replicate (Int.toNat x) (0 : Int)) (List.replicate (Int.toNat x) (0 : Int))
                    else
                      none
                  else
                    none
                else
                  none
              else
                none
            else
              none
          else
            none
        else
          none
      else
        none
def pool_New (x : Int) : Option (((List Int) × ((List Int) × ((List Int) × (List Int)))) × Int) := pool_New_K 2000000 x
def pool_New_S : Sig := ⟨[⟨false, .int⟩], [⟨true, (.pair (.sl .int) (.pair (.sl .int) (.pair (.sl .int) (.sl .int))))⟩, ⟨false, .int⟩], true, pool_New⟩
/-! tendril/arena.New -/
mutual
def arena_New_L20 : Nat → (Int) → (Int) → (Int) → (Int) → (Int) → (Int) → (List Int) → Option ((List Int × List Int × ((List Int × List Int × List Int × List Int) × (List Int × List Int × List Int × List Int) × List Int × List Int × List Int × List Int) × Int × List Int) × Int)
  | 0, _, _, _, _, _, _, _ => none
  | k + 1, p0, p1, p2, p3, p4, p5, p6 =>
    bif Decidable.decide (p3 < (3 : Int)) then
      bif Decidable.decide (p3 = (↑(nat_lit 2) : Int)) then
        (pool_New (p2)).bind fun r2 =>
        bif Decidable.decide (p3 = (↑(nat_lit 2) : Int)) then
          bif r2.2 != (0 : Int) then
            some ((([], [], (([], [], [], []), ([], [], [], []), [], [], [], []), (0 : Int), []), r2.2))
          else
            arena_New_L20x1 k (p0) (p1) (p2) (Go.RowKit.wrap64 (p3 + (1 : Int))) (p4) (p5) (r2.fst.1) (r2.fst.snd.1) (r2.fst.snd.snd.1) (r2.fst.snd.snd.2) (p6)
        else
          bif Decidable.decide (p3 = (↑(nat_lit 1) : Int)) then
            bif r2.2 != (0 : Int) then
              some ((([], [], (([], [], [], []), ([], [], [], []), [], [], [], []), (0 : Int), []), r2.2))
            else
              arena_New_L20x2 k (p0) (p1) (p2) (Go.RowKit.wrap64 (p3 + (1 : Int))) (p4) (p5) (r2.fst.1) (r2.fst.snd.1) (r2.fst.snd.snd.1) (r2.fst.snd.snd.2) (p6)
          else
            bif Decidable.decide (p3 = (↑(nat_lit 0) : Int)) then
              bif r2.2 != (0 : Int) then
                some ((([], [], (([], [], [], []), ([], [], [], []), [], [], [], []), (0 : Int), []), r2.2))
              else
                arena_New_L20x3 k (p0) (p1) (p2) (Go.RowKit.wrap64 (p3 + (1 : Int))) (p4) (p5) (r2.fst.1) (r2.fst.snd.1) (r2.fst.snd.snd.1) (r2.fst.snd.snd.2) (p6)
            else
              none
      else
        bif Decidable.decide (p3 = (↑(nat_lit 1) : Int)) then
          (pool_New (p1)).bind fun r3 =>
          bif Decidable.decide (p3 = (↑(nat_lit 2) : Int)) then
            bif r3.2 != (0 : Int) then
              some ((([], [], (([], [], [], []), ([], [], [], []), [], [], [], []), (0 : Int), []), r3.2))
            else
              arena_New_L20x1 k (p0) (p1) (p2) (Go.RowKit.wrap64 (p3 + (1 : Int))) (p4) (p5) (r3.fst.1) (r3.fst.snd.1) (r3.fst.snd.snd.1) (r3.fst.snd.snd.2) (p6)
          else
            bif Decidable.decide (p3 = (↑(nat_lit 1) : Int)) then
              bif r3.2 != (0 : Int) then
                some ((([], [], (([], [], [], []), ([], [], [], []), [], [], [], []), (0 : Int), []), r3.2))
              else
                arena_New_L20x2 k (p0) (p1) (p2) (Go.RowKit.wrap64 (p3 + (1 : Int))) (p4) (p5) (r3.fst.1) (r3.fst.snd.1) (r3.fst.snd.snd.1) (r3.fst.snd.snd.2) (p6)
            else
              bif Decidable.decide (p3 = (↑(nat_lit 0) : Int)) then
                bif r3.2 != (0 : Int) then
                  some ((([], [], (([], [], [], []), ([], [], [], []), [], [], [], []), (0 : Int), []), r3.2))
                else
                  arena_New_L20x3 k (p0) (p1) (p2) (Go.RowKit.wrap64 (p3 + (1 : Int))) (p4) (p5) (r3.fst.1) (r3.fst.snd.1) (r3.fst.snd.snd.1) (r3.fst.snd.snd.2) (p6)
              else
                none
        else
          bif Decidable.decide (p3 = (↑(nat_lit 0) : Int)) then
            (pool_New (p0)).bind fun r4 =>
            bif Decidable.decide (p3 = (↑(nat_lit 2) : Int)) then
              bif r4.2 != (0 : Int) then
                some ((([], [], (([], [], [], []), ([], [], [], []), [], [], [], []), (0 : Int), []), r4.2))
              else
                arena_New_L20x1 k (p0) (p1) (p2) (Go.RowKit.wrap64 (p3 + (1 : Int))) (p4) (p5) (r4.fst.1) (r4.fst.snd.1) (r4.fst.snd.snd.1) (r4.fst.snd.snd.2) (p6)
            else
              bif Decidable.decide (p3 = (↑(nat_lit 1) : Int)) then
                bif r4.2 != (0 : Int) then
                  some ((([], [], (([], [], [], []), ([], [], [], []), [], [], [], []), (0 : Int), []), r4.2))
                else
                  arena_New_L20x2 k (p0) (p1) (p2) (Go.RowKit.wrap64 (p3 + (1 : Int))) (p4) (p5) (r4.fst.1) (r4.fst.snd.1) (r4.fst.snd.snd.1) (r4.fst.snd.snd.2) (p6)
              else
                bif Decidable.decide (p3 = (↑(nat_lit 0) : Int)) then
                  bif r4.2 != (0 : Int) then
                    some ((([], [], (([], [], [], []), ([], [], [], []), [], [], [], []), (0 : Int), []), r4.2))
                  else
                    arena_New_L20x3 k (p0) (p1) (p2) (Go.RowKit.wrap64 (p3 + (1 : Int))) (p4) (p5) (r4.fst.1) (r4.fst.snd.1) (r4.fst.snd.snd.1) (r4.fst.snd.snd.2) (p6)
                else
                  none
          else
            none
    else
      some ((([], [], (([], [], [], []), ([], [], [], []), [], [], [], []), p5, p6), (0 : Int)))
def arena_New_L20x1 : Nat → (Int) → (Int) → (Int) → (Int) → (Int) → (Int) → (List Int) → (List Int) → (List Int) → (List Int) → (List Int) → Option ((List Int × List Int × ((List Int × List Int × List Int × List Int) × (List Int × List Int × List Int × List Int) × List Int × List Int × List Int × List Int) × Int × List Int) × Int)
  | 0, _, _, _, _, _, _, _, _, _, _, _ => none
  | k + 1, p0, p1, p2, p3, p4, p5, p6, p7, p8, p9, p10 =>
    bif Decidable.decide (p3 < (3 : Int)) then
      bif Decidable.decide (p3 = (↑(nat_lit 2) : Int)) then
        (pool_New (p2)).bind fun r5 =>
        bif Decidable.decide (p3 = (↑(nat_lit 2) : Int)) then
          bif r5.2 != (0 : Int) then
            some ((([], [], (([], [], [], []), ([], [], [], []), [], [], [], []), (0 : Int), []), r5.2))
          else
            arena_New_L20x1 k (p0) (p1) (p2) (Go.RowKit.wrap64 (p3 + (1 : Int))) (p4) (p5) (r5.fst.1) (r5.fst.snd.1) (r5.fst.snd.snd.1) (r5.fst.snd.snd.2) (p10)
        else
          bif Decidable.decide (p3 = (↑(nat_lit 1) : Int)) then
            bif r5.2 != (0 : Int) then
              some ((([], [], (([], [], [], []), ([], [], [], []), [], [], [], []), (0 : Int), []), r5.2))
            else
              arena_New_L20x4 k (p0) (p1) (p2) (Go.RowKit.wrap64 (p3 + (1 : Int))) (p4) (p5) (r5.fst.1) (r5.fst.snd.1) (r5.fst.snd.snd.1) (r5.fst.snd.snd.2) (p6) (p7) (p8) (p9) (p10)
          else
            bif Decidable.decide (p3 = (↑(nat_lit 0) : Int)) then
              bif r5.2 != (0 : Int) then
                some ((([], [], (([], [], [], []), ([], [], [], []), [], [], [], []), (0 : Int), []), r5.2))
              else
                arena_New_L20x5 k (p0) (p1) (p2) (Go.RowKit.wrap64 (p3 + (1 : Int))) (p4) (p5) (r5.fst.1) (r5.fst.snd.1) (r5.fst.snd.snd.1) (r5.fst.snd.snd.2) (p6) (p7) (p8) (p9) (p10)
            else
              none
      else
        bif Decidable.decide (p3 = (↑(nat_lit 1) : Int)) then
          (pool_New (p1)).bind fun r6 =>
          bif Decidable.decide (p3 = (↑(nat_lit 2) : Int)) then
            bif r6.2 != (0 : Int) then
              some ((([], [], (([], [], [], []), ([], [], [], []), [], [], [], []), (0 : Int), []), r6.2))
            else
              arena_New_L20x1 k (p0) (p1) (p2) (Go.RowKit.wrap64 (p3 + (1 : Int))) (p4) (p5) (r6.fst.1) (r6.fst.snd.1) (r6.fst.snd.snd.1) (r6.fst.snd.snd.2) (p10)
          else
            bif Decidable.decide (p3 = (↑(nat_lit 1) : Int)) then
              bif r6.2 != (0 : Int) then
                some ((([], [], (([], [], [], []), ([], [], [], []), [], [], [], []), (0 : Int), []), r6.2))
              else
                arena_New_L20x4 k (p0) (p1) (p2) (Go.RowKit.wrap64 (p3 + (1 : Int))) (p4) (p5) (r6.fst.1) (r6.fst.snd.1) (r6.fst.snd.snd.1) (r6.fst.snd.snd.2) (p6) (p7) (p8) (p9) (p10)
            else
              bif Decidable.decide (p3 = (↑(nat_lit 0) : Int)) then
                bif r6.2 != (0 : Int) then
                  some ((([], [], (([], [], [], []), ([], [], [], []), [], [], [], []), (0 : Int), []), r6.2))
                else
                  arena_New_L20x5 k (p0) (p1) (p2) (Go.RowKit.wrap64 (p3 + (1 : Int))) (p4) (p5) (r6.fst.1) (r6.fst.snd.1) (r6.fst.snd.snd.1) (r6.fst.snd.snd.2) (p6) (p7) (p8) (p9) (p10)
              else
                none
        else
          bif Decidable.decide (p3 = (↑(nat_lit 0) : Int)) then
            (pool_New (p0)).bind fun r7 =>
            bif Decidable.decide (p3 = (↑(nat_lit 2) : Int)) then
              bif r7.2 != (0 : Int) then
                some ((([], [], (([], [], [], []), ([], [], [], []), [], [], [], []), (0 : Int), []), r7.2))
              else
                arena_New_L20x1 k (p0) (p1) (p2) (Go.RowKit.wrap64 (p3 + (1 : Int))) (p4) (p5) (r7.fst.1) (r7.fst.snd.1) (r7.fst.snd.snd.1) (r7.fst.snd.snd.2) (p10)
            else
              bif Decidable.decide (p3 = (↑(nat_lit 1) : Int)) then
                bif r7.2 != (0 : Int) then
                  some ((([], [], (([], [], [], []), ([], [], [], []), [], [], [], []), (0 : Int), []), r7.2))
                else
                  arena_New_L20x4 k (p0) (p1) (p2) (Go.RowKit.wrap64 (p3 + (1 : Int))) (p4) (p5) (r7.fst.1) (r7.fst.snd.1) (r7.fst.snd.snd.1) (r7.fst.snd.snd.2) (p6) (p7) (p8) (p9) (p10)
              else
                bif Decidable.decide (p3 = (↑(nat_lit 0) : Int)) then
                  bif r7.2 != (0 : Int) then
                    some ((([], [], (([], [], [], []), ([], [], [], []), [], [], [], []), (0 : Int), []), r7.2))
                  else
                    arena_New_L20x5 k (p0) (p1) (p2) (Go.RowKit.wrap64 (p3 + (1 : Int))) (p4) (p5) (r7.fst.1) (r7.fst.snd.1) (r7.fst.snd.snd.1) (r7.fst.snd.snd.2) (p6) (p7) (p8) (p9) (p10)
                else
                  none
          else
            none
    else
      some ((([], [], (([], [], [], []), ([], [], [], []), p6, p7, p8, p9), p5, p10), (0 : Int)))
def arena_New_L20x2 : Nat → (Int) → (Int) → (Int) → (Int) → (Int) → (Int) → (List Int) → (List Int) → (List Int) → (List Int) → (List Int) → Option ((List Int × List Int × ((List Int × List Int × List Int × List Int) × (List Int × List Int × List Int × List Int) × List Int × List Int × List Int × List Int) × Int × List Int) × Int)
  | 0, _, _, _, _, _, _, _, _, _, _, _ => none
  | k + 1, p0, p1, p2, p3, p4, p5, p6, p7, p8, p9, p10 =>
    bif Decidable.decide (p3 < (3 : Int)) then
      bif Decidable.decide (p3 = (↑(nat_lit 2) : Int)) then
        (pool_New (p2)).bind fun r8 =>
        bif Decidable.decide (p3 = (↑(nat_lit 2) : Int)) then
          bif r8.2 != (0 : Int) then
            some ((([], [], (([], [], [], []), ([], [], [], []), [], [], [], []), (0 : Int), []), r8.2))
          else
            arena_New_L20x4 k (p0) (p1) (p2) (Go.RowKit.wrap64 (p3 + (1 : Int))) (p4) (p5) (p6) (p7) (p8) (p9) (r8.fst.1) (r8.fst.snd.1) (r8.fst.snd.snd.1) (r8.fst.snd.snd.2) (p10)
        else
          bif Decidable.decide (p3 = (↑(nat_lit 1) : Int)) then
            bif r8.2 != (0 : Int) then
              some ((([], [], (([], [], [], []), ([], [], [], []), [], [], [], []), (0 : Int), []), r8.2))
            else
              arena_New_L20x2 k (p0) (p1) (p2) (Go.RowKit.wrap64 (p3 + (1 : Int))) (p4) (p5) (r8.fst.1) (r8.fst.snd.1) (r8.fst.snd.snd.1) (r8.fst.snd.snd.2) (p10)
          else
            bif Decidable.decide (p3 = (↑(nat_lit 0) : Int)) then
              bif r8.2 != (0 : Int) then
                some ((([], [], (([], [], [], []), ([], [], [], []), [], [], [], []), (0 : Int), []), r8.2))
              else
                arena_New_L20x6 k (p0) (p1) (p2) (Go.RowKit.wrap64 (p3 + (1 : Int))) (p4) (p5) (r8.fst.1) (r8.fst.snd.1) (r8.fst.snd.snd.1) (r8.fst.snd.snd.2) (p6) (p7) (p8) (p9) (p10)
            else
              none
      else
        bif Decidable.decide (p3 = (↑(nat_lit 1) : Int)) then
          (pool_New (p1)).bind fun r9 =>
          bif Decidable.decide (p3 = (↑(nat_lit 2) : Int)) then
            bif r9.2 != (0 : Int) then
              some ((([], [], (([], [], [], []), ([], [], [], []), [], [], [], []), (0 : Int), []), r9.2))
            else
              arena_New_L20x4 k (p0) (p1) (p2) (Go.RowKit.wrap64 (p3 + (1 : Int))) (p4) (p5) (p6) (p7) (p8) (p9) (r9.fst.1) (r9.fst.snd.1) (r9.fst.snd.snd.1) (r9.fst.snd.snd.2) (p10)
          else
            bif Decidable.decide (p3 = (↑(nat_lit 1) : Int)) then
              bif r9.2 != (0 : Int) then
                some ((([], [], (([], [], [], []), ([], [], [], []), [], [], [], []), (0 : Int), []), r9.2))
              else
                arena_New_L20x2 k (p0) (p1) (p2) (Go.RowKit.wrap64 (p3 + (1 : Int))) (p4) (p5) (r9.fst.1) (r9.fst.snd.1) (r9.fst.snd.snd.1) (r9.fst.snd.snd.2) (p10)
            else
              bif Decidable.decide (p3 = (↑(nat_lit 0) : Int)) then
                bif r9.2 != (0 : Int) then
                  some ((([], [], (([], [], [], []), ([], [], [], []), [], [], [], []), (0 : Int), []), r9.2))
                else
                  arena_New_L20x6 k (p0) (p1) (p2) (Go.RowKit.wrap64 (p3 + (1 : Int))) (p4) (p5) (r9.fst.1) (r9.fst.snd.1) (r9.fst.snd.snd.1) (r9.fst.snd.snd.2) (p6) (p7) (p8) (p9) (p10)
              else
                none
        else
          bif Decidable.decide (p3 = (↑(nat_lit 0) : Int)) then
            (pool_New (p0)).bind fun r10 =>
            bif Decidable.decide (p3 = (↑(nat_lit 2) : Int)) then
              bif r10.2 != (0 : Int) then
                some ((([], [], (([], [], [], []), ([], [], [], []), [], [], [], []), (0 : Int), []), r10.2))
              else
                arena_New_L20x4 k (p0) (p1) (p2) (Go.RowKit.wrap64 (p3 + (1 : Int))) (p4) (p5) (p6) (p7) (p8) (p9) (r10.fst.1) (r10.fst.snd.1) (r10.fst.snd.snd.1) (r10.fst.snd.snd.2) (p10)
            else
              bif Decidable.decide (p3 = (↑(nat_lit 1) : Int)) then
                bif r10.2 != (0 : Int) then
                  some ((([], [], (([], [], [], []), ([], [], [], []), [], [], [], []), (0 : Int), []), r10.2))
                else
                  arena_New_L20x2 k (p0) (p1) (p2) (Go.RowKit.wrap64 (p3 + (1 : Int))) (p4) (p5) (r10.fst.1) (r10.fst.snd.1) (r10.fst.snd.snd.1) (r10.fst.snd.snd.2) (p10)
              else
                bif Decidable.decide (p3 = (↑(nat_lit 0) : Int)) then
                  bif r10.2 != (0 : Int) then
                    some ((([], [], (([], [], [], []), ([], [], [], []), [], [], [], []), (0 : Int), []), r10.2))
                  else
                    arena_New_L20x6 k (p0) (p1) (p2) (Go.RowKit.wrap64 (p3 + (1 : Int))) (p4) (p5) (r10.fst.1) (r10.fst.snd.1) (r10.fst.snd.snd.1) (r10.fst.snd.snd.2) (p6) (p7) (p8) (p9) (p10)
                else
                  none
          else
            none
    else
      some ((([], [], (([], [], [], []), (p6, p7, p8, p9), [], [], [], []), p5, p10), (0 : Int)))
def arena_New_L20x3 : Nat → (Int) → (Int) → (Int) → (Int) → (Int) → (Int) → (List Int) → (List Int) → (List Int) → (List Int) → (List Int) → Option ((List Int × List Int × ((List Int × List Int × List Int × List Int) × (List Int × List Int × List Int × List Int) × List Int × List Int × List Int × List Int) × Int × List Int) × Int)
  | 0, _, _, _, _, _, _, _, _, _, _, _ => none
  | k + 1, p0, p1, p2, p3, p4, p5, p6, p7, p8, p9, p10 =>
    bif Decidable.decide (p3 < (3 : Int)) then
      bif Decidable.decide (p3 = (↑(nat_lit 2) : Int)) then
        (pool_New (p2)).bind fun r11 =>
        bif Decidable.decide (p3 = (↑(nat_lit 2) : Int)) then
          bif r11.2 != (0 : Int) then
            some ((([], [], (([], [], [], []), ([], [], [], []), [], [], [], []), (0 : Int), []), r11.2))
          else
            arena_New_L20x5 k (p0) (p1) (p2) (Go.RowKit.wrap64 (p3 + (1 : Int))) (p4) (p5) (p6) (p7) (p8) (p9) (r11.fst.1) (r11.fst.snd.1) (r11.fst.snd.snd.1) (r11.fst.snd.snd.2) (p10)
        else
          bif Decidable.decide (p3 = (↑(nat_lit 1) : Int)) then
            bif r11.2 != (0 : Int) then
              some ((([], [], (([], [], [], []), ([], [], [], []), [], [], [], []), (0 : Int), []), r11.2))
            else
              arena_New_L20x6 k (p0) (p1) (p2) (Go.RowKit.wrap64 (p3 + (1 : Int))) (p4) (p5) (p6) (p7) (p8) (p9) (r11.fst.1) (r11.fst.snd.1) (r11.fst.snd.snd.1) (r11.fst.snd.snd.2) (p10)
          else
            bif Decidable.decide (p3 = (↑(nat_lit 0) : Int)) then
              bif r11.2 != (0 : Int) then
                some ((([], [], (([], [], [], []), ([], [], [], []), [], [], [], []), (0 : Int), []), r11.2))
              else
                arena_New_L20x3 k (p0) (p1) (p2) (Go.RowKit.wrap64 (p3 + (1 : Int))) (p4) (p5) (r11.fst.1) (r11.fst.snd.1) (r11.fst.snd.snd.1) (r11.fst.snd.snd.2) (p10)
            else
              none
      else
        bif Decidable.decide (p3 = (↑(nat_lit 1) : Int)) then
          (pool_New (p1)).bind fun r12 =>
          bif Decidable.decide (p3 = (↑(nat_lit 2) : Int)) then
            bif r12.2 != (0 : Int) then
              some ((([], [], (([], [], [], []), ([], [], [], []), [], [], [], []), (0 : Int), []), r12.2))
            else
              arena_New_L20x5 k (p0) (p1) (p2) (Go.RowKit.wrap64 (p3 + (1 : Int))) (p4) (p5) (p6) (p7) (p8) (p9) (r12.fst.1) (r12.fst.snd.1) (r12.fst.snd.snd.1) (r12.fst.snd.snd.2) (p10)
          else
            bif Decidable.decide (p3 = (↑(nat_lit 1) : Int)) then
              bif r12.2 != (0 : Int) then
                some ((([], [], (([], [], [], []), ([], [], [], []), [], [], [], []), (0 : Int), []), r12.2))
              else
                arena_New_L20x6 k (p0) (p1) (p2) (Go.RowKit.wrap64 (p3 + (1 : Int))) (p4) (p5) (p6) (p7) (p8) (p9) (r12.fst.1) (r12.fst.snd.1) (r12.fst.snd.snd.1) (r12.fst.snd.snd.2) (p10)
            else
              bif Decidable.decide (p3 = (↑(nat_lit 0) : Int)) then
                bif r12.2 != (0 : Int) then
                  some ((([], [], (([], [], [], []), ([], [], [], []), [], [], [], []), (0 : Int), []), r12.2))
                else
                  arena_New_L20x3 k (p0) (p1) (p2) (Go.RowKit.wrap64 (p3 + (1 : Int))) (p4) (p5) (r12.fst.1) (r12.fst.snd.1) (r12.fst.snd.snd.1) (r12.fst.snd.snd.2) (p10)
              else
                none
        else
          bif Decidable.decide (p3 = (↑(nat_lit 0) : Int)) then
            (pool_New (p0)).bind fun r13 =>
            bif Decidable.decide (p3 = (↑(nat_lit 2) : Int)) then
              bif r13.2 != (0 : Int) then
                some ((([], [], (([], [], [], []), ([], [], [], []), [], [], [], []), (0 : Int), []), r13.2))
              else
                arena_New_L20x5 k (p0) (p1) (p2) (Go.RowKit.wrap64 (p3 + (1 : Int))) (p4) (p5) (p6) (p7) (p8) (p9) (r13.fst.1) (r13.fst.snd.1) (r13.fst.snd.snd.1) (r13.fst.snd.snd.2) (p10)
            else
              bif Decidable.decide (p3 = (↑(nat_lit 1) : Int)) then
                bif r13.2 != (0 : Int) then
                  some ((([], [], (([], [], [], []), ([], [], [], []), [], [], [], []), (0 : Int), []), r13.2))
                else
                  arena_New_L20x6 k (p0) (p1) (p2) (Go.RowKit.wrap64 (p3 + (1 : Int))) (p4) (p5) (p6) (p7) (p8) (p9) (r13.fst.1) (r13.fst.snd.1) (r13.fst.snd.snd.1) (r13.fst.snd.snd.2) (p10)
              else
                bif Decidable.decide (p3 = (↑(nat_lit 0) : Int)) then
                  bif r13.2 != (0 : Int) then
                    some ((([], [], (([], [], [], []), ([], [], [], []), [], [], [], []), (0 : Int), []), r13.2))
                  else
                    arena_New_L20x3 k (p0) (p1) (p2) (Go.RowKit.wrap64 (p3 + (1 : Int))) (p4) (p5) (r13.fst.1) (r13.fst.snd.1) (r13.fst.snd.snd.1) (r13.fst.snd.snd.2) (p10)
                else
                  none
          else
            none
    else
      some ((([], [], ((p6, p7, p8, p9), ([], [], [], []), [], [], [], []), p5, p10), (0 : Int)))
def arena_New_L20x4 : Nat → (Int) → (Int) → (Int) → (Int) → (Int) → (Int) → (List Int) → (List Int) → (List Int) → (List Int) → (List Int) → (List Int) → (List Int) → (List Int) → (List Int) → Option ((List Int × List Int × ((List Int × List Int × List Int × List Int) × (List Int × List Int × List Int × List Int) × List Int × List Int × List Int × List Int) × Int × List Int) × Int)
  | 0, _, _, _, _, _, _, _, _, _, _, _, _, _, _, _ => none
  | k + 1, p0, p1, p2, p3, p4, p5, p6, p7, p8, p9, p10, p11, p12, p13, p14 =>
    bif Decidable.decide (p3 < (3 : Int)) then
      bif Decidable.decide (p3 = (↑(nat_lit 2) : Int)) then
        (pool_New (p2)).bind fun r14 =>
        bif Decidable.decide (p3 = (↑(nat_lit 2) : Int)) then
          bif r14.2 != (0 : Int) then
            some ((([], [], (([], [], [], []), ([], [], [], []), [], [], [], []), (0 : Int), []), r14.2))
          else
            arena_New_L20x4 k (p0) (p1) (p2) (Go.RowKit.wrap64 (p3 + (1 : Int))) (p4) (p5) (p6) (p7) (p8) (p9) (r14.fst.1) (r14.fst.snd.1) (r14.fst.snd.snd.1) (r14.fst.snd.snd.2) (p14)
        else
          bif Decidable.decide (p3 = (↑(nat_lit 1) : Int)) then
            bif r14.2 != (0 : Int) then
              some ((([], [], (([], [], [], []), ([], [], [], []), [], [], [], []), (0 : Int), []), r14.2))
            else
              arena_New_L20x4 k (p0) (p1) (p2) (Go.RowKit.wrap64 (p3 + (1 : Int))) (p4) (p5) (r14.fst.1) (r14.fst.snd.1) (r14.fst.snd.snd.1) (r14.fst.snd.snd.2) (p10) (p11) (p12) (p13) (p14)
          else
            bif Decidable.decide (p3 = (↑(nat_lit 0) : Int)) then
              bif r14.2 != (0 : Int) then
                some ((([], [], (([], [], [], []), ([], [], [], []), [], [], [], []), (0 : Int), []), r14.2))
              else
                arena_New_L20x7 k (p0) (p1) (p2) (Go.RowKit.wrap64 (p3 + (1 : Int))) (p4) (p5) (r14.fst.1) (r14.fst.snd.1) (r14.fst.snd.snd.1) (r14.fst.snd.snd.2) (p6) (p7) (p8) (p9) (p10) (p11) (p12) (p13) (p14)
            else
              none
      else
        bif Decidable.decide (p3 = (↑(nat_lit 1) : Int)) then
          (pool_New (p1)).bind fun r15 =>
          bif Decidable.decide (p3 = (↑(nat_lit 2) : Int)) then
            bif r15.2 != (0 : Int) then
              some ((([], [], (([], [], [], []), ([], [], [], []), [], [], [], []), (0 : Int), []), r15.2))
            else
              arena_New_L20x4 k (p0) (p1) (p2) (Go.RowKit.wrap64 (p3 + (1 : Int))) (p4) (p5) (p6) (p7) (p8) (p9) (r15.fst.1) (r15.fst.snd.1) (r15.fst.snd.snd.1) (r15.fst.snd.snd.2) (p14)
          else
            bif Decidable.decide (p3 = (↑(nat_lit 1) : Int)) then
              bif r15.2 != (0 : Int) then
                some ((([], [], (([], [], [], []), ([], [], [], []), [], [], [], []), (0 : Int), []), r15.2))
              else
                arena_New_L20x4 k (p0) (p1) (p2) (Go.RowKit.wrap64 (p3 + (1 : Int))) (p4) (p5) (r15.fst.1) (r15.fst.snd.1) (r15.fst.snd.snd.1) (r15.fst.snd.snd.2) (p10) (p11) (p12) (p13) (p14)
            else
              bif Decidable.decide (p3 = (↑(nat_lit 0) : Int)) then
                bif r15.2 != (0 : Int) then
                  some ((([], [], (([], [], [], []), ([], [], [], []), [], [], [], []), (0 : Int), []), r15.2))
                else
                  arena_New_L20x7 k (p0) (p1) (p2) (Go.RowKit.wrap64 (p3 + (1 : Int))) (p4) (p5) (r15.fst.1) (r15.fst.snd.1) (r15.fst.snd.snd.1) (r15.fst.snd.snd.2) (p6) (p7) (p8) (p9) (p10) (p11) (p12) (p13) (p14)
              else
                none
        else
          bif Decidable.decide (p3 = (↑(nat_lit 0) : Int)) then
            (pool_New (p0)).bind fun r16 =>
            bif Decidable.decide (p3 = (↑(nat_lit 2) : Int)) then
              bif r16.2 != (0 : Int) then
                some ((([], [], (([], [], [], []), ([], [], [], []), [], [], [], []), (0 : Int), []), r16.2))
              else
                arena_New_L20x4 k (p0) (p1) (p2) (Go.RowKit.wrap64 (p3 + (1 : Int))) (p4) (p5) (p6) (p7) (p8) (p9) (r16.fst.1) (r16.fst.snd.1) (r16.fst.snd.snd.1) (r16.fst.snd.snd.2) (p14)
            else
              bif Decidable.decide (p3 = (↑(nat_lit 1) : Int)) then
                bif r16.2 != (0 : Int) then
                  some ((([], [], (([], [], [], []), ([], [], [], []), [], [], [], []), (0 : Int), []), r16.2))
                else
                  arena_New_L20x4 k (p0) (p1) (p2) (Go.RowKit.wrap64 (p3 + (1 : Int))) (p4) (p5) (r16.fst.1) (r16.fst.snd.1) (r16.fst.snd.snd.1) (r16.fst.snd.snd.2) (p10) (p11) (p12) (p13) (p14)
              else
                bif Decidable.decide (p3 = (↑(nat_lit 0) : Int)) then
                  bif r16.2 != (0 : Int) then
                    some ((([], [], (([], [], [], []), ([], [], [], []), [], [], [], []), (0 : Int), []), r16.2))
                  else
                    arena_New_L20x7 k (p0) (p1) (p2) (Go.RowKit.wrap64 (p3 + (1 : Int))) (p4) (p5) (r16.fst.1) (r16.fst.snd.1) (r16.fst.snd.snd.1) (r16.fst.snd.snd.2) (p6) (p7) (p8) (p9) (p10) (p11) (p12) (p13) (p14)
                else
                  none
          else
            none
    else
      some ((([], [], (([], [], [], []), (p6, p7, p8, p9), p10, p11, p12, p13), p5, p14), (0 : Int)))
def arena_New_L20x5 : Nat → (Int) → (Int) → (Int) → (Int) → (Int) → (Int) → (List Int) → (List Int) → (List Int) → (List Int) → (List Int) → (List Int) → (List Int) → (List Int) → (List Int) → Option ((List Int × List Int × ((List Int × List Int × List Int × List Int) × (List Int × List Int × List Int × List Int) × List Int × List Int × List Int × List Int) × Int × List Int) × Int)
  | 0, _, _, _, _, _, _, _, _, _, _, _, _, _, _, _ => none
  | k + 1, p0, p1, p2, p3, p4, p5, p6, p7, p8, p9, p10, p11, p12, p13, p14 =>
    bif Decidable.decide (p3 < (3 : Int)) then
      bif Decidable.decide (p3 = (↑(nat_lit 2) : Int)) then
        (pool_New (p2)).bind fun r17 =>
        bif Decidable.decide (p3 = (↑(nat_lit 2) : Int)) then
          bif r17.2 != (0 : Int) then
            some ((([], [], (([], [], [], []), ([], [], [], []), [], [], [], []), (0 : Int), []), r17.2))
          else
            arena_New_L20x5 k (p0) (p1) (p2) (Go.RowKit.wrap64 (p3 + (1 : Int))) (p4) (p5) (p6) (p7) (p8) (p9) (r17.fst.1) (r17.fst.snd.1) (r17.fst.snd.snd.1) (r17.fst.snd.snd.2) (p14)
        else
          bif Decidable.decide (p3 = (↑(nat_lit 1) : Int)) then
            bif r17.2 != (0 : Int) then
              some ((([], [], (([], [], [], []), ([], [], [], []), [], [], [], []), (0 : Int), []), r17.2))
            else
              arena_New_L20x7 k (p0) (p1) (p2) (Go.RowKit.wrap64 (p3 + (1 : Int))) (p4) (p5) (p6) (p7) (p8) (p9) (r17.fst.1) (r17.fst.snd.1) (r17.fst.snd.snd.1) (r17.fst.snd.snd.2) (p10) (p11) (p12) (p13) (p14)
          else
            bif Decidable.decide (p3 = (↑(nat_lit 0) : Int)) then
              bif r17.2 != (0 : Int) then
                some ((([], [], (([], [], [], []), ([], [], [], []), [], [], [], []), (0 : Int), []), r17.2))
              else
                arena_New_L20x5 k (p0) (p1) (p2) (Go.RowKit.wrap64 (p3 + (1 : Int))) (p4) (p5) (r17.fst.1) (r17.fst.snd.1) (r17.fst.snd.snd.1) (r17.fst.snd.snd.2) (p10) (p11) (p12) (p13) (p14)
            else
              none
      else
        bif Decidable.decide (p3 = (↑(nat_lit 1) : Int)) then
          (pool_New (p1)).bind fun r18 =>
          bif Decidable.decide (p3 = (↑(nat_lit 2) : Int)) then
            bif r18.2 != (0 : Int) then
              some ((([], [], (([], [], [], []), ([], [], [], []), [], [], [], []), (0 : Int), []), r18.2))
            else
              arena_New_L20x5 k (p0) (p1) (p2) (Go.RowKit.wrap64 (p3 + (1 : Int))) (p4) (p5) (p6) (p7) (p8) (p9) (r18.fst.1) (r18.fst.snd.1) (r18.fst.snd.snd.1) (r18.fst.snd.snd.2) (p14)
          else
            bif Decidable.decide (p3 = (↑(nat_lit 1) : Int)) then
              bif r18.2 != (0 : Int) then
                some ((([], [], (([], [], [], []), ([], [], [], []), [], [], [], []), (0 : Int), []), r18.2))
              else
                arena_New_L20x7 k (p0) (p1) (p2) (Go.RowKit.wrap64 (p3 + (1 : Int))) (p4) (p5) (p6) (p7) (p8) (p9) (r18.fst.1) (r18.fst.snd.1) (r18.fst.snd.snd.1) (r18.fst.snd.snd.2) (p10) (p11) (p12) (p13) (p14)
            else
              bif Decidable.decide (p3 = (↑(nat_lit 0) : Int)) then
                bif r18.2 != (0 : Int) then
                  some ((([], [], (([], [], [], []), ([], [], [], []), [], [], [], []), (0 : Int), []), r18.2))
                else
                  arena_New_L20x5 k (p0) (p1) (p2) (Go.RowKit.wrap64 (p3 + (1 : Int))) (p4) (p5) (r18.fst.1) (r18.fst.snd.1) (r18.fst.snd.snd.1) (r18.fst.snd.snd.2) (p10) (p11) (p12) (p13) (p14)
              else
                none
        else
          bif Decidable.decide (p3 = (↑(nat_lit 0) : Int)) then
            (pool_New (p0)).bind fun r19 =>
            bif Decidable.decide (p3 = (↑(nat_lit 2) : Int)) then
              bif r19.2 != (0 : Int) then
                some ((([], [], (([], [], [], []), ([], [], [], []), [], [], [], []), (0 : Int), []), r19.2))
              else
                arena_New_L20x5 k (p0) (p1) (p2) (Go.RowKit.wrap64 (p3 + (1 : Int))) (p4) (p5) (p6) (p7) (p8) (p9) (r19.fst.1) (r19.fst.snd.1) (r19.fst.snd.snd.1) (r19.fst.snd.snd.2) (p14)
            else
              bif Decidable.decide (p3 = (↑(nat_lit 1) : Int)) then
                bif r19.2 != (0 : Int) then
                  some ((([], [], (([], [], [], []), ([], [], [], []), [], [], [], []), (0 : Int), []), r19.2))
                else
                  arena_New_L20x7 k (p0) (p1) (p2) (Go.RowKit.wrap64 (p3 + (1 : Int))) (p4) (p5) (p6) (p7) (p8) (p9) (r19.fst.1) (r19.fst.snd.1) (r19.fst.snd.snd.1) (r19.fst.snd.snd.2) (p10) (p11) (p12) (p13) (p14)
              else
                bif Decidable.decide (p3 = (↑(nat_lit 0) : Int)) then
                  bif r19.2 != (0 : Int) then
                    some ((([], [], (([], [], [], []), ([], [], [], []), [], [], [], []), (0 : Int), []), r19.2))
                  else
                    arena_New_L20x5 k (p0) (p1) (p2) (Go.RowKit.wrap64 (p3 + (1 : Int))) (p4) (p5) (r19.fst.1) (r19.fst.snd.1) (r19.fst.snd.snd.1) (r19.fst.snd.snd.2) (p10) (p11) (p12) (p13) (p14)
                else
                  none
          else
            none
    else
      some ((([], [], ((p6, p7, p8, p9), ([], [], [], []), p10, p11, p12, p13), p5, p14), (0 : Int)))
def arena_New_L20x6 : Nat → (Int) → (Int) → (Int) → (Int) → (Int) → (Int) → (List Int) → (List Int) → (List Int) → (List Int) → (List Int) → (List Int) → (List Int) → (List Int) → (List Int) → Option ((List Int × List Int × ((List Int × List Int × List Int × List Int) × (List Int × List Int × List Int × List Int) × List Int × List Int × List Int × List Int) × Int × List Int) × Int)
  | 0, _, _, _, _, _, _, _, _, _, _, _, _, _, _, _ => none
  | k + 1, p0, p1, p2, p3, p4, p5, p6, p7, p8, p9, p10, p11, p12, p13, p14 =>
    bif Decidable.decide (p3 < (3 : Int)) then
      bif Decidable.decide (p3 = (↑(nat_lit 2) : Int)) then
        (pool_New (p2)).bind fun r20 =>
        bif Decidable.decide (p3 = (↑(nat_lit 2) : Int)) then
          bif r20.2 != (0 : Int) then
            some ((([], [], (([], [], [], []), ([], [], [], []), [], [], [], []), (0 : Int), []), r20.2))
          else
            arena_New_L20x7 k (p0) (p1) (p2) (Go.RowKit.wrap64 (p3 + (1 : Int))) (p4) (p5) (p6) (p7) (p8) (p9) (p10) (p11) (p12) (p13) (r20.fst.1) (r20.fst.snd.1) (r20.fst.snd.snd.1) (r20.fst.snd.snd.2) (p14)
        else
          bif Decidable.decide (p3 = (↑(nat_lit 1) : Int)) then
            bif r20.2 != (0 : Int) then
              some ((([], [], (([], [], [], []), ([], [], [], []), [], [], [], []), (0 : Int), []), r20.2))
            else
              arena_New_L20x6 k (p0) (p1) (p2) (Go.RowKit.wrap64 (p3 + (1 : Int))) (p4) (p5) (p6) (p7) (p8) (p9) (r20.fst.1) (r20.fst.snd.1) (r20.fst.snd.snd.1) (r20.fst.snd.snd.2) (p14)
          else
            bif Decidable.decide (p3 = (↑(nat_lit 0) : Int)) then
              bif r20.2 != (0 : Int) then
                some ((([], [], (([], [], [], []), ([], [], [], []), [], [], [], []), (0 : Int), []), r20.2))
              else
                arena_New_L20x6 k (p0) (p1) (p2) (Go.RowKit.wrap64 (p3 + (1 : Int))) (p4) (p5) (r20.fst.1) (r20.fst.snd.1) (r20.fst.snd.snd.1) (r20.fst.snd.snd.2) (p10) (p11) (p12) (p13) (p14)
            else
              none
      else
        bif Decidable.decide (p3 = (↑(nat_lit 1) : Int)) then
          (pool_New (p1)).bind fun r21 =>
          bif Decidable.decide (p3 = (↑(nat_lit 2) : Int)) then
            bif r21.2 != (0 : Int) then
              some ((([], [], (([], [], [], []), ([], [], [], []), [], [], [], []), (0 : Int), []), r21.2))
            else
              arena_New_L20x7 k (p0) (p1) (p2) (Go.RowKit.wrap64 (p3 + (1 : Int))) (p4) (p5) (p6) (p7) (p8) (p9) (p10) (p11) (p12) (p13) (r21.fst.1) (r21.fst.snd.1) (r21.fst.snd.snd.1) (r21.fst.snd.snd.2) (p14)
          else
            bif Decidable.decide (p3 = (↑(nat_lit 1) : Int)) then
              bif r21.2 != (0 : Int) then
                some ((([], [], (([], [], [], []), ([], [], [], []), [], [], [], []), (0 : Int), []), r21.2))
              else
                arena_New_L20x6 k (p0) (p1) (p2) (Go.RowKit.wrap64 (p3 + (1 : Int))) (p4) (p5) (p6) (p7) (p8) (p9) (r21.fst.1) (r21.fst.snd.1) (r21.fst.snd.snd.1) (r21.fst.snd.snd.2) (p14)
            else
              bif Decidable.decide (p3 = (↑(nat_lit 0) : Int)) then
                bif r21.2 != (0 : Int) then
                  some ((([], [], (([], [], [], []), ([], [], [], []), [], [], [], []), (0 : Int), []), r21.2))
                else
                  arena_New_L20x6 k (p0) (p1) (p2) (Go.RowKit.wrap64 (p3 + (1 : Int))) (p4) (p5) (r21.fst.1) (r21.fst.snd.1) (r21.fst.snd.snd.1) (r21.fst.snd.snd.2) (p10) (p11) (p12) (p13) (p14)
              else
                none
        else
          bif Decidable.decide (p3 = (↑(nat_lit 0) : Int)) then
            (pool_New (p0)).bind fun r22 =>
            bif Decidable.decide (p3 = (↑(nat_lit 2) : Int)) then
              bif r22.2 != (0 : Int) then
                some ((([], [], (([], [], [], []), ([], [], [], []), [], [], [], []), (0 : Int), []), r22.2))
              else
                arena_New_L20x7 k (p0) (p1) (p2) (Go.RowKit.wrap64 (p3 + (1 : Int))) (p4) (p5) (p6) (p7) (p8) (p9) (p10) (p11) (p12) (p13) (r22.fst.1) (r22.fst.snd.1) (r22.fst.snd.snd.1) (r22.fst.snd.snd.2) (p14)
            else
              bif Decidable.decide (p3 = (↑(nat_lit 1) : Int)) then
                bif r22.2 != (0 : Int) then
                  some ((([], [], (([], [], [], []), ([], [], [], []), [], [], [], []), (0 : Int), []), r22.2))
                else
                  arena_New_L20x6 k (p0) (p1) (p2) (Go.RowKit.wrap64 (p3 + (1 : Int))) (p4) (p5) (p6) (p7) (p8) (p9) (r22.fst.1) (r22.fst.snd.1) (r22.fst.snd.snd.1) (r22.fst.snd.snd.2) (p14)
              else
                bif Decidable.decide (p3 = (↑(nat_lit 0) : Int)) then
                  bif r22.2 != (0 : Int) then
                    some ((([], [], (([], [], [], []), ([], [], [], []), [], [], [], []), (0 : Int), []), r22.2))
                  else
                    arena_New_L20x6 k (p0) (p1) (p2) (Go.RowKit.wrap64 (p3 + (1 : Int))) (p4) (p5) (r22.fst.1) (r22.fst.snd.1) (r22.fst.snd.snd.1) (r22.fst.snd.snd.2) (p10) (p11) (p12) (p13) (p14)
                else
                  none
          else
            none
    else
      some ((([], [], ((p6, p7, p8, p9), (p10, p11, p12, p13), [], [], [], []), p5, p14), (0 : Int)))
def arena_New_L20x7 : Nat → (Int) → (Int) → (Int) → (Int) → (Int) → (Int) → (List Int) → (List Int) → (List Int) → (List Int) → (List Int) → (List Int) → (List Int) → (List Int) → (List Int) → (List Int) → (List Int) → (List Int) → (List Int) → Option ((List Int × List Int × ((List Int × List Int × List Int × List Int) × (List Int × List Int × List Int × List Int) × List Int × List Int × List Int × List Int) × Int × List Int) × Int)
  | 0, _, _, _, _, _, _, _, _, _, _, _, _, _, _, _, _, _, _, _ => none
  | k + 1, p0, p1, p2, p3, p4, p5, p6, p7, p8, p9, p10, p11, p12, p13, p14, p15, p16, p17, p18 =>
    bif Decidable.decide (p3 < (3 : Int)) then
      bif Decidable.decide (p3 = (↑(nat_lit 2) : Int)) then
        (pool_New (p2)).bind fun r23 =>
        bif Decidable.decide (p3 = (↑(nat_lit 2) : Int)) then
          bif r23.2 != (0 : Int) then
            some ((([], [], (([], [], [], []), ([], [], [], []), [], [], [], []), (0 : Int), []), r23.2))
          else
            arena_New_L20x7 k (p0) (p1) (p2) (Go.RowKit.wrap64 (p3 + (1 : Int))) (p4) (p5) (p6) (p7) (p8) (p9) (p10) (p11) (p12) (p13) (r23.fst.1) (r23.fst.snd.1) (r23.fst.snd.snd.1) (r23.fst.snd.snd.2) (p18)
        else
          bif Decidable.decide (p3 = (↑(nat_lit 1) : Int)) then
            bif r23.2 != (0 : Int) then
              some ((([], [], (([], [], [], []), ([], [], [], []), [], [], [], []), (0 : Int), []), r23.2))
            else
              arena_New_L20x7 k (p0) (p1) (p2) (Go.RowKit.wrap64 (p3 + (1 : Int))) (p4) (p5) (p6) (p7) (p8) (p9) (r23.fst.1) (r23.fst.snd.1) (r23.fst.snd.snd.1) (r23.fst.snd.snd.2) (p14) (p15) (p16) (p17) (p18)
          else
            bif Decidable.decide (p3 = (↑(nat_lit 0) : Int)) then
              bif r23.2 != (0 : Int) then
                some ((([], [], (([], [], [], []), ([], [], [], []), [], [], [], []), (0 : Int), []), r23.2))
              else
                arena_New_L20x7 k (p0) (p1) (p2) (Go.RowKit.wrap64 (p3 + (1 : Int))) (p4) (p5) (r23.fst.1) (r23.fst.snd.1) (r23.fst.snd.snd.1) (r23.fst.snd.snd.2) (p10) (p11) (p12) (p13) (p14) (p15) (p16) (p17) (p18)
            else
              none
      else
        bif Decidable.decide (p3 = (↑(nat_lit 1) : Int)) then
          (pool_New (p1)).bind fun r24 =>
          bif Decidable.decide (p3 = (↑(nat_lit 2) : Int)) then
            bif r24.2 != (0 : Int) then
              some ((([], [], (([], [], [], []), ([], [], [], []), [], [], [], []), (0 : Int), []), r24.2))
            else
              arena_New_L20x7 k (p0) (p1) (p2) (Go.RowKit.wrap64 (p3 + (1 : Int))) (p4) (p5) (p6) (p7) (p8) (p9) (p10) (p11) (p12) (p13) (r24.fst.1) (r24.fst.snd.1) (r24.fst.snd.snd.1) (r24.fst.snd.snd.2) (p18)
          else
            bif Decidable.decide (p3 = (↑(nat_lit 1) : Int)) then
              bif r24.2 != (0 : Int) then
                some ((([], [], (([], [], [], []), ([], [], [], []), [], [], [], []), (0 : Int), []), r24.2))
              else
                arena_New_L20x7 k (p0) (p1) (p2) (Go.RowKit.wrap64 (p3 + (1 : Int))) (p4) (p5) (p6) (p7) (p8) (p9) (r24.fst.1) (r24.fst.snd.1) (r24.fst.snd.snd.1) (r24.fst.snd.snd.2) (p14) (p15) (p16) (p17) (p18)
            else
              bif Decidable.decide (p3 = (↑(nat_lit 0) : Int)) then
                bif r24.2 != (0 : Int) then
                  some ((([], [], (([], [], [], []), ([], [], [], []), [], [], [], []), (0 : Int), []), r24.2))
                else
                  arena_New_L20x7 k (p0) (p1) (p2) (Go.RowKit.wrap64 (p3 + (1 : Int))) (p4) (p5) (r24.fst.1) (r24.fst.snd.1) (r24.fst.snd.snd.1) (r24.fst.snd.snd.2) (p10) (p11) (p12) (p13) (p14) (p15) (p16) (p17) (p18)
              else
                none
        else
          bif Decidable.decide (p3 = (↑(nat_lit 0) : Int)) then
            (pool_New (p0)).bind fun r25 =>
            bif Decidable.decide (p3 = (↑(nat_lit 2) : Int)) then
              bif r25.2 != (0 : Int) then
                some ((([], [], (([], [], [], []), ([], [], [], []), [], [], [], []), (0 : Int), []), r25.2))
              else
                arena_New_L20x7 k (p0) (p1) (p2) (Go.RowKit.wrap64 (p3 + (1 : Int))) (p4) (p5) (p6) (p7) (p8) (p9) (p10) (p11) (p12) (p13) (r25.fst.1) (r25.fst.snd.1) (r25.fst.snd.snd.1) (r25.fst.snd.snd.2) (p18)
            else
              bif Decidable.decide (p3 = (↑(nat_lit 1) : Int)) then
                bif r25.2 != (0 : Int) then
                  some ((([], [], (([], [], [], []), ([], [], [], []), [], [], [], []), (0 : Int), []), r25.2))
                else
                  arena_New_L20x7 k (p0) (p1) (p2) (Go.RowKit.wrap64 (p3 + (1 : Int))) (p4) (p5) (p6) (p7) (p8) (p9) (r25.fst.1) (r25.fst.snd.1) (r25.fst.snd.snd.1) (r25.fst.snd.snd.2) (p14) (p15) (p16) (p17) (p18)
              else
                bif Decidable.decide (p3 = (↑(nat_lit 0) : Int)) then
                  bif r25.2 != (0 : Int) then
                    some ((([], [], (([], [], [], []), ([], [], [], []), [], [], [], []), (0 : Int), []), r25.2))
                  else
                    arena_New_L20x7 k (p0) (p1) (p2) (Go.RowKit.wrap64 (p3 + (1 : Int))) (p4) (p5) (r25.fst.1) (r25.fst.snd.1) (r25.fst.snd.snd.1) (r25.fst.snd.snd.2) (p10) (p11) (p12) (p13) (p14) (p15) (p16) (p17) (p18)
                else
                  none
          else
            none
    else
      some ((([], [], ((p6, p7, p8, p9), (p10, p11, p12, p13), p14, p15, p16, p17), p5, p18), (0 : Int)))
end
def arena_New_K (K : Nat) (x : (Int × Int × Int × Int × Int) × Int) : Option ((List Int × List Int × ((List Int × List Int × List Int × List Int) × (List Int × List Int × List Int × List Int) × List Int × List Int × List Int × List Int) × Int × List Int) × Int) :=
  (place_Check ((x.fst.1, x.fst.snd.1, x.fst.snd.snd.1, x.fst.snd.snd.snd.1, x.fst.snd.snd.snd.2))).bind fun r0 =>
  bif r0 != (0 : Int) then
    some ((([], [], (([], [], [], []), ([], [], [], []), [], [], [], []), (0 : Int), []), r0))
  else
    (era_New (x.2)).bind fun r1 =>
    bif r1.2 != (0 : Int) then
      some ((([], [], (([], [], [], []), ([], [], [], []), [], [], [], []), (0 : Int), []), r1.2))
    else
      arena_New_L20 K (x.fst.1) (x.fst.snd.1) (x.fst.snd.snd.1) ((0 : Int)) ((0 : Int)) (r1.fst.1) (r1.fst.2)
def arena_New (x : (Int × (Int × (Int × (Int × Int)))) × Int) : Option (((List Int) × ((List Int) × ((((List Int) × ((List Int) × ((List Int) × (List Int)))) × (((List Int) × ((List Int) × ((List Int) × (List Int)))) × ((List Int) × ((List Int) × ((List Int) × (List Int)))))) × (Int × (List Int))))) × Int) := arena_New_K 2000000 x
def arena_New_S : Sig := ⟨[⟨true, (.pair .int (.pair .int (.pair .int (.pair .int .int))))⟩, ⟨false, .int⟩], [⟨true, (.pair (.sl .int) (.pair (.sl .int) (.pair (.pair (.pair (.sl .int) (.pair (.sl .int) (.pair (.sl .int) (.sl .int)))) (.pair (.pair (.sl .int) (.pair (.sl .int) (.pair (.sl .int) (.sl .int)))) (.pair (.sl .int) (.pair (.sl .int) (.pair (.sl .int) (.sl .int)))))) (.pair .int (.sl .int)))))⟩, ⟨false, .int⟩], false, arena_New⟩
/-! slices.Index[[]bool,bool] -/
def slices_Index_L6 : Nat → (List Bool) → (Bool) → (Int) → (Int) → Option (Int)
  | 0, _, _, _, _ => none
  | k + 1, p0, p1, p2, p3 =>
    bif Decidable.decide (p3 < p2) then
      bif Decidable.decide ((0 : Int) ≤ p3) then
        bif Decidable.decide (p3 < (↑p0.length : Int)) then
          bif p1 == p0.getD p3.toNat Bool.false then
            some (p3)
          else
            slices_Index_L6 k (p0) (p1) (p2) (Go.RowKit.wrap64 (p3 + (1 : Int)))
        else
          none
      else
        none
    else
      some ((-1 : Int))
def slices_Index_K (K : Nat) (x : List Bool × Bool) : Option (Int) :=
  slices_Index_L6 K (x.1) (x.2) ((↑(List.length x.1) : Int)) ((0 : Int))
def slices_Index (x : (List Bool) × Bool) : Option (Int) := slices_Index_K 2000000 x
def slices_Index_S : Sig := ⟨[⟨false, (.sl .bool)⟩, ⟨false, .bool⟩], [⟨false, .int⟩], false, slices_Index⟩
/-! slices.Contains[[]bool,bool] -/
def slices_Contains (x : List Bool × Bool) : Option (Bool) :=
  (slices_Index ((x.1, x.2))).bind fun r0 =>
  some (Decidable.decide ((0 : Int) ≤ r0))
def slices_Contains_S : Sig := ⟨[⟨false, (.sl .bool)⟩, ⟨false, .bool⟩], [⟨false, .bool⟩], false, slices_Contains⟩
/-! tendril/pool.Check -/
mutual
def pool_Check_L14 : Nat → (Int) → (List Int) → (Int) → (Int) → (List Int) → (List Int) → (List Int) → (List Int) → (List Bool) → Option (Int)
  | 0, _, _, _, _, _, _, _, _, _ => none
  | k + 1, p0, p1, p2, p3, p4, p5, p6, p7, p8 =>
    bif Decidable.decide (p3 < p2) then
      bif Decidable.decide ((0 : Int) ≤ p3) then
        bif Decidable.decide (p3 < (↑p1.length : Int)) then
          bif Decidable.decide ((0 : Int) ≤ p3) then
            bif Decidable.decide (p3 < (↑p4.length : Int)) then
              bif Decidable.decide (p4.getD p3.toNat (0 : Int) < (0 : Int)) then
                some ((1 : Int))
              else
                bif Decidable.decide ((0 : Int) ≤ p3) then
                  bif Decidable.decide (p3 < (↑p4.length : Int)) then
                    bif Decidable.decide ((1099511627775 : Int) < p4.getD p3.toNat (0 : Int)) then
                      some ((1 : Int))
                    else
                      bif Decidable.decide (p1.getD p3.toNat (0 : Int) < (0 : Int)) then
                        some ((1 : Int))
                      else
                        bif Decidable.decide ((2 : Int) < p1.getD p3.toNat (0 : Int)) then
                          some ((1 : Int))
                        else
                          bif p1.getD p3.toNat (0 : Int) != (2 : Int) then
                            bif Decidable.decide ((0 : Int) ≤ p3) then
                              bif Decidable.decide (p3 < (↑p6.length : Int)) then
                                bif p6.getD p3.toNat (0 : Int) != (0 : Int) then
                                  some ((1 : Int))
                                else
                                  bif Decidable.decide ((0 : Int) ≤ p3) then
                                    bif Decidable.decide (p3 < (↑p8.length : Int)) then
                                      pool_Check_L14 k (p0) (p1) (p2) (Go.RowKit.wrap64 (p3 + (1 : Int))) (p4) (p5) (p6) (p7) (p8.set p3.toNat (p1.getD p3.toNat (0 : Int) == (0 : Int)))
                                    else
                                      none
                                  else
                                    none
                              else
                                none
                            else
                              none
                          else
                            bif Decidable.decide ((0 : Int) ≤ p3) then
                              bif Decidable.decide (p3 < (↑p8.length : Int)) then
                                pool_Check_L14 k (p0) (p1) (p2) (Go.RowKit.wrap64 (p3 + (1 : Int))) (p4) (p5) (p6) (p7) (p8.set p3.toNat (p1.getD p3.toNat (0 : Int) == (0 : Int)))
                              else
                                none
                            else
                              none
                  else
                    none
                else
                  none
            else
              none
          else
            none
        else
          none
      else
        none
    else
      pool_Check_L28 k (p0) (p7) ((↑p7.length : Int)) ((0 : Int)) (p8)
def pool_Check_L28 : Nat → (Int) → (List Int) → (Int) → (Int) → (List Bool) → Option (Int)
  | 0, _, _, _, _, _ => none
  | k + 1, p0, p1, p2, p3, p4 =>
    bif Decidable.decide (p3 < p2) then
      bif Decidable.decide ((0 : Int) ≤ p3) then
        bif Decidable.decide (p3 < (↑p1.length : Int)) then
          bif Decidable.decide (p1.getD p3.toNat (0 : Int) < (0 : Int)) then
            some ((1 : Int))
          else
            bif Decidable.decide (p0 ≤ p1.getD p3.toNat (0 : Int)) then
              some ((1 : Int))
            else
              bif Decidable.decide ((0 : Int) ≤ p1.getD p3.toNat (0 : Int)) then
                bif Decidable.decide (p1.getD p3.toNat (0 : Int) < (↑p4.length : Int)) then
                  bif !p4.getD (p1.getD p3.toNat (0 : Int)).toNat Bool.false then
                    some ((1 : Int))
                  else
                    bif Decidable.decide ((0 : Int) ≤ p1.getD p3.toNat (0 : Int)) then
                      bif Decidable.decide (p1.getD p3.toNat (0 : Int) < (↑p4.length : Int)) then
                        pool_Check_L28 k (p0) (p1) (p2) (Go.RowKit.wrap64 (p3 + (1 : Int))) (p4.set (p1.getD p3.toNat (0 : Int)).toNat Bool.false)
                      else
                        none
                    else
                      none
                else
                  none
              else
                none
        else
          none
      else
        none
    else
      (slices_Contains ((p4, Bool.true))).bind fun r0 =>
      bif r0 then
        some ((1 : Int))
      else
        some ((0 : Int))
end
def pool_Check_K (K : Nat) (x : List Int × List Int × List Int × List Int) : Option (Int) :=
  bif Decidable.decide ((↑(List.length x.1) : Int) < (1 : Int)) then
    some ((1 : Int))
  else
    bif Decidable.decide ((64 : Int) < (↑(List.length x.1) : Int)) then
      some ((1 : Int))
    else
      bif (↑(List.length x.snd.1) : Int) != (↑(List.length x.1) : Int) then
        some ((1 : Int))
      else
        bif (↑(List.length x.snd.snd.1) : Int) != (↑(List.length x.1) : Int) then
          some ((1 : Int))
        else
          bif Decidable.decide ((↑(List.length x.1) : Int) ≤ (1000000 : Int)) then
            pool_Check_L14 K ((↑(List.length x.1) : Int)) (x.snd.1) ((↑(List.length x.snd.1) : Int)) ((0 : Int)) (x.1) (x.snd.1) (x.snd.snd.1) (x.snd.snd.2) (List.replicate ((↑(List.length x.1) : Int)).toNat Bool.false)
          else
            none
def pool_Check (x : ((List Int) × ((List Int) × ((List Int) × (List Int))))) : Option (Int) := pool_Check_K 2000000 x
def pool_Check_S : Sig := ⟨[⟨true, (.pair (.sl .int) (.pair (.sl .int) (.pair (.sl .int) (.sl .int))))⟩], [⟨false, .int⟩], false, pool_Check⟩
/-! tendril/era.Check$1 -/
def era_Check_1 (x : Int × Int × List Int) : Option (Bool) :=
  bif x.1 != (-1 : Int) then
    bif Decidable.decide (x.1 < (0 : Int)) then
      some (Bool.true)
    else
      bif Decidable.decide (x.snd.1 < x.1) then
        some (Bool.true)
      else
        some (Decidable.decide (x.1 < Go.RowKit.wrap64 (x.snd.1 - (1 : Int))))
  else
    some (Bool.false)
def era_Check_1_S : Sig := ⟨[⟨false, .int⟩, ⟨false, (.ref (.pair .int (.sl .int)))⟩], [⟨false, .bool⟩], false, era_Check_1⟩
/-! slices.IndexFunc[[]int,int] -/
def slices_IndexFunc_era_Check_1_L6 : Nat → (List Int) → (Int × List Int) → (Int) → (Int) → Option (Int)
  | 0, _, _, _, _ => none
  | k + 1, p0, p1, p2, p3 =>
    bif Decidable.decide (p3 < p2) then
      bif Decidable.decide ((0 : Int) ≤ p3) then
        bif Decidable.decide (p3 < (↑p0.length : Int)) then
          (era_Check_1 ((p0.getD p3.toNat (0 : Int), p1))).bind fun r0 =>
          bif r0 then
            some (p3)
          else
            slices_IndexFunc_era_Check_1_L6 k (p0) (p1) (p2) (Go.RowKit.wrap64 (p3 + (1 : Int)))
        else
          none
      else
        none
    else
      some ((-1 : Int))
def slices_IndexFunc_era_Check_1_K (K : Nat) (x : List Int × Int × List Int) : Option (Int) :=
  slices_IndexFunc_era_Check_1_L6 K (x.1) (x.2) ((↑(List.length x.1) : Int)) ((0 : Int))
def slices_IndexFunc_era_Check_1 (x : (List Int) × (Int × (List Int))) : Option (Int) := slices_IndexFunc_era_Check_1_K 2000000 x
def slices_IndexFunc_era_Check_1_S : Sig := ⟨[⟨false, (.sl .int)⟩, ⟨false, (.clo 36 (.ref (.pair .int (.sl .int))))⟩], [⟨false, .int⟩], false, slices_IndexFunc_era_Check_1⟩
/-! slices.ContainsFunc[[]int,int] -/
def slices_ContainsFunc_era_Check_1 (x : List Int × Int × List Int) : Option (Bool) :=
  (slices_IndexFunc_era_Check_1 ((x.1, x.2))).bind fun r0 =>
  some (Decidable.decide ((0 : Int) ≤ r0))
def slices_ContainsFunc_era_Check_1_S : Sig := ⟨[⟨false, (.sl .int)⟩, ⟨false, (.clo 36 (.ref (.pair .int (.sl .int))))⟩], [⟨false, .bool⟩], false, slices_ContainsFunc_era_Check_1⟩
/-! tendril/era.Check -/
def era_Check (x : Int × List Int) : Option (Int) :=
  bif Decidable.decide (x.1 < (0 : Int)) then
    some ((1 : Int))
  else
    bif Decidable.decide ((1152921504606846976 : Int) < x.1) then
      some ((1 : Int))
    else
      bif Decidable.decide ((↑(List.length x.2) : Int) < (1 : Int)) then
        some ((1 : Int))
      else
        bif Decidable.decide ((64 : Int) < (↑(List.length x.2) : Int)) then
          some ((1 : Int))
        else
          (slices_ContainsFunc_era_Check_1 ((x.2, x.1, x.2))).bind fun r0 =>
          bif r0 then
            some ((1 : Int))
          else
            some ((0 : Int))
def era_Check_S : Sig := ⟨[⟨true, (.pair .int (.sl .int))⟩], [⟨false, .int⟩], false, era_Check⟩
/-! tendril/arena.Check -/
def arena_Check_L6 : Nat → (List Int) → (List Int) → (List Int) → (List Int) → (List Int) → (List Int) → (List Int) → (List Int) → (List Int) → (List Int) → (List Int) → (List Int) → (Int) → (List Int) → (List Int) → (List Int) → (List Int) → (List Int) → (List Int) → (List Int) → (List Int) → (List Int) → (List Int) → (List Int) → (List Int) → (List Int) → (List Int) → (Int) → (List Int) → Option (Int)
  | 0, _, _, _, _, _, _, _, _, _, _, _, _, _, _, _, _, _, _, _, _, _, _, _, _, _, _, _, _, _ => none
  | k + 1, p0, p1, p2, p3, p4, p5, p6, p7, p8, p9, p10, p11, p12, p13, p14, p15, p16, p17, p18, p19, p20, p21, p22, p23, p24, p25, p26, p27, p28 =>
    bif Decidable.decide (p12 < (3 : Int)) then
      bif Decidable.decide (p12 = (↑(nat_lit 2) : Int)) then
        (pool_Check ((p8, p9, p10, p11))).bind fun r0 =>
        bif r0 != (0 : Int) then
          some (r0)
        else
          arena_Check_L6 k (p0) (p1) (p2) (p3) (p4) (p5) (p6) (p7) (p8) (p9) (p10) (p11) (Go.RowKit.wrap64 (p12 + (1 : Int))) (p13) (p14) (p15) (p16) (p17) (p18) (p19) (p20) (p21) (p22) (p23) (p24) (p25) (p26) (p27) (p28)
      else
        bif Decidable.decide (p12 = (↑(nat_lit 1) : Int)) then
          (pool_Check ((p4, p5, p6, p7))).bind fun r1 =>
          bif r1 != (0 : Int) then
            some (r1)
          else
            arena_Check_L6 k (p0) (p1) (p2) (p3) (p4) (p5) (p6) (p7) (p8) (p9) (p10) (p11) (Go.RowKit.wrap64 (p12 + (1 : Int))) (p13) (p14) (p15) (p16) (p17) (p18) (p19) (p20) (p21) (p22) (p23) (p24) (p25) (p26) (p27) (p28)
        else
          bif Decidable.decide (p12 = (↑(nat_lit 0) : Int)) then
            (pool_Check ((p0, p1, p2, p3))).bind fun r2 =>
            bif r2 != (0 : Int) then
              some (r2)
            else
              arena_Check_L6 k (p0) (p1) (p2) (p3) (p4) (p5) (p6) (p7) (p8) (p9) (p10) (p11) (Go.RowKit.wrap64 (p12 + (1 : Int))) (p13) (p14) (p15) (p16) (p17) (p18) (p19) (p20) (p21) (p22) (p23) (p24) (p25) (p26) (p27) (p28)
          else
            none
    else
      (era_Check ((p27, p28))).bind fun r3 =>
      some (r3)
def arena_Check_K (K : Nat) (x : List Int × List Int × ((List Int × List Int × List Int × List Int) × (List Int × List Int × List Int × List Int) × List Int × List Int × List Int × List Int) × Int × List Int) : Option (Int) :=
  arena_Check_L6 K (x.snd.snd.fst.fst.1) (x.snd.snd.fst.fst.snd.1) (x.snd.snd.fst.fst.snd.snd.1) (x.snd.snd.fst.fst.snd.snd.2) (x.snd.snd.fst.snd.fst.1) (x.snd.snd.fst.snd.fst.snd.1) (x.snd.snd.fst.snd.fst.snd.snd.1) (x.snd.snd.fst.snd.fst.snd.snd.2) (x.snd.snd.fst.snd.snd.1) (x.snd.snd.fst.snd.snd.snd.1) (x.snd.snd.fst.snd.snd.snd.snd.1) (x.snd.snd.fst.snd.snd.snd.snd.2) ((0 : Int)) (x.1) (x.snd.1) (x.snd.snd.fst.fst.1) (x.snd.snd.fst.fst.snd.1) (x.snd.snd.fst.fst.snd.snd.1) (x.snd.snd.fst.fst.snd.snd.2) (x.snd.snd.fst.snd.fst.1) (x.snd.snd.fst.snd.fst.snd.1) (x.snd.snd.fst.snd.fst.snd.snd.1) (x.snd.snd.fst.snd.fst.snd.snd.2) (x.snd.snd.fst.snd.snd.1) (x.snd.snd.fst.snd.snd.snd.1) (x.snd.snd.fst.snd.snd.snd.snd.1) (x.snd.snd.fst.snd.snd.snd.snd.2) (x.snd.snd.snd.1) (x.snd.snd.snd.2)
def arena_Check (x : ((List Int) × ((List Int) × ((((List Int) × ((List Int) × ((List Int) × (List Int)))) × (((List Int) × ((List Int) × ((List Int) × (List Int)))) × ((List Int) × ((List Int) × ((List Int) × (List Int)))))) × (Int × (List Int)))))) : Option (Int) := arena_Check_K 2000000 x
def arena_Check_S : Sig := ⟨[⟨true, (.pair (.sl .int) (.pair (.sl .int) (.pair (.pair (.pair (.sl .int) (.pair (.sl .int) (.pair (.sl .int) (.sl .int)))) (.pair (.pair (.sl .int) (.pair (.sl .int) (.pair (.sl .int) (.sl .int)))) (.pair (.sl .int) (.pair (.sl .int) (.pair (.sl .int) (.sl .int)))))) (.pair .int (.sl .int)))))⟩], [⟨false, .int⟩], false, arena_Check⟩
/-! tendril/arena.may -/
def arena_may (x : (List Int × List Int × ((List Int × List Int × List Int × List Int) × (List Int × List Int × List Int × List Int) × List Int × List Int × List Int × List Int) × Int × List Int) × Int) : Option (Bool) :=
  bif Decidable.decide ((1 : Int) ≤ x.2) then
    bif Decidable.decide (x.2 ≤ (3 : Int)) then
      (arena_Check ((x.fst.1, x.fst.snd.1, ((x.fst.snd.snd.fst.fst.1, x.fst.snd.snd.fst.fst.snd.1, x.fst.snd.snd.fst.fst.snd.snd.1, x.fst.snd.snd.fst.fst.snd.snd.2), (x.fst.snd.snd.fst.snd.fst.1, x.fst.snd.snd.fst.snd.fst.snd.1, x.fst.snd.snd.fst.snd.fst.snd.snd.1, x.fst.snd.snd.fst.snd.fst.snd.snd.2), x.fst.snd.snd.fst.snd.snd.1, x.fst.snd.snd.fst.snd.snd.snd.1, x.fst.snd.snd.fst.snd.snd.snd.snd.1, x.fst.snd.snd.fst.snd.snd.snd.snd.2), x.fst.snd.snd.snd.1, x.fst.snd.snd.snd.2))).bind fun r0 =>
      some (r0 == (0 : Int))
    else
      some (Bool.false)
  else
    some (Bool.false)
def arena_may_S : Sig := ⟨[⟨true, (.pair (.sl .int) (.pair (.sl .int) (.pair (.pair (.pair (.sl .int) (.pair (.sl .int) (.pair (.sl .int) (.sl .int)))) (.pair (.pair (.sl .int) (.pair (.sl .int) (.pair (.sl .int) (.sl .int)))) (.pair (.sl .int) (.pair (.sl .int) (.pair (.sl .int) (.sl .int)))))) (.pair .int (.sl .int)))))⟩, ⟨false, .int⟩], [⟨false, .bool⟩], false, arena_may⟩
/-! tendril/era.Turn$1 -/
def era_Turn_1 (x : Int × Int × List Int) : Option (Bool) :=
  bif x.1 != (-1 : Int) then
    some (x.1 != x.snd.1)
  else
    some (Bool.false)
def era_Turn_1_S : Sig := ⟨[⟨false, .int⟩, ⟨false, (.ref (.pair .int (.sl .int)))⟩], [⟨false, .bool⟩], false, era_Turn_1⟩
/-! slices.IndexFunc[[]int,int] -/
def slices_IndexFunc_era_Turn_1_L6 : Nat → (List Int) → (Int × List Int) → (Int) → (Int) → Option (Int)
  | 0, _, _, _, _ => none
  | k + 1, p0, p1, p2, p3 =>
    bif Decidable.decide (p3 < p2) then
      bif Decidable.decide ((0 : Int) ≤ p3) then
        bif Decidable.decide (p3 < (↑p0.length : Int)) then
          (era_Turn_1 ((p0.getD p3.toNat (0 : Int), p1))).bind fun r0 =>
          bif r0 then
            some (p3)
          else
            slices_IndexFunc_era_Turn_1_L6 k (p0) (p1) (p2) (Go.RowKit.wrap64 (p3 + (1 : Int)))
        else
          none
      else
        none
    else
      some ((-1 : Int))
def slices_IndexFunc_era_Turn_1_K (K : Nat) (x : List Int × Int × List Int) : Option (Int) :=
  slices_IndexFunc_era_Turn_1_L6 K (x.1) (x.2) ((↑(List.length x.1) : Int)) ((0 : Int))
def slices_IndexFunc_era_Turn_1 (x : (List Int) × (Int × (List Int))) : Option (Int) := slices_IndexFunc_era_Turn_1_K 2000000 x
def slices_IndexFunc_era_Turn_1_S : Sig := ⟨[⟨false, (.sl .int)⟩, ⟨false, (.clo 31 (.ref (.pair .int (.sl .int))))⟩], [⟨false, .int⟩], false, slices_IndexFunc_era_Turn_1⟩
/-! slices.ContainsFunc[[]int,int] -/
def slices_ContainsFunc_era_Turn_1 (x : List Int × Int × List Int) : Option (Bool) :=
  (slices_IndexFunc_era_Turn_1 ((x.1, x.2))).bind fun r0 =>
  some (Decidable.decide ((0 : Int) ≤ r0))
def slices_ContainsFunc_era_Turn_1_S : Sig := ⟨[⟨false, (.sl .int)⟩, ⟨false, (.clo 31 (.ref (.pair .int (.sl .int))))⟩], [⟨false, .bool⟩], false, slices_ContainsFunc_era_Turn_1⟩
/-! tendril/era.Turn -/
def era_Turn (x : Int × List Int) : Option ((Int × List Int) × Bool) :=
  (era_Check ((x.1, x.2))).bind fun r0 =>
  bif r0 != (0 : Int) then
    some ((((0 : Int), []), Bool.false))
  else
    (slices_Clone (x.2)).bind fun r1 =>
    bif x.1 == (1152921504606846976 : Int) then
      some (((x.1, r1), Bool.false))
    else
      (slices_ContainsFunc_era_Turn_1 ((x.2, x.1, x.2))).bind fun r2 =>
      bif r2 then
        some (((x.1, r1), Bool.false))
      else
        some (((Go.RowKit.wrap64 (x.1 + (1 : Int)), r1), Bool.true))
def era_Turn_S : Sig := ⟨[⟨true, (.pair .int (.sl .int))⟩], [⟨true, (.pair .int (.sl .int))⟩, ⟨false, .bool⟩], true, era_Turn⟩
/-! tendril/pool.own -/
def pool_own (x : List Int × List Int × List Int × List Int) : Option (List Int × List Int × List Int × List Int) :=
  (slices_Clone (x.1)).bind fun r0 =>
  (slices_Clone (x.snd.1)).bind fun r1 =>
  (slices_Clone (x.snd.snd.1)).bind fun r2 =>
  (slices_Clone (x.snd.snd.2)).bind fun r3 =>
  some ((r0, r1, r2, r3))
def pool_own_S : Sig := ⟨[⟨true, (.pair (.sl .int) (.pair (.sl .int) (.pair (.sl .int) (.sl .int))))⟩], [⟨true, (.pair (.sl .int) (.pair (.sl .int) (.pair (.sl .int) (.sl .int))))⟩], true, pool_own⟩
/-! tendril/pool.Reclaim -/
def pool_Reclaim_L14 : Nat → (Int) → (Int) → (Int) → (Int) → (List Int) → (List Int) → (List Int) → (List Int) → Option ((List Int × List Int × List Int × List Int) × Int)
  | 0, _, _, _, _, _, _, _, _ => none
  | k + 1, p0, p1, p2, p3, p4, p5, p6, p7 =>
    bif Decidable.decide (p3 < p2) then
      bif Decidable.decide ((0 : Int) ≤ p3) then
        bif Decidable.decide (p3 < (↑p4.length : Int)) then
          bif p4.getD p3.toNat (0 : Int) == (2 : Int) then
            bif Decidable.decide ((0 : Int) ≤ p3) then
              bif Decidable.decide (p3 < (↑p6.length : Int)) then
                bif Decidable.decide (p6.getD p3.toNat (0 : Int) ≤ p0) then
                  bif Decidable.decide ((0 : Int) ≤ p3) then
                    bif Decidable.decide (p3 < (↑p5.length : Int)) then
                      bif p5.getD p3.toNat (0 : Int) != (1099511627775 : Int) then
                        bif Decidable.decide ((0 : Int) ≤ p3) then
                          bif Decidable.decide (p3 < (↑p5.length : Int)) then
                            bif Decidable.decide (p7.length + [p3].length ≤ (1000000 : Nat)) then
                              bif Decidable.decide ((0 : Int) ≤ p3) then
                                bif Decidable.decide (p3 < (↑p4.length : Int)) then
                                  bif Decidable.decide ((0 : Int) ≤ p3) then
                                    bif Decidable.decide (p3 < (↑p6.length : Int)) then
                                      bif Decidable.decide ((0 : Int) ≤ p3) then
                                        bif Decidable.decide (p3 < (↑p5.length : Int)) then
                                          pool_Reclaim_L14 k (p0) (p1) (p2) (Go.RowKit.wrap64 (p3 + (1 : Int))) (p4.set p3.toNat (0 : Int)) (p5.set p3.toNat (Go.RowKit.wrap64 (p5.getD p3.toNat (0 : Int) + (1 : Int)))) (p6.set p3.toNat (0 : Int)) (p7 ++ [p3])
                                        else
                                          none
                                      else
                                        none
                                    else
                                      none
                                  else
                                    none
                                else
                                  none
                              else
                                none
                            else
                              none
                          else
                            none
                        else
                          none
                      else
                        pool_Reclaim_L14 k (p0) (p1) (p2) (Go.RowKit.wrap64 (p3 + (1 : Int))) (p4) (p5) (p6) (p7)
                    else
                      none
                  else
                    none
                else
                  pool_Reclaim_L14 k (p0) (p1) (p2) (Go.RowKit.wrap64 (p3 + (1 : Int))) (p4) (p5) (p6) (p7)
              else
                none
            else
              none
          else
            pool_Reclaim_L14 k (p0) (p1) (p2) (Go.RowKit.wrap64 (p3 + (1 : Int))) (p4) (p5) (p6) (p7)
        else
          none
      else
        none
    else
      some (((p5, p4, p6, p7), Go.RowKit.wrap64 ((↑p7.length : Int) - p1)))
def pool_Reclaim_K (K : Nat) (x : (List Int × List Int × List Int × List Int) × Int) : Option ((List Int × List Int × List Int × List Int) × Int) :=
  (pool_Check ((x.fst.1, x.fst.snd.1, x.fst.snd.snd.1, x.fst.snd.snd.2))).bind fun r0 =>
  bif r0 != (0 : Int) then
    some ((([], [], [], []), (0 : Int)))
  else
    (pool_own ((x.fst.1, x.fst.snd.1, x.fst.snd.snd.1, x.fst.snd.snd.2))).bind fun r1 =>
    pool_Reclaim_L14 K (x.2) ((↑(List.length r1.snd.snd.2) : Int)) ((↑(List.length r1.snd.1) : Int)) ((0 : Int)) (r1.snd.1) (r1.1) (r1.snd.snd.1) (r1.snd.snd.2)
def pool_Reclaim (x : ((List Int) × ((List Int) × ((List Int) × (List Int)))) × Int) : Option (((List Int) × ((List Int) × ((List Int) × (List Int)))) × Int) := pool_Reclaim_K 2000000 x
def pool_Reclaim_S : Sig := ⟨[⟨true, (.pair (.sl .int) (.pair (.sl .int) (.pair (.sl .int) (.sl .int))))⟩, ⟨false, .int⟩], [⟨true, (.pair (.sl .int) (.pair (.sl .int) (.pair (.sl .int) (.sl .int))))⟩, ⟨false, .int⟩], true, pool_Reclaim⟩
/-! tendril/era.Safe -/
def era_Safe (x : Int × List Int) : Option (Int) :=
  (era_Check ((x.1, x.2))).bind fun r0 =>
  bif r0 != (0 : Int) then
    some ((-1 : Int))
  else
    some (Go.RowKit.wrap64 (x.1 - (2 : Int)))
def era_Safe_S : Sig := ⟨[⟨true, (.pair .int (.sl .int))⟩], [⟨false, .int⟩], false, era_Safe⟩
/-! tendril/arena.Turn -/
mutual
def arena_Turn_L16 : Nat → (Bool) → (List Int) → (List Int) → (List Int) → (List Int) → (List Int) → (List Int) → (List Int) → (List Int) → (List Int) → (List Int) → (List Int) → (List Int) → (Int) → (List Int) → (List Int) → (List Int) → (List Int) → (List Int) → (List Int) → (List Int) → (List Int) → (List Int) → (List Int) → (List Int) → (List Int) → (List Int) → (List Int) → (Int) → (Int) → (Int) → (List Int) → Option ((List Int × List Int × ((List Int × List Int × List Int × List Int) × (List Int × List Int × List Int × List Int) × List Int × List Int × List Int × List Int) × Int × List Int) × Bool)
  | 0, _, _, _, _, _, _, _, _, _, _, _, _, _, _, _, _, _, _, _, _, _, _, _, _, _, _, _, _, _, _, _, _ => none
  | k + 1, p0, p1, p2, p3, p4, p5, p6, p7, p8, p9, p10, p11, p12, p13, p14, p15, p16, p17, p18, p19, p20, p21, p22, p23, p24, p25, p26, p27, p28, p29, p30, p31 =>
    bif Decidable.decide (p13 < (3 : Int)) then
      bif Decidable.decide (p13 = (↑(nat_lit 2) : Int)) then
        (era_Safe ((p30, p31))).bind fun r2 =>
        (pool_Reclaim (((p9, p10, p11, p12), r2))).bind fun r3 =>
        bif Decidable.decide (p13 = (↑(nat_lit 2) : Int)) then
          arena_Turn_L16x1 k (p0) (p1) (p2) (p3) (p4) (p5) (p6) (p7) (p8) (p9) (p10) (p11) (p12) (Go.RowKit.wrap64 (p13 + (1 : Int))) (p14) (p15) (p16) (p17) (p18) (p19) (p20) (p21) (p22) (p23) (p28) (p29) (p30) (r3.fst.1) (r3.fst.snd.1) (r3.fst.snd.snd.1) (r3.fst.snd.snd.2) (p31)
        else
          bif Decidable.decide (p13 = (↑(nat_lit 1) : Int)) then
            arena_Turn_L16x2 k (p0) (p1) (p2) (p3) (p4) (p5) (p6) (p7) (p8) (p9) (p10) (p11) (p12) (Go.RowKit.wrap64 (p13 + (1 : Int))) (p14) (p15) (p16) (p17) (p18) (p19) (p24) (p25) (p26) (p27) (p28) (p29) (p30) (r3.fst.1) (r3.fst.snd.1) (r3.fst.snd.snd.1) (r3.fst.snd.snd.2) (p31)
          else
            bif Decidable.decide (p13 = (↑(nat_lit 0) : Int)) then
              arena_Turn_L16x3 k (p0) (p1) (p2) (p3) (p4) (p5) (p6) (p7) (p8) (p9) (p10) (p11) (p12) (Go.RowKit.wrap64 (p13 + (1 : Int))) (p14) (p15) (p20) (p21) (p22) (p23) (p24) (p25) (p26) (p27) (p28) (p29) (p30) (r3.fst.1) (r3.fst.snd.1) (r3.fst.snd.snd.1) (r3.fst.snd.snd.2) (p31)
            else
              none
      else
        bif Decidable.decide (p13 = (↑(nat_lit 1) : Int)) then
          (era_Safe ((p30, p31))).bind fun r4 =>
          (pool_Reclaim (((p5, p6, p7, p8), r4))).bind fun r5 =>
          bif Decidable.decide (p13 = (↑(nat_lit 2) : Int)) then
            arena_Turn_L16x1 k (p0) (p1) (p2) (p3) (p4) (p5) (p6) (p7) (p8) (p9) (p10) (p11) (p12) (Go.RowKit.wrap64 (p13 + (1 : Int))) (p14) (p15) (p16) (p17) (p18) (p19) (p20) (p21) (p22) (p23) (p28) (p29) (p30) (r5.fst.1) (r5.fst.snd.1) (r5.fst.snd.snd.1) (r5.fst.snd.snd.2) (p31)
          else
            bif Decidable.decide (p13 = (↑(nat_lit 1) : Int)) then
              arena_Turn_L16x2 k (p0) (p1) (p2) (p3) (p4) (p5) (p6) (p7) (p8) (p9) (p10) (p11) (p12) (Go.RowKit.wrap64 (p13 + (1 : Int))) (p14) (p15) (p16) (p17) (p18) (p19) (p24) (p25) (p26) (p27) (p28) (p29) (p30) (r5.fst.1) (r5.fst.snd.1) (r5.fst.snd.snd.1) (r5.fst.snd.snd.2) (p31)
            else
              bif Decidable.decide (p13 = (↑(nat_lit 0) : Int)) then
                arena_Turn_L16x3 k (p0) (p1) (p2) (p3) (p4) (p5) (p6) (p7) (p8) (p9) (p10) (p11) (p12) (Go.RowKit.wrap64 (p13 + (1 : Int))) (p14) (p15) (p20) (p21) (p22) (p23) (p24) (p25) (p26) (p27) (p28) (p29) (p30) (r5.fst.1) (r5.fst.snd.1) (r5.fst.snd.snd.1) (r5.fst.snd.snd.2) (p31)
              else
                none
        else
          bif Decidable.decide (p13 = (↑(nat_lit 0) : Int)) then
            (era_Safe ((p30, p31))).bind fun r6 =>
            (pool_Reclaim (((p1, p2, p3, p4), r6))).bind fun r7 =>
            bif Decidable.decide (p13 = (↑(nat_lit 2) : Int)) then
              arena_Turn_L16x1 k (p0) (p1) (p2) (p3) (p4) (p5) (p6) (p7) (p8) (p9) (p10) (p11) (p12) (Go.RowKit.wrap64 (p13 + (1 : Int))) (p14) (p15) (p16) (p17) (p18) (p19) (p20) (p21) (p22) (p23) (p28) (p29) (p30) (r7.fst.1) (r7.fst.snd.1) (r7.fst.snd.snd.1) (r7.fst.snd.snd.2) (p31)
            else
              bif Decidable.decide (p13 = (↑(nat_lit 1) : Int)) then
                arena_Turn_L16x2 k (p0) (p1) (p2) (p3) (p4) (p5) (p6) (p7) (p8) (p9) (p10) (p11) (p12) (Go.RowKit.wrap64 (p13 + (1 : Int))) (p14) (p15) (p16) (p17) (p18) (p19) (p24) (p25) (p26) (p27) (p28) (p29) (p30) (r7.fst.1) (r7.fst.snd.1) (r7.fst.snd.snd.1) (r7.fst.snd.snd.2) (p31)
              else
                bif Decidable.decide (p13 = (↑(nat_lit 0) : Int)) then
                  arena_Turn_L16x3 k (p0) (p1) (p2) (p3) (p4) (p5) (p6) (p7) (p8) (p9) (p10) (p11) (p12) (Go.RowKit.wrap64 (p13 + (1 : Int))) (p14) (p15) (p20) (p21) (p22) (p23) (p24) (p25) (p26) (p27) (p28) (p29) (p30) (r7.fst.1) (r7.fst.snd.1) (r7.fst.snd.snd.1) (r7.fst.snd.snd.2) (p31)
                else
                  none
          else
            none
    else
      some (((p14, p15, ((p16, p17, p18, p19), (p20, p21, p22, p23), p24, p25, p26, p27), p28, p31), p0))
def arena_Turn_L16x1 : Nat → (Bool) → (List Int) → (List Int) → (List Int) → (List Int) → (List Int) → (List Int) → (List Int) → (List Int) → (List Int) → (List Int) → (List Int) → (List Int) → (Int) → (List Int) → (List Int) → (List Int) → (List Int) → (List Int) → (List Int) → (List Int) → (List Int) → (List Int) → (List Int) → (Int) → (Int) → (Int) → (List Int) → (List Int) → (List Int) → (List Int) → (List Int) → Option ((List Int × List Int × ((List Int × List Int × List Int × List Int) × (List Int × List Int × List Int × List Int) × List Int × List Int × List Int × List Int) × Int × List Int) × Bool)
  | 0, _, _, _, _, _, _, _, _, _, _, _, _, _, _, _, _, _, _, _, _, _, _, _, _, _, _, _, _, _, _, _, _ => none
  | k + 1, p0, p1, p2, p3, p4, p5, p6, p7, p8, p9, p10, p11, p12, p13, p14, p15, p16, p17, p18, p19, p20, p21, p22, p23, p24, p25, p26, p27, p28, p29, p30, p31 =>
    bif Decidable.decide (p13 < (3 : Int)) then
      bif Decidable.decide (p13 = (↑(nat_lit 2) : Int)) then
        (era_Safe ((p26, p31))).bind fun r8 =>
        (pool_Reclaim (((p9, p10, p11, p12), r8))).bind fun r9 =>
        bif Decidable.decide (p13 = (↑(nat_lit 2) : Int)) then
          arena_Turn_L16x1 k (p0) (p1) (p2) (p3) (p4) (p5) (p6) (p7) (p8) (p9) (p10) (p11) (p12) (Go.RowKit.wrap64 (p13 + (1 : Int))) (p14) (p15) (p16) (p17) (p18) (p19) (p20) (p21) (p22) (p23) (p24) (p25) (p26) (r9.fst.1) (r9.fst.snd.1) (r9.fst.snd.snd.1) (r9.fst.snd.snd.2) (p31)
        else
          bif Decidable.decide (p13 = (↑(nat_lit 1) : Int)) then
            arena_Turn_L16x4 k (p0) (p1) (p2) (p3) (p4) (p5) (p6) (p7) (p8) (p9) (p10) (p11) (p12) (Go.RowKit.wrap64 (p13 + (1 : Int))) (p14) (p15) (p16) (p17) (p18) (p19) (p24) (p25) (p26) (r9.fst.1) (r9.fst.snd.1) (r9.fst.snd.snd.1) (r9.fst.snd.snd.2) (p27) (p28) (p29) (p30) (p31)
          else
            bif Decidable.decide (p13 = (↑(nat_lit 0) : Int)) then
              arena_Turn_L16x5 k (p0) (p1) (p2) (p3) (p4) (p5) (p6) (p7) (p8) (p9) (p10) (p11) (p12) (Go.RowKit.wrap64 (p13 + (1 : Int))) (p14) (p15) (p20) (p21) (p22) (p23) (p24) (p25) (p26) (r9.fst.1) (r9.fst.snd.1) (r9.fst.snd.snd.1) (r9.fst.snd.snd.2) (p27) (p28) (p29) (p30) (p31)
            else
              none
      else
        bif Decidable.decide (p13 = (↑(nat_lit 1) : Int)) then
          (era_Safe ((p26, p31))).bind fun r10 =>
          (pool_Reclaim (((p5, p6, p7, p8), r10))).bind fun r11 =>
          bif Decidable.decide (p13 = (↑(nat_lit 2) : Int)) then
            arena_Turn_L16x1 k (p0) (p1) (p2) (p3) (p4) (p5) (p6) (p7) (p8) (p9) (p10) (p11) (p12) (Go.RowKit.wrap64 (p13 + (1 : Int))) (p14) (p15) (p16) (p17) (p18) (p19) (p20) (p21) (p22) (p23) (p24) (p25) (p26) (r11.fst.1) (r11.fst.snd.1) (r11.fst.snd.snd.1) (r11.fst.snd.snd.2) (p31)
          else
            bif Decidable.decide (p13 = (↑(nat_lit 1) : Int)) then
              arena_Turn_L16x4 k (p0) (p1) (p2) (p3) (p4) (p5) (p6) (p7) (p8) (p9) (p10) (p11) (p12) (Go.RowKit.wrap64 (p13 + (1 : Int))) (p14) (p15) (p16) (p17) (p18) (p19) (p24) (p25) (p26) (r11.fst.1) (r11.fst.snd.1) (r11.fst.snd.snd.1) (r11.fst.snd.snd.2) (p27) (p28) (p29) (p30) (p31)
            else
              bif Decidable.decide (p13 = (↑(nat_lit 0) : Int)) then
                arena_Turn_L16x5 k (p0) (p1) (p2) (p3) (p4) (p5) (p6) (p7) (p8) (p9) (p10) (p11) (p12) (Go.RowKit.wrap64 (p13 + (1 : Int))) (p14) (p15) (p20) (p21) (p22) (p23) (p24) (p25) (p26) (r11.fst.1) (r11.fst.snd.1) (r11.fst.snd.snd.1) (r11.fst.snd.snd.2) (p27) (p28) (p29) (p30) (p31)
              else
                none
        else
          bif Decidable.decide (p13 = (↑(nat_lit 0) : Int)) then
            (era_Safe ((p26, p31))).bind fun r12 =>
            (pool_Reclaim (((p1, p2, p3, p4), r12))).bind fun r13 =>
            bif Decidable.decide (p13 = (↑(nat_lit 2) : Int)) then
              arena_Turn_L16x1 k (p0) (p1) (p2) (p3) (p4) (p5) (p6) (p7) (p8) (p9) (p10) (p11) (p12) (Go.RowKit.wrap64 (p13 + (1 : Int))) (p14) (p15) (p16) (p17) (p18) (p19) (p20) (p21) (p22) (p23) (p24) (p25) (p26) (r13.fst.1) (r13.fst.snd.1) (r13.fst.snd.snd.1) (r13.fst.snd.snd.2) (p31)
            else
              bif Decidable.decide (p13 = (↑(nat_lit 1) : Int)) then
                arena_Turn_L16x4 k (p0) (p1) (p2) (p3) (p4) (p5) (p6) (p7) (p8) (p9) (p10) (p11) (p12) (Go.RowKit.wrap64 (p13 + (1 : Int))) (p14) (p15) (p16) (p17) (p18) (p19) (p24) (p25) (p26) (r13.fst.1) (r13.fst.snd.1) (r13.fst.snd.snd.1) (r13.fst.snd.snd.2) (p27) (p28) (p29) (p30) (p31)
              else
                bif Decidable.decide (p13 = (↑(nat_lit 0) : Int)) then
                  arena_Turn_L16x5 k (p0) (p1) (p2) (p3) (p4) (p5) (p6) (p7) (p8) (p9) (p10) (p11) (p12) (Go.RowKit.wrap64 (p13 + (1 : Int))) (p14) (p15) (p20) (p21) (p22) (p23) (p24) (p25) (p26) (r13.fst.1) (r13.fst.snd.1) (r13.fst.snd.snd.1) (r13.fst.snd.snd.2) (p27) (p28) (p29) (p30) (p31)
                else
                  none
          else
            none
    else
      some (((p14, p15, ((p16, p17, p18, p19), (p20, p21, p22, p23), p27, p28, p29, p30), p24, p31), p0))
def arena_Turn_L16x2 : Nat → (Bool) → (List Int) → (List Int) → (List Int) → (List Int) → (List Int) → (List Int) → (List Int) → (List Int) → (List Int) → (List Int) → (List Int) → (List Int) → (Int) → (List Int) → (List Int) → (List Int) → (List Int) → (List Int) → (List Int) → (List Int) → (List Int) → (List Int) → (List Int) → (Int) → (Int) → (Int) → (List Int) → (List Int) → (List Int) → (List Int) → (List Int) → Option ((List Int × List Int × ((List Int × List Int × List Int × List Int) × (List Int × List Int × List Int × List Int) × List Int × List Int × List Int × List Int) × Int × List Int) × Bool)
  | 0, _, _, _, _, _, _, _, _, _, _, _, _, _, _, _, _, _, _, _, _, _, _, _, _, _, _, _, _, _, _, _, _ => none
  | k + 1, p0, p1, p2, p3, p4, p5, p6, p7, p8, p9, p10, p11, p12, p13, p14, p15, p16, p17, p18, p19, p20, p21, p22, p23, p24, p25, p26, p27, p28, p29, p30, p31 =>
    bif Decidable.decide (p13 < (3 : Int)) then
      bif Decidable.decide (p13 = (↑(nat_lit 2) : Int)) then
        (era_Safe ((p26, p31))).bind fun r14 =>
        (pool_Reclaim (((p9, p10, p11, p12), r14))).bind fun r15 =>
        bif Decidable.decide (p13 = (↑(nat_lit 2) : Int)) then
          arena_Turn_L16x4 k (p0) (p1) (p2) (p3) (p4) (p5) (p6) (p7) (p8) (p9) (p10) (p11) (p12) (Go.RowKit.wrap64 (p13 + (1 : Int))) (p14) (p15) (p16) (p17) (p18) (p19) (p24) (p25) (p26) (p27) (p28) (p29) (p30) (r15.fst.1) (r15.fst.snd.1) (r15.fst.snd.snd.1) (r15.fst.snd.snd.2) (p31)
        else
          bif Decidable.decide (p13 = (↑(nat_lit 1) : Int)) then
            arena_Turn_L16x2 k (p0) (p1) (p2) (p3) (p4) (p5) (p6) (p7) (p8) (p9) (p10) (p11) (p12) (Go.RowKit.wrap64 (p13 + (1 : Int))) (p14) (p15) (p16) (p17) (p18) (p19) (p20) (p21) (p22) (p23) (p24) (p25) (p26) (r15.fst.1) (r15.fst.snd.1) (r15.fst.snd.snd.1) (r15.fst.snd.snd.2) (p31)
          else
            bif Decidable.decide (p13 = (↑(nat_lit 0) : Int)) then
              arena_Turn_L16x6 k (p0) (p1) (p2) (p3) (p4) (p5) (p6) (p7) (p8) (p9) (p10) (p11) (p12) (Go.RowKit.wrap64 (p13 + (1 : Int))) (p14) (p15) (p20) (p21) (p22) (p23) (p24) (p25) (p26) (r15.fst.1) (r15.fst.snd.1) (r15.fst.snd.snd.1) (r15.fst.snd.snd.2) (p27) (p28) (p29) (p30) (p31)
            else
              none
      else
        bif Decidable.decide (p13 = (↑(nat_lit 1) : Int)) then
          (era_Safe ((p26, p31))).bind fun r16 =>
          (pool_Reclaim (((p5, p6, p7, p8), r16))).bind fun r17 =>
          bif Decidable.decide (p13 = (↑(nat_lit 2) : Int)) then
            arena_Turn_L16x4 k (p0) (p1) (p2) (p3) (p4) (p5) (p6) (p7) (p8) (p9) (p10) (p11) (p12) (Go.RowKit.wrap64 (p13 + (1 : Int))) (p14) (p15) (p16) (p17) (p18) (p19) (p24) (p25) (p26) (p27) (p28) (p29) (p30) (r17.fst.1) (r17.fst.snd.1) (r17.fst.snd.snd.1) (r17.fst.snd.snd.2) (p31)
          else
            bif Decidable.decide (p13 = (↑(nat_lit 1) : Int)) then
              arena_Turn_L16x2 k (p0) (p1) (p2) (p3) (p4) (p5) (p6) (p7) (p8) (p9) (p10) (p11) (p12) (Go.RowKit.wrap64 (p13 + (1 : Int))) (p14) (p15) (p16) (p17) (p18) (p19) (p20) (p21) (p22) (p23) (p24) (p25) (p26) (r17.fst.1) (r17.fst.snd.1) (r17.fst.snd.snd.1) (r17.fst.snd.snd.2) (p31)
            else
              bif Decidable.decide (p13 = (↑(nat_lit 0) : Int)) then
                arena_Turn_L16x6 k (p0) (p1) (p2) (p3) (p4) (p5) (p6) (p7) (p8) (p9) (p10) (p11) (p12) (Go.RowKit.wrap64 (p13 + (1 : Int))) (p14) (p15) (p20) (p21) (p22) (p23) (p24) (p25) (p26) (r17.fst.1) (r17.fst.snd.1) (r17.fst.snd.snd.1) (r17.fst.snd.snd.2) (p27) (p28) (p29) (p30) (p31)
              else
                none
        else
          bif Decidable.decide (p13 = (↑(nat_lit 0) : Int)) then
            (era_Safe ((p26, p31))).bind fun r18 =>
            (pool_Reclaim (((p1, p2, p3, p4), r18))).bind fun r19 =>
            bif Decidable.decide (p13 = (↑(nat_lit 2) : Int)) then
              arena_Turn_L16x4 k (p0) (p1) (p2) (p3) (p4) (p5) (p6) (p7) (p8) (p9) (p10) (p11) (p12) (Go.RowKit.wrap64 (p13 + (1 : Int))) (p14) (p15) (p16) (p17) (p18) (p19) (p24) (p25) (p26) (p27) (p28) (p29) (p30) (r19.fst.1) (r19.fst.snd.1) (r19.fst.snd.snd.1) (r19.fst.snd.snd.2) (p31)
            else
              bif Decidable.decide (p13 = (↑(nat_lit 1) : Int)) then
                arena_Turn_L16x2 k (p0) (p1) (p2) (p3) (p4) (p5) (p6) (p7) (p8) (p9) (p10) (p11) (p12) (Go.RowKit.wrap64 (p13 + (1 : Int))) (p14) (p15) (p16) (p17) (p18) (p19) (p20) (p21) (p22) (p23) (p24) (p25) (p26) (r19.fst.1) (r19.fst.snd.1) (r19.fst.snd.snd.1) (r19.fst.snd.snd.2) (p31)
              else
                bif Decidable.decide (p13 = (↑(nat_lit 0) : Int)) then
                  arena_Turn_L16x6 k (p0) (p1) (p2) (p3) (p4) (p5) (p6) (p7) (p8) (p9) (p10) (p11) (p12) (Go.RowKit.wrap64 (p13 + (1 : Int))) (p14) (p15) (p20) (p21) (p22) (p23) (p24) (p25) (p26) (r19.fst.1) (r19.fst.snd.1) (r19.fst.snd.snd.1) (r19.fst.snd.snd.2) (p27) (p28) (p29) (p30) (p31)
                else
                  none
          else
            none
    else
      some (((p14, p15, ((p16, p17, p18, p19), (p27, p28, p29, p30), p20, p21, p22, p23), p24, p31), p0))
def arena_Turn_L16x3 : Nat → (Bool) → (List Int) → (List Int) → (List Int) → (List Int) → (List Int) → (List Int) → (List Int) → (List Int) → (List Int) → (List Int) → (List Int) → (List Int) → (Int) → (List Int) → (List Int) → (List Int) → (List Int) → (List Int) → (List Int) → (List Int) → (List Int) → (List Int) → (List Int) → (Int) → (Int) → (Int) → (List Int) → (List Int) → (List Int) → (List Int) → (List Int) → Option ((List Int × List Int × ((List Int × List Int × List Int × List Int) × (List Int × List Int × List Int × List Int) × List Int × List Int × List Int × List Int) × Int × List Int) × Bool)
  | 0, _, _, _, _, _, _, _, _, _, _, _, _, _, _, _, _, _, _, _, _, _, _, _, _, _, _, _, _, _, _, _, _ => none
  | k + 1, p0, p1, p2, p3, p4, p5, p6, p7, p8, p9, p10, p11, p12, p13, p14, p15, p16, p17, p18, p19, p20, p21, p22, p23, p24, p25, p26, p27, p28, p29, p30, p31 =>
    bif Decidable.decide (p13 < (3 : Int)) then
      bif Decidable.decide (p13 = (↑(nat_lit 2) : Int)) then
        (era_Safe ((p26, p31))).bind fun r20 =>
        (pool_Reclaim (((p9, p10, p11, p12), r20))).bind fun r21 =>
        bif Decidable.decide (p13 = (↑(nat_lit 2) : Int)) then
          arena_Turn_L16x5 k (p0) (p1) (p2) (p3) (p4) (p5) (p6) (p7) (p8) (p9) (p10) (p11) (p12) (Go.RowKit.wrap64 (p13 + (1 : Int))) (p14) (p15) (p16) (p17) (p18) (p19) (p24) (p25) (p26) (p27) (p28) (p29) (p30) (r21.fst.1) (r21.fst.snd.1) (r21.fst.snd.snd.1) (r21.fst.snd.snd.2) (p31)
        else
          bif Decidable.decide (p13 = (↑(nat_lit 1) : Int)) then
            arena_Turn_L16x6 k (p0) (p1) (p2) (p3) (p4) (p5) (p6) (p7) (p8) (p9) (p10) (p11) (p12) (Go.RowKit.wrap64 (p13 + (1 : Int))) (p14) (p15) (p20) (p21) (p22) (p23) (p24) (p25) (p26) (p27) (p28) (p29) (p30) (r21.fst.1) (r21.fst.snd.1) (r21.fst.snd.snd.1) (r21.fst.snd.snd.2) (p31)
          else
            bif Decidable.decide (p13 = (↑(nat_lit 0) : Int)) then
              arena_Turn_L16x3 k (p0) (p1) (p2) (p3) (p4) (p5) (p6) (p7) (p8) (p9) (p10) (p11) (p12) (Go.RowKit.wrap64 (p13 + (1 : Int))) (p14) (p15) (p16) (p17) (p18) (p19) (p20) (p21) (p22) (p23) (p24) (p25) (p26) (r21.fst.1) (r21.fst.snd.1) (r21.fst.snd.snd.1) (r21.fst.snd.snd.2) (p31)
            else
              none
      else
        bif Decidable.decide (p13 = (↑(nat_lit 1) : Int)) then
          (era_Safe ((p26, p31))).bind fun r22 =>
          (pool_Reclaim (((p5, p6, p7, p8), r22))).bind fun r23 =>
          bif Decidable.decide (p13 = (↑(nat_lit 2) : Int)) then
            arena_Turn_L16x5 k (p0) (p1) (p2) (p3) (p4) (p5) (p6) (p7) (p8) (p9) (p10) (p11) (p12) (Go.RowKit.wrap64 (p13 + (1 : Int))) (p14) (p15) (p16) (p17) (p18) (p19) (p24) (p25) (p26) (p27) (p28) (p29) (p30) (r23.fst.1) (r23.fst.snd.1) (r23.fst.snd.snd.1) (r23.fst.snd.snd.2) (p31)
          else
            bif Decidable.decide (p13 = (↑(nat_lit 1) : Int)) then
              arena_Turn_L16x6 k (p0) (p1) (p2) (p3) (p4) (p5) (p6) (p7) (p8) (p9) (p10) (p11) (p12) (Go.RowKit.wrap64 (p13 + (1 : Int))) (p14) (p15) (p20) (p21) (p22) (p23) (p24) (p25) (p26) (p27) (p28) (p29) (p30) (r23.fst.1) (r23.fst.snd.1) (r23.fst.snd.snd.1) (r23.fst.snd.snd.2) (p31)
            else
              bif Decidable.decide (p13 = (↑(nat_lit 0) : Int)) then
                arena_Turn_L16x3 k (p0) (p1) (p2) (p3) (p4) (p5) (p6) (p7) (p8) (p9) (p10) (p11) (p12) (Go.RowKit.wrap64 (p13 + (1 : Int))) (p14) (p15) (p16) (p17) (p18) (p19) (p20) (p21) (p22) (p23) (p24) (p25) (p26) (r23.fst.1) (r23.fst.snd.1) (r23.fst.snd.snd.1) (r23.fst.snd.snd.2) (p31)
              else
                none
        else
          bif Decidable.decide (p13 = (↑(nat_lit 0) : Int)) then
            (era_Safe ((p26, p31))).bind fun r24 =>
            (pool_Reclaim (((p1, p2, p3, p4), r24))).bind fun r25 =>
            bif Decidable.decide (p13 = (↑(nat_lit 2) : Int)) then
              arena_Turn_L16x5 k (p0) (p1) (p2) (p3) (p4) (p5) (p6) (p7) (p8) (p9) (p10) (p11) (p12) (Go.RowKit.wrap64 (p13 + (1 : Int))) (p14) (p15) (p16) (p17) (p18) (p19) (p24) (p25) (p26) (p27) (p28) (p29) (p30) (r25.fst.1) (r25.fst.snd.1) (r25.fst.snd.snd.1) (r25.fst.snd.snd.2) (p31)
            else
              bif Decidable.decide (p13 = (↑(nat_lit 1) : Int)) then
                arena_Turn_L16x6 k (p0) (p1) (p2) (p3) (p4) (p5) (p6) (p7) (p8) (p9) (p10) (p11) (p12) (Go.RowKit.wrap64 (p13 + (1 : Int))) (p14) (p15) (p20) (p21) (p22) (p23) (p24) (p25) (p26) (p27) (p28) (p29) (p30) (r25.fst.1) (r25.fst.snd.1) (r25.fst.snd.snd.1) (r25.fst.snd.snd.2) (p31)
              else
                bif Decidable.decide (p13 = (↑(nat_lit 0) : Int)) then
                  arena_Turn_L16x3 k (p0) (p1) (p2) (p3) (p4) (p5) (p6) (p7) (p8) (p9) (p10) (p11) (p12) (Go.RowKit.wrap64 (p13 + (1 : Int))) (p14) (p15) (p16) (p17) (p18) (p19) (p20) (p21) (p22) (p23) (p24) (p25) (p26) (r25.fst.1) (r25.fst.snd.1) (r25.fst.snd.snd.1) (r25.fst.snd.snd.2) (p31)
                else
                  none
          else
            none
    else
      some (((p14, p15, ((p27, p28, p29, p30), (p16, p17, p18, p19), p20, p21, p22, p23), p24, p31), p0))
def arena_Turn_L16x4 : Nat → (Bool) → (List Int) → (List Int) → (List Int) → (List Int) → (List Int) → (List Int) → (List Int) → (List Int) → (List Int) → (List Int) → (List Int) → (List Int) → (Int) → (List Int) → (List Int) → (List Int) → (List Int) → (List Int) → (List Int) → (Int) → (Int) → (Int) → (List Int) → (List Int) → (List Int) → (List Int) → (List Int) → (List Int) → (List Int) → (List Int) → (List Int) → Option ((List Int × List Int × ((List Int × List Int × List Int × List Int) × (List Int × List Int × List Int × List Int) × List Int × List Int × List Int × List Int) × Int × List Int) × Bool)
  | 0, _, _, _, _, _, _, _, _, _, _, _, _, _, _, _, _, _, _, _, _, _, _, _, _, _, _, _, _, _, _, _, _ => none
  | k + 1, p0, p1, p2, p3, p4, p5, p6, p7, p8, p9, p10, p11, p12, p13, p14, p15, p16, p17, p18, p19, p20, p21, p22, p23, p24, p25, p26, p27, p28, p29, p30, p31 =>
    bif Decidable.decide (p13 < (3 : Int)) then
      bif Decidable.decide (p13 = (↑(nat_lit 2) : Int)) then
        (era_Safe ((p22, p31))).bind fun r26 =>
        (pool_Reclaim (((p9, p10, p11, p12), r26))).bind fun r27 =>
        bif Decidable.decide (p13 = (↑(nat_lit 2) : Int)) then
          arena_Turn_L16x4 k (p0) (p1) (p2) (p3) (p4) (p5) (p6) (p7) (p8) (p9) (p10) (p11) (p12) (Go.RowKit.wrap64 (p13 + (1 : Int))) (p14) (p15) (p16) (p17) (p18) (p19) (p20) (p21) (p22) (p23) (p24) (p25) (p26) (r27.fst.1) (r27.fst.snd.1) (r27.fst.snd.snd.1) (r27.fst.snd.snd.2) (p31)
        else
          bif Decidable.decide (p13 = (↑(nat_lit 1) : Int)) then
            arena_Turn_L16x4 k (p0) (p1) (p2) (p3) (p4) (p5) (p6) (p7) (p8) (p9) (p10) (p11) (p12) (Go.RowKit.wrap64 (p13 + (1 : Int))) (p14) (p15) (p16) (p17) (p18) (p19) (p20) (p21) (p22) (r27.fst.1) (r27.fst.snd.1) (r27.fst.snd.snd.1) (r27.fst.snd.snd.2) (p27) (p28) (p29) (p30) (p31)
          else
            bif Decidable.decide (p13 = (↑(nat_lit 0) : Int)) then
              arena_Turn_L16x7 k (p0) (p1) (p2) (p3) (p4) (p5) (p6) (p7) (p8) (p9) (p10) (p11) (p12) (Go.RowKit.wrap64 (p13 + (1 : Int))) (p14) (p15) (p20) (p21) (p22) (r27.fst.1) (r27.fst.snd.1) (r27.fst.snd.snd.1) (r27.fst.snd.snd.2) (p23) (p24) (p25) (p26) (p27) (p28) (p29) (p30) (p31)
            else
              none
      else
        bif Decidable.decide (p13 = (↑(nat_lit 1) : Int)) then
          (era_Safe ((p22, p31))).bind fun r28 =>
          (pool_Reclaim (((p5, p6, p7, p8), r28))).bind fun r29 =>
          bif Decidable.decide (p13 = (↑(nat_lit 2) : Int)) then
            arena_Turn_L16x4 k (p0) (p1) (p2) (p3) (p4) (p5) (p6) (p7) (p8) (p9) (p10) (p11) (p12) (Go.RowKit.wrap64 (p13 + (1 : Int))) (p14) (p15) (p16) (p17) (p18) (p19) (p20) (p21) (p22) (p23) (p24) (p25) (p26) (r29.fst.1) (r29.fst.snd.1) (r29.fst.snd.snd.1) (r29.fst.snd.snd.2) (p31)
          else
            bif Decidable.decide (p13 = (↑(nat_lit 1) : Int)) then
              arena_Turn_L16x4 k (p0) (p1) (p2) (p3) (p4) (p5) (p6) (p7) (p8) (p9) (p10) (p11) (p12) (Go.RowKit.wrap64 (p13 + (1 : Int))) (p14) (p15) (p16) (p17) (p18) (p19) (p20) (p21) (p22) (r29.fst.1) (r29.fst.snd.1) (r29.fst.snd.snd.1) (r29.fst.snd.snd.2) (p27) (p28) (p29) (p30) (p31)
            else
              bif Decidable.decide (p13 = (↑(nat_lit 0) : Int)) then
                arena_Turn_L16x7 k (p0) (p1) (p2) (p3) (p4) (p5) (p6) (p7) (p8) (p9) (p10) (p11) (p12) (Go.RowKit.wrap64 (p13 + (1 : Int))) (p14) (p15) (p20) (p21) (p22) (r29.fst.1) (r29.fst.snd.1) (r29.fst.snd.snd.1) (r29.fst.snd.snd.2) (p23) (p24) (p25) (p26) (p27) (p28) (p29) (p30) (p31)
              else
                none
        else
          bif Decidable.decide (p13 = (↑(nat_lit 0) : Int)) then
            (era_Safe ((p22, p31))).bind fun r30 =>
            (pool_Reclaim (((p1, p2, p3, p4), r30))).bind fun r31 =>
            bif Decidable.decide (p13 = (↑(nat_lit 2) : Int)) then
              arena_Turn_L16x4 k (p0) (p1) (p2) (p3) (p4) (p5) (p6) (p7) (p8) (p9) (p10) (p11) (p12) (Go.RowKit.wrap64 (p13 + (1 : Int))) (p14) (p15) (p16) (p17) (p18) (p19) (p20) (p21) (p22) (p23) (p24) (p25) (p26) (r31.fst.1) (r31.fst.snd.1) (r31.fst.snd.snd.1) (r31.fst.snd.snd.2) (p31)
            else
              bif Decidable.decide (p13 = (↑(nat_lit 1) : Int)) then
                arena_Turn_L16x4 k (p0) (p1) (p2) (p3) (p4) (p5) (p6) (p7) (p8) (p9) (p10) (p11) (p12) (Go.RowKit.wrap64 (p13 + (1 : Int))) (p14) (p15) (p16) (p17) (p18) (p19) (p20) (p21) (p22) (r31.fst.1) (r31.fst.snd.1) (r31.fst.snd.snd.1) (r31.fst.snd.snd.2) (p27) (p28) (p29) (p30) (p31)
              else
                bif Decidable.decide (p13 = (↑(nat_lit 0) : Int)) then
                  arena_Turn_L16x7 k (p0) (p1) (p2) (p3) (p4) (p5) (p6) (p7) (p8) (p9) (p10) (p11) (p12) (Go.RowKit.wrap64 (p13 + (1 : Int))) (p14) (p15) (p20) (p21) (p22) (r31.fst.1) (r31.fst.snd.1) (r31.fst.snd.snd.1) (r31.fst.snd.snd.2) (p23) (p24) (p25) (p26) (p27) (p28) (p29) (p30) (p31)
                else
                  none
          else
            none
    else
      some (((p14, p15, ((p16, p17, p18, p19), (p23, p24, p25, p26), p27, p28, p29, p30), p20, p31), p0))
def arena_Turn_L16x5 : Nat → (Bool) → (List Int) → (List Int) → (List Int) → (List Int) → (List Int) → (List Int) → (List Int) → (List Int) → (List Int) → (List Int) → (List Int) → (List Int) → (Int) → (List Int) → (List Int) → (List Int) → (List Int) → (List Int) → (List Int) → (Int) → (Int) → (Int) → (List Int) → (List Int) → (List Int) → (List Int) → (List Int) → (List Int) → (List Int) → (List Int) → (List Int) → Option ((List Int × List Int × ((List Int × List Int × List Int × List Int) × (List Int × List Int × List Int × List Int) × List Int × List Int × List Int × List Int) × Int × List Int) × Bool)
  | 0, _, _, _, _, _, _, _, _, _, _, _, _, _, _, _, _, _, _, _, _, _, _, _, _, _, _, _, _, _, _, _, _ => none
  | k + 1, p0, p1, p2, p3, p4, p5, p6, p7, p8, p9, p10, p11, p12, p13, p14, p15, p16, p17, p18, p19, p20, p21, p22, p23, p24, p25, p26, p27, p28, p29, p30, p31 =>
    bif Decidable.decide (p13 < (3 : Int)) then
      bif Decidable.decide (p13 = (↑(nat_lit 2) : Int)) then
        (era_Safe ((p22, p31))).bind fun r32 =>
        (pool_Reclaim (((p9, p10, p11, p12), r32))).bind fun r33 =>
        bif Decidable.decide (p13 = (↑(nat_lit 2) : Int)) then
          arena_Turn_L16x5 k (p0) (p1) (p2) (p3) (p4) (p5) (p6) (p7) (p8) (p9) (p10) (p11) (p12) (Go.RowKit.wrap64 (p13 + (1 : Int))) (p14) (p15) (p16) (p17) (p18) (p19) (p20) (p21) (p22) (p23) (p24) (p25) (p26) (r33.fst.1) (r33.fst.snd.1) (r33.fst.snd.snd.1) (r33.fst.snd.snd.2) (p31)
        else
          bif Decidable.decide (p13 = (↑(nat_lit 1) : Int)) then
            arena_Turn_L16x7 k (p0) (p1) (p2) (p3) (p4) (p5) (p6) (p7) (p8) (p9) (p10) (p11) (p12) (Go.RowKit.wrap64 (p13 + (1 : Int))) (p14) (p15) (p20) (p21) (p22) (p23) (p24) (p25) (p26) (r33.fst.1) (r33.fst.snd.1) (r33.fst.snd.snd.1) (r33.fst.snd.snd.2) (p27) (p28) (p29) (p30) (p31)
          else
            bif Decidable.decide (p13 = (↑(nat_lit 0) : Int)) then
              arena_Turn_L16x5 k (p0) (p1) (p2) (p3) (p4) (p5) (p6) (p7) (p8) (p9) (p10) (p11) (p12) (Go.RowKit.wrap64 (p13 + (1 : Int))) (p14) (p15) (p16) (p17) (p18) (p19) (p20) (p21) (p22) (r33.fst.1) (r33.fst.snd.1) (r33.fst.snd.snd.1) (r33.fst.snd.snd.2) (p27) (p28) (p29) (p30) (p31)
            else
              none
      else
        bif Decidable.decide (p13 = (↑(nat_lit 1) : Int)) then
          (era_Safe ((p22, p31))).bind fun r34 =>
          (pool_Reclaim (((p5, p6, p7, p8), r34))).bind fun r35 =>
          bif Decidable.decide (p13 = (↑(nat_lit 2) : Int)) then
            arena_Turn_L16x5 k (p0) (p1) (p2) (p3) (p4) (p5) (p6) (p7) (p8) (p9) (p10) (p11) (p12) (Go.RowKit.wrap64 (p13 + (1 : Int))) (p14) (p15) (p16) (p17) (p18) (p19) (p20) (p21) (p22) (p23) (p24) (p25) (p26) (r35.fst.1) (r35.fst.snd.1) (r35.fst.snd.snd.1) (r35.fst.snd.snd.2) (p31)
          else
            bif Decidable.decide (p13 = (↑(nat_lit 1) : Int)) then
              arena_Turn_L16x7 k (p0) (p1) (p2) (p3) (p4) (p5) (p6) (p7) (p8) (p9) (p10) (p11) (p12) (Go.RowKit.wrap64 (p13 + (1 : Int))) (p14) (p15) (p20) (p21) (p22) (p23) (p24) (p25) (p26) (r35.fst.1) (r35.fst.snd.1) (r35.fst.snd.snd.1) (r35.fst.snd.snd.2) (p27) (p28) (p29) (p30) (p31)
            else
              bif Decidable.decide (p13 = (↑(nat_lit 0) : Int)) then
                arena_Turn_L16x5 k (p0) (p1) (p2) (p3) (p4) (p5) (p6) (p7) (p8) (p9) (p10) (p11) (p12) (Go.RowKit.wrap64 (p13 + (1 : Int))) (p14) (p15) (p16) (p17) (p18) (p19) (p20) (p21) (p22) (r35.fst.1) (r35.fst.snd.1) (r35.fst.snd.snd.1) (r35.fst.snd.snd.2) (p27) (p28) (p29) (p30) (p31)
              else
                none
        else
          bif Decidable.decide (p13 = (↑(nat_lit 0) : Int)) then
            (era_Safe ((p22, p31))).bind fun r36 =>
            (pool_Reclaim (((p1, p2, p3, p4), r36))).bind fun r37 =>
            bif Decidable.decide (p13 = (↑(nat_lit 2) : Int)) then
              arena_Turn_L16x5 k (p0) (p1) (p2) (p3) (p4) (p5) (p6) (p7) (p8) (p9) (p10) (p11) (p12) (Go.RowKit.wrap64 (p13 + (1 : Int))) (p14) (p15) (p16) (p17) (p18) (p19) (p20) (p21) (p22) (p23) (p24) (p25) (p26) (r37.fst.1) (r37.fst.snd.1) (r37.fst.snd.snd.1) (r37.fst.snd.snd.2) (p31)
            else
              bif Decidable.decide (p13 = (↑(nat_lit 1) : Int)) then
                arena_Turn_L16x7 k (p0) (p1) (p2) (p3) (p4) (p5) (p6) (p7) (p8) (p9) (p10) (p11) (p12) (Go.RowKit.wrap64 (p13 + (1 : Int))) (p14) (p15) (p20) (p21) (p22) (p23) (p24) (p25) (p26) (r37.fst.1) (r37.fst.snd.1) (r37.fst.snd.snd.1) (r37.fst.snd.snd.2) (p27) (p28) (p29) (p30) (p31)
              else
                bif Decidable.decide (p13 = (↑(nat_lit 0) : Int)) then
                  arena_Turn_L16x5 k (p0) (p1) (p2) (p3) (p4) (p5) (p6) (p7) (p8) (p9) (p10) (p11) (p12) (Go.RowKit.wrap64 (p13 + (1 : Int))) (p14) (p15) (p16) (p17) (p18) (p19) (p20) (p21) (p22) (r37.fst.1) (r37.fst.snd.1) (r37.fst.snd.snd.1) (r37.fst.snd.snd.2) (p27) (p28) (p29) (p30) (p31)
                else
                  none
          else
            none
    else
      some (((p14, p15, ((p23, p24, p25, p26), (p16, p17, p18, p19), p27, p28, p29, p30), p20, p31), p0))
def arena_Turn_L16x6 : Nat → (Bool) → (List Int) → (List Int) → (List Int) → (List Int) → (List Int) → (List Int) → (List Int) → (List Int) → (List Int) → (List Int) → (List Int) → (List Int) → (Int) → (List Int) → (List Int) → (List Int) → (List Int) → (List Int) → (List Int) → (Int) → (Int) → (Int) → (List Int) → (List Int) → (List Int) → (List Int) → (List Int) → (List Int) → (List Int) → (List Int) → (List Int) → Option ((List Int × List Int × ((List Int × List Int × List Int × List Int) × (List Int × List Int × List Int × List Int) × List Int × List Int × List Int × List Int) × Int × List Int) × Bool)
  | 0, _, _, _, _, _, _, _, _, _, _, _, _, _, _, _, _, _, _, _, _, _, _, _, _, _, _, _, _, _, _, _, _ => none
  | k + 1, p0, p1, p2, p3, p4, p5, p6, p7, p8, p9, p10, p11, p12, p13, p14, p15, p16, p17, p18, p19, p20, p21, p22, p23, p24, p25, p26, p27, p28, p29, p30, p31 =>
    bif Decidable.decide (p13 < (3 : Int)) then
      bif Decidable.decide (p13 = (↑(nat_lit 2) : Int)) then
        (era_Safe ((p22, p31))).bind fun r38 =>
        (pool_Reclaim (((p9, p10, p11, p12), r38))).bind fun r39 =>
        bif Decidable.decide (p13 = (↑(nat_lit 2) : Int)) then
          arena_Turn_L16x7 k (p0) (p1) (p2) (p3) (p4) (p5) (p6) (p7) (p8) (p9) (p10) (p11) (p12) (Go.RowKit.wrap64 (p13 + (1 : Int))) (p14) (p15) (p20) (p21) (p22) (p23) (p24) (p25) (p26) (p27) (p28) (p29) (p30) (r39.fst.1) (r39.fst.snd.1) (r39.fst.snd.snd.1) (r39.fst.snd.snd.2) (p31)
        else
          bif Decidable.decide (p13 = (↑(nat_lit 1) : Int)) then
            arena_Turn_L16x6 k (p0) (p1) (p2) (p3) (p4) (p5) (p6) (p7) (p8) (p9) (p10) (p11) (p12) (Go.RowKit.wrap64 (p13 + (1 : Int))) (p14) (p15) (p16) (p17) (p18) (p19) (p20) (p21) (p22) (p23) (p24) (p25) (p26) (r39.fst.1) (r39.fst.snd.1) (r39.fst.snd.snd.1) (r39.fst.snd.snd.2) (p31)
          else
            bif Decidable.decide (p13 = (↑(nat_lit 0) : Int)) then
              arena_Turn_L16x6 k (p0) (p1) (p2) (p3) (p4) (p5) (p6) (p7) (p8) (p9) (p10) (p11) (p12) (Go.RowKit.wrap64 (p13 + (1 : Int))) (p14) (p15) (p16) (p17) (p18) (p19) (p20) (p21) (p22) (r39.fst.1) (r39.fst.snd.1) (r39.fst.snd.snd.1) (r39.fst.snd.snd.2) (p27) (p28) (p29) (p30) (p31)
            else
              none
      else
        bif Decidable.decide (p13 = (↑(nat_lit 1) : Int)) then
          (era_Safe ((p22, p31))).bind fun r40 =>
          (pool_Reclaim (((p5, p6, p7, p8), r40))).bind fun r41 =>
          bif Decidable.decide (p13 = (↑(nat_lit 2) : Int)) then
            arena_Turn_L16x7 k (p0) (p1) (p2) (p3) (p4) (p5) (p6) (p7) (p8) (p9) (p10) (p11) (p12) (Go.RowKit.wrap64 (p13 + (1 : Int))) (p14) (p15) (p20) (p21) (p22) (p23) (p24) (p25) (p26) (p27) (p28) (p29) (p30) (r41.fst.1) (r41.fst.snd.1) (r41.fst.snd.snd.1) (r41.fst.snd.snd.2) (p31)
          else
            bif Decidable.decide (p13 = (↑(nat_lit 1) : Int)) then
              arena_Turn_L16x6 k (p0) (p1) (p2) (p3) (p4) (p5) (p6) (p7) (p8) (p9) (p10) (p11) (p12) (Go.RowKit.wrap64 (p13 + (1 : Int))) (p14) (p15) (p16) (p17) (p18) (p19) (p20) (p21) (p22) (p23) (p24) (p25) (p26) (r41.fst.1) (r41.fst.snd.1) (r41.fst.snd.snd.1) (r41.fst.snd.snd.2) (p31)
            else
              bif Decidable.decide (p13 = (↑(nat_lit 0) : Int)) then
                arena_Turn_L16x6 k (p0) (p1) (p2) (p3) (p4) (p5) (p6) (p7) (p8) (p9) (p10) (p11) (p12) (Go.RowKit.wrap64 (p13 + (1 : Int))) (p14) (p15) (p16) (p17) (p18) (p19) (p20) (p21) (p22) (r41.fst.1) (r41.fst.snd.1) (r41.fst.snd.snd.1) (r41.fst.snd.snd.2) (p27) (p28) (p29) (p30) (p31)
              else
                none
        else
          bif Decidable.decide (p13 = (↑(nat_lit 0) : Int)) then
            (era_Safe ((p22, p31))).bind fun r42 =>
            (pool_Reclaim (((p1, p2, p3, p4), r42))).bind fun r43 =>
            bif Decidable.decide (p13 = (↑(nat_lit 2) : Int)) then
              arena_Turn_L16x7 k (p0) (p1) (p2) (p3) (p4) (p5) (p6) (p7) (p8) (p9) (p10) (p11) (p12) (Go.RowKit.wrap64 (p13 + (1 : Int))) (p14) (p15) (p20) (p21) (p22) (p23) (p24) (p25) (p26) (p27) (p28) (p29) (p30) (r43.fst.1) (r43.fst.snd.1) (r43.fst.snd.snd.1) (r43.fst.snd.snd.2) (p31)
            else
              bif Decidable.decide (p13 = (↑(nat_lit 1) : Int)) then
                arena_Turn_L16x6 k (p0) (p1) (p2) (p3) (p4) (p5) (p6) (p7) (p8) (p9) (p10) (p11) (p12) (Go.RowKit.wrap64 (p13 + (1 : Int))) (p14) (p15) (p16) (p17) (p18) (p19) (p20) (p21) (p22) (p23) (p24) (p25) (p26) (r43.fst.1) (r43.fst.snd.1) (r43.fst.snd.snd.1) (r43.fst.snd.snd.2) (p31)
              else
                bif Decidable.decide (p13 = (↑(nat_lit 0) : Int)) then
                  arena_Turn_L16x6 k (p0) (p1) (p2) (p3) (p4) (p5) (p6) (p7) (p8) (p9) (p10) (p11) (p12) (Go.RowKit.wrap64 (p13 + (1 : Int))) (p14) (p15) (p16) (p17) (p18) (p19) (p20) (p21) (p22) (r43.fst.1) (r43.fst.snd.1) (r43.fst.snd.snd.1) (r43.fst.snd.snd.2) (p27) (p28) (p29) (p30) (p31)
                else
                  none
          else
            none
    else
      some (((p14, p15, ((p23, p24, p25, p26), (p27, p28, p29, p30), p16, p17, p18, p19), p20, p31), p0))
def arena_Turn_L16x7 : Nat → (Bool) → (List Int) → (List Int) → (List Int) → (List Int) → (List Int) → (List Int) → (List Int) → (List Int) → (List Int) → (List Int) → (List Int) → (List Int) → (Int) → (List Int) → (List Int) → (Int) → (Int) → (Int) → (List Int) → (List Int) → (List Int) → (List Int) → (List Int) → (List Int) → (List Int) → (List Int) → (List Int) → (List Int) → (List Int) → (List Int) → (List Int) → Option ((List Int × List Int × ((List Int × List Int × List Int × List Int) × (List Int × List Int × List Int × List Int) × List Int × List Int × List Int × List Int) × Int × List Int) × Bool)
  | 0, _, _, _, _, _, _, _, _, _, _, _, _, _, _, _, _, _, _, _, _, _, _, _, _, _, _, _, _, _, _, _, _ => none
  | k + 1, p0, p1, p2, p3, p4, p5, p6, p7, p8, p9, p10, p11, p12, p13, p14, p15, p16, p17, p18, p19, p20, p21, p22, p23, p24, p25, p26, p27, p28, p29, p30, p31 =>
    bif Decidable.decide (p13 < (3 : Int)) then
      bif Decidable.decide (p13 = (↑(nat_lit 2) : Int)) then
        (era_Safe ((p18, p31))).bind fun r44 =>
        (pool_Reclaim (((p9, p10, p11, p12), r44))).bind fun r45 =>
        bif Decidable.decide (p13 = (↑(nat_lit 2) : Int)) then
          arena_Turn_L16x7 k (p0) (p1) (p2) (p3) (p4) (p5) (p6) (p7) (p8) (p9) (p10) (p11) (p12) (Go.RowKit.wrap64 (p13 + (1 : Int))) (p14) (p15) (p16) (p17) (p18) (p19) (p20) (p21) (p22) (p23) (p24) (p25) (p26) (r45.fst.1) (r45.fst.snd.1) (r45.fst.snd.snd.1) (r45.fst.snd.snd.2) (p31)
        else
          bif Decidable.decide (p13 = (↑(nat_lit 1) : Int)) then
            arena_Turn_L16x7 k (p0) (p1) (p2) (p3) (p4) (p5) (p6) (p7) (p8) (p9) (p10) (p11) (p12) (Go.RowKit.wrap64 (p13 + (1 : Int))) (p14) (p15) (p16) (p17) (p18) (p19) (p20) (p21) (p22) (r45.fst.1) (r45.fst.snd.1) (r45.fst.snd.snd.1) (r45.fst.snd.snd.2) (p27) (p28) (p29) (p30) (p31)
          else
            bif Decidable.decide (p13 = (↑(nat_lit 0) : Int)) then
              arena_Turn_L16x7 k (p0) (p1) (p2) (p3) (p4) (p5) (p6) (p7) (p8) (p9) (p10) (p11) (p12) (Go.RowKit.wrap64 (p13 + (1 : Int))) (p14) (p15) (p16) (p17) (p18) (r45.fst.1) (r45.fst.snd.1) (r45.fst.snd.snd.1) (r45.fst.snd.snd.2) (p23) (p24) (p25) (p26) (p27) (p28) (p29) (p30) (p31)
            else
              none
      else
        bif Decidable.decide (p13 = (↑(nat_lit 1) : Int)) then
          (era_Safe ((p18, p31))).bind fun r46 =>
          (pool_Reclaim (((p5, p6, p7, p8), r46))).bind fun r47 =>
          bif Decidable.decide (p13 = (↑(nat_lit 2) : Int)) then
            arena_Turn_L16x7 k (p0) (p1) (p2) (p3) (p4) (p5) (p6) (p7) (p8) (p9) (p10) (p11) (p12) (Go.RowKit.wrap64 (p13 + (1 : Int))) (p14) (p15) (p16) (p17) (p18) (p19) (p20) (p21) (p22) (p23) (p24) (p25) (p26) (r47.fst.1) (r47.fst.snd.1) (r47.fst.snd.snd.1) (r47.fst.snd.snd.2) (p31)
          else
            bif Decidable.decide (p13 = (↑(nat_lit 1) : Int)) then
              arena_Turn_L16x7 k (p0) (p1) (p2) (p3) (p4) (p5) (p6) (p7) (p8) (p9) (p10) (p11) (p12) (Go.RowKit.wrap64 (p13 + (1 : Int))) (p14) (p15) (p16) (p17) (p18) (p19) (p20) (p21) (p22) (r47.fst.1) (r47.fst.snd.1) (r47.fst.snd.snd.1) (r47.fst.snd.snd.2) (p27) (p28) (p29) (p30) (p31)
            else
              bif Decidable.decide (p13 = (↑(nat_lit 0) : Int)) then
                arena_Turn_L16x7 k (p0) (p1) (p2) (p3) (p4) (p5) (p6) (p7) (p8) (p9) (p10) (p11) (p12) (Go.RowKit.wrap64 (p13 + (1 : Int))) (p14) (p15) (p16) (p17) (p18) (r47.fst.1) (r47.fst.snd.1) (r47.fst.snd.snd.1) (r47.fst.snd.snd.2) (p23) (p24) (p25) (p26) (p27) (p28) (p29) (p30) (p31)
              else
                none
        else
          bif Decidable.decide (p13 = (↑(nat_lit 0) : Int)) then
            (era_Safe ((p18, p31))).bind fun r48 =>
            (pool_Reclaim (((p1, p2, p3, p4), r48))).bind fun r49 =>
            bif Decidable.decide (p13 = (↑(nat_lit 2) : Int)) then
              arena_Turn_L16x7 k (p0) (p1) (p2) (p3) (p4) (p5) (p6) (p7) (p8) (p9) (p10) (p11) (p12) (Go.RowKit.wrap64 (p13 + (1 : Int))) (p14) (p15) (p16) (p17) (p18) (p19) (p20) (p21) (p22) (p23) (p24) (p25) (p26) (r49.fst.1) (r49.fst.snd.1) (r49.fst.snd.snd.1) (r49.fst.snd.snd.2) (p31)
            else
              bif Decidable.decide (p13 = (↑(nat_lit 1) : Int)) then
                arena_Turn_L16x7 k (p0) (p1) (p2) (p3) (p4) (p5) (p6) (p7) (p8) (p9) (p10) (p11) (p12) (Go.RowKit.wrap64 (p13 + (1 : Int))) (p14) (p15) (p16) (p17) (p18) (p19) (p20) (p21) (p22) (r49.fst.1) (r49.fst.snd.1) (r49.fst.snd.snd.1) (r49.fst.snd.snd.2) (p27) (p28) (p29) (p30) (p31)
              else
                bif Decidable.decide (p13 = (↑(nat_lit 0) : Int)) then
                  arena_Turn_L16x7 k (p0) (p1) (p2) (p3) (p4) (p5) (p6) (p7) (p8) (p9) (p10) (p11) (p12) (Go.RowKit.wrap64 (p13 + (1 : Int))) (p14) (p15) (p16) (p17) (p18) (r49.fst.1) (r49.fst.snd.1) (r49.fst.snd.snd.1) (r49.fst.snd.snd.2) (p23) (p24) (p25) (p26) (p27) (p28) (p29) (p30) (p31)
                else
                  none
          else
            none
    else
      some (((p14, p15, ((p19, p20, p21, p22), (p23, p24, p25, p26), p27, p28, p29, p30), p16, p31), p0))
end
def arena_Turn_K (K : Nat) (x : List Int × List Int × ((List Int × List Int × List Int × List Int) × (List Int × List Int × List Int × List Int) × List Int × List Int × List Int × List Int) × Int × List Int) : Option ((List Int × List Int × ((List Int × List Int × List Int × List Int) × (List Int × List Int × List Int × List Int) × List Int × List Int × List Int × List Int) × Int × List Int) × Bool) :=
  (arena_may (((x.1, x.snd.1, ((x.snd.snd.fst.fst.1, x.snd.snd.fst.fst.snd.1, x.snd.snd.fst.fst.snd.snd.1, x.snd.snd.fst.fst.snd.snd.2), (x.snd.snd.fst.snd.fst.1, x.snd.snd.fst.snd.fst.snd.1, x.snd.snd.fst.snd.fst.snd.snd.1, x.snd.snd.fst.snd.fst.snd.snd.2), x.snd.snd.fst.snd.snd.1, x.snd.snd.fst.snd.snd.snd.1, x.snd.snd.fst.snd.snd.snd.snd.1, x.snd.snd.fst.snd.snd.snd.snd.2), x.snd.snd.snd.1, x.snd.snd.snd.2), (1 : Int)))).bind fun r0 =>
  bif !r0 then
    some ((([], [], (([], [], [], []), ([], [], [], []), [], [], [], []), (0 : Int), []), Bool.false))
  else
    (era_Turn ((x.snd.snd.snd.1, x.snd.snd.snd.2))).bind fun r1 =>
    bif r1.2 then
      arena_Turn_L16 K (r1.2) (x.snd.snd.fst.fst.1) (x.snd.snd.fst.fst.snd.1) (x.snd.snd.fst.fst.snd.snd.1) (x.snd.snd.fst.fst.snd.snd.2) (x.snd.snd.fst.snd.fst.1) (x.snd.snd.fst.snd.fst.snd.1) (x.snd.snd.fst.snd.fst.snd.snd.1) (x.snd.snd.fst.snd.fst.snd.snd.2) (x.snd.snd.fst.snd.snd.1) (x.snd.snd.fst.snd.snd.snd.1) (x.snd.snd.fst.snd.snd.snd.snd.1) (x.snd.snd.fst.snd.snd.snd.snd.2) ((0 : Int)) (x.1) (x.snd.1) (x.snd.snd.fst.fst.1) (x.snd.snd.fst.fst.snd.1) (x.snd.snd.fst.fst.snd.snd.1) (x.snd.snd.fst.fst.snd.snd.2) (x.snd.snd.fst.snd.fst.1) (x.snd.snd.fst.snd.fst.snd.1) (x.snd.snd.fst.snd.fst.snd.snd.1) (x.snd.snd.fst.snd.fst.snd.snd.2) (x.snd.snd.fst.snd.snd.1) (x.snd.snd.fst.snd.snd.snd.1) (x.snd.snd.fst.snd.snd.snd.snd.1) (x.snd.snd.fst.snd.snd.snd.snd.2) (r1.fst.1) ((0 : Int)) (r1.fst.1) (r1.fst.2)
    else
      some (((x.1, x.snd.1, ((x.snd.snd.fst.fst.1, x.snd.snd.fst.fst.snd.1, x.snd.snd.fst.fst.snd.snd.1, x.snd.snd.fst.fst.snd.snd.2), (x.snd.snd.fst.snd.fst.1, x.snd.snd.fst.snd.fst.snd.1, x.snd.snd.fst.snd.fst.snd.snd.1, x.snd.snd.fst.snd.fst.snd.snd.2), x.snd.snd.fst.snd.snd.1, x.snd.snd.fst.snd.snd.snd.1, x.snd.snd.fst.snd.snd.snd.snd.1, x.snd.snd.fst.snd.snd.snd.snd.2), r1.fst.1, r1.fst.2), r1.2))
def arena_Turn (x : ((List Int) × ((List Int) × ((((List Int) × ((List Int) × ((List Int) × (List Int)))) × (((List Int) × ((List Int) × ((List Int) × (List Int)))) × ((List Int) × ((List Int) × ((List Int) × (List Int)))))) × (Int × (List Int)))))) : Option (((List Int) × ((List Int) × ((((List Int) × ((List Int) × ((List Int) × (List Int)))) × (((List Int) × ((List Int) × ((List Int) × (List Int)))) × ((List Int) × ((List Int) × ((List Int) × (List Int)))))) × (Int × (List Int))))) × Bool) := arena_Turn_K 2000000 x
def arena_Turn_S : Sig := ⟨[⟨true, (.pair (.sl .int) (.pair (.sl .int) (.pair (.pair (.pair (.sl .int) (.pair (.sl .int) (.pair (.sl .int) (.sl .int)))) (.pair (.pair (.sl .int) (.pair (.sl .int) (.pair (.sl .int) (.sl .int)))) (.pair (.sl .int) (.pair (.sl .int) (.pair (.sl .int) (.sl .int)))))) (.pair .int (.sl .int)))))⟩], [⟨true, (.pair (.sl .int) (.pair (.sl .int) (.pair (.pair (.pair (.sl .int) (.pair (.sl .int) (.pair (.sl .int) (.sl .int)))) (.pair (.pair (.sl .int) (.pair (.sl .int) (.pair (.sl .int) (.sl .int)))) (.pair (.sl .int) (.pair (.sl .int) (.pair (.sl .int) (.sl .int)))))) (.pair .int (.sl .int)))))⟩, ⟨false, .bool⟩], false, arena_Turn⟩
/-! tendril/tag.Pack -/
def tag_Pack (x : Int × Int) : Option (Int × Int) :=
  bif Decidable.decide (x.1 < (0 : Int)) then
    some (((0 : Int), (1 : Int)))
  else
    bif Decidable.decide ((1024 : Int) ≤ x.1) then
      some (((0 : Int), (1 : Int)))
    else
      bif Decidable.decide (x.2 < (0 : Int)) then
        some (((0 : Int), (1 : Int)))
      else
        bif Decidable.decide ((1099511627776 : Int) ≤ x.2) then
          some (((0 : Int), (1 : Int)))
        else
          some ((Go.RowKit.wrap64 (Go.RowKit.wrap64 (Go.RowKit.wrap64 (x.2 * (2 : Int) ^ Min.min (Int.toNat (10 : Int)) Go.IntKind.i64.bits) + x.1) + (1 : Int)), (0 : Int)))
def tag_Pack_S : Sig := ⟨[⟨false, .int⟩, ⟨false, .int⟩], [⟨false, .int⟩, ⟨false, .int⟩], false, tag_Pack⟩
/-! tendril/pool.Take -/
def pool_Take (x : List Int × List Int × List Int × List Int) : Option ((List Int × List Int × List Int × List Int) × Int × Int) :=
  (pool_Check ((x.1, x.snd.1, x.snd.snd.1, x.snd.snd.2))).bind fun r0 =>
  bif r0 != (0 : Int) then
    some ((([], [], [], []), (0 : Int), r0))
  else
    bif (↑(List.length x.snd.snd.2) : Int) == (0 : Int) then
      some ((([], [], [], []), (0 : Int), (3 : Int)))
    else
      (pool_own ((x.1, x.snd.1, x.snd.snd.1, x.snd.snd.2))).bind fun r1 =>
      bif Decidable.decide ((0 : Int) < (↑(List.length r1.snd.snd.2) : Int)) then
        bif Decidable.decide ((1 : Int) ≤ (↑(List.length r1.snd.snd.2) : Int)) then
          bif Decidable.decide ((0 : Int) ≤ List.getD r1.snd.snd.2 (Int.toNat (0 : Int)) (0 : Int)) then
            bif Decidable.decide (List.getD r1.snd.snd.2 (Int.toNat (0 : Int)) (0 : Int) < (↑(List.length r1.snd.1) : Int)) then
              bif Decidable.decide ((0 : Int) ≤ List.getD r1.snd.snd.2 (Int.toNat (0 : Int)) (0 : Int)) then
                bif Decidable.decide (List.getD r1.snd.snd.2 (Int.toNat (0 : Int)) (0 : Int) < (↑(List.length r1.1) : Int)) then
                  (tag_Pack ((List.getD r1.snd.snd.2 (Int.toNat (0 : Int)) (0 : Int), List.getD r1.1 (List.getD r1.snd.snd.2 (Int.toNat (0 : Int)) (0 : Int)).toNat (0 : Int)))).bind fun r2 =>
                  some (((r1.1, List.set r1.snd.1 (List.getD r1.snd.snd.2 (Int.toNat (0 : Int)) (0 : Int)).toNat (1 : Int), r1.snd.snd.1, List.drop (Int.toNat (1 : Int)) (List.take (List.length r1.snd.snd.2) r1.snd.snd.2)), r2.1, r2.2))
                else
                  none
              else
                none
            else
              none
          else
            none
        else
          none
      else
        none
def pool_Take_S : Sig := ⟨[⟨true, (.pair (.sl .int) (.pair (.sl .int) (.pair (.sl .int) (.sl .int))))⟩], [⟨true, (.pair (.sl .int) (.pair (.sl .int) (.pair (.sl .int) (.sl .int))))⟩, ⟨false, .int⟩, ⟨false, .int⟩], true, pool_Take⟩
/-! tendril/arena.Take -/
def arena_Take (x : (List Int × List Int × ((List Int × List Int × List Int × List Int) × (List Int × List Int × List Int × List Int) × List Int × List Int × List Int × List Int) × Int × List Int) × Int) : Option ((List Int × List Int × ((List Int × List Int × List Int × List Int) × (List Int × List Int × List Int × List Int) × List Int × List Int × List Int × List Int) × Int × List Int) × Int × Int) :=
  (arena_may (((x.fst.1, x.fst.snd.1, ((x.fst.snd.snd.fst.fst.1, x.fst.snd.snd.fst.fst.snd.1, x.fst.snd.snd.fst.fst.snd.snd.1, x.fst.snd.snd.fst.fst.snd.snd.2), (x.fst.snd.snd.fst.snd.fst.1, x.fst.snd.snd.fst.snd.fst.snd.1, x.fst.snd.snd.fst.snd.fst.snd.snd.1, x.fst.snd.snd.fst.snd.fst.snd.snd.2), x.fst.snd.snd.fst.snd.snd.1, x.fst.snd.snd.fst.snd.snd.snd.1, x.fst.snd.snd.fst.snd.snd.snd.snd.1, x.fst.snd.snd.fst.snd.snd.snd.snd.2), x.fst.snd.snd.snd.1, x.fst.snd.snd.snd.2), x.2))).bind fun r0 =>
  bif !r0 then
    some ((([], [], (([], [], [], []), ([], [], [], []), [], [], [], []), (0 : Int), []), (0 : Int), (1 : Int)))
  else
    bif Decidable.decide (Go.RowKit.wrap64 (x.2 - (1 : Int)) = (↑(nat_lit 2) : Int)) then
      (pool_Take ((x.fst.snd.snd.fst.snd.snd.1, x.fst.snd.snd.fst.snd.snd.snd.1, x.fst.snd.snd.fst.snd.snd.snd.snd.1, x.fst.snd.snd.fst.snd.snd.snd.snd.2))).bind fun r1 =>
      bif r1.snd.2 != (0 : Int) then
        some ((([], [], (([], [], [], []), ([], [], [], []), [], [], [], []), (0 : Int), []), (0 : Int), r1.snd.2))
      else
        bif Decidable.decide (Go.RowKit.wrap64 (x.2 - (1 : Int)) = (↑(nat_lit 2) : Int)) then
          some (((x.fst.1, x.fst.snd.1, ((x.fst.snd.snd.fst.fst.1, x.fst.snd.snd.fst.fst.snd.1, x.fst.snd.snd.fst.fst.snd.snd.1, x.fst.snd.snd.fst.fst.snd.snd.2), (x.fst.snd.snd.fst.snd.fst.1, x.fst.snd.snd.fst.snd.fst.snd.1, x.fst.snd.snd.fst.snd.fst.snd.snd.1, x.fst.snd.snd.fst.snd.fst.snd.snd.2), r1.fst.1, r1.fst.snd.1, r1.fst.snd.snd.1, r1.fst.snd.snd.2), x.fst.snd.snd.snd.1, x.fst.snd.snd.snd.2), r1.snd.1, (0 : Int)))
        else
          bif Decidable.decide (Go.RowKit.wrap64 (x.2 - (1 : Int)) = (↑(nat_lit 1) : Int)) then
            some (((x.fst.1, x.fst.snd.1, ((x.fst.snd.snd.fst.fst.1, x.fst.snd.snd.fst.fst.snd.1, x.fst.snd.snd.fst.fst.snd.snd.1, x.fst.snd.snd.fst.fst.snd.snd.2), (r1.fst.1, r1.fst.snd.1, r1.fst.snd.snd.1, r1.fst.snd.snd.2), x.fst.snd.snd.fst.snd.snd.1, x.fst.snd.snd.fst.snd.snd.snd.1, x.fst.snd.snd.fst.snd.snd.snd.snd.1, x.fst.snd.snd.fst.snd.snd.snd.snd.2), x.fst.snd.snd.snd.1, x.fst.snd.snd.snd.2), r1.snd.1, (0 : Int)))
          else
            bif Decidable.decide (Go.RowKit.wrap64 (x.2 - (1 : Int)) = (↑(nat_lit 0) : Int)) then
              some (((x.fst.1, x.fst.snd.1, ((r1.fst.1, r1.fst.snd.1, r1.fst.snd.snd.1, r1.fst.snd.snd.2), (x.fst.snd.snd.fst.snd.fst.1, x.fst.snd.snd.fst.snd.fst.snd.1, x.fst.snd.snd.fst.snd.fst.snd.snd.1, x.fst.snd.snd.fst.snd.fst.snd.snd.2), x.fst.snd.snd.fst.snd.snd.1, x.fst.snd.snd.fst.snd.snd.snd.1, x.fst.snd.snd.fst.snd.snd.snd.snd.1, x.fst.snd.snd.fst.snd.snd.snd.snd.2), x.fst.snd.snd.snd.1, x.fst.snd.snd.snd.2), r1.snd.1, (0 : Int)))
            else
              none
    else
      bif Decidable.decide (Go.RowKit.wrap64 (x.2 - (1 : Int)) = (↑(nat_lit 1) : Int)) then
        (pool_Take ((x.fst.snd.snd.fst.snd.fst.1, x.fst.snd.snd.fst.snd.fst.snd.1, x.fst.snd.snd.fst.snd.fst.snd.snd.1, x.fst.snd.snd.fst.snd.fst.snd.snd.2))).bind fun r2 =>
        bif r2.snd.2 != (0 : Int) then
          some ((([], [], (([], [], [], []), ([], [], [], []), [], [], [], []), (0 : Int), []), (0 : Int), r2.snd.2))
        else
          bif Decidable.decide (Go.RowKit.wrap64 (x.2 - (1 : Int)) = (↑(nat_lit 2) : Int)) then
            some (((x.fst.1, x.fst.snd.1, ((x.fst.snd.snd.fst.fst.1, x.fst.snd.snd.fst.fst.snd.1, x.fst.snd.snd.fst.fst.snd.snd.1, x.fst.snd.snd.fst.fst.snd.snd.2), (x.fst.snd.snd.fst.snd.fst.1, x.fst.snd.snd.fst.snd.fst.snd.1, x.fst.snd.snd.fst.snd.fst.snd.snd.1, x.fst.snd.snd.fst.snd.fst.snd.snd.2), r2.fst.1, r2.fst.snd.1, r2.fst.snd.snd.1, r2.fst.snd.snd.2), x.fst.snd.snd.snd.1, x.fst.snd.snd.snd.2), r2.snd.1, (0 : Int)))
          else
            bif Decidable.decide (Go.RowKit.wrap64 (x.2 - (1 : Int)) = (↑(nat_lit 1) : Int)) then
              some (((x.fst.1, x.fst.snd.1, ((x.fst.snd.snd.fst.fst.1, x.fst.snd.snd.fst.fst.snd.1, x.fst.snd.snd.fst.fst.snd.snd.1, x.fst.snd.snd.fst.fst.snd.snd.2), (r2.fst.1, r2.fst.snd.1, r2.fst.snd.snd.1, r2.fst.snd.snd.2), x.fst.snd.snd.fst.snd.snd.1, x.fst.snd.snd.fst.snd.snd.snd.1, x.fst.snd.snd.fst.snd.snd.snd.snd.1, x.fst.snd.snd.fst.snd.snd.snd.snd.2), x.fst.snd.snd.snd.1, x.fst.snd.snd.snd.2), r2.snd.1, (0 : Int)))
            else
              bif Decidable.decide (Go.RowKit.wrap64 (x.2 - (1 : Int)) = (↑(nat_lit 0) : Int)) then
                some (((x.fst.1, x.fst.snd.1, ((r2.fst.1, r2.fst.snd.1, r2.fst.snd.snd.1, r2.fst.snd.snd.2), (x.fst.snd.snd.fst.snd.fst.1, x.fst.snd.snd.fst.snd.fst.snd.1, x.fst.snd.snd.fst.snd.fst.snd.snd.1, x.fst.snd.snd.fst.snd.fst.snd.snd.2), x.fst.snd.snd.fst.snd.snd.1, x.fst.snd.snd.fst.snd.snd.snd.1, x.fst.snd.snd.fst.snd.snd.snd.snd.1, x.fst.snd.snd.fst.snd.snd.snd.snd.2), x.fst.snd.snd.snd.1, x.fst.snd.snd.snd.2), r2.snd.1, (0 : Int)))
              else
                none
      else
        bif Decidable.decide (Go.RowKit.wrap64 (x.2 - (1 : Int)) = (↑(nat_lit 0) : Int)) then
          (pool_Take ((x.fst.snd.snd.fst.fst.1, x.fst.snd.snd.fst.fst.snd.1, x.fst.snd.snd.fst.fst.snd.snd.1, x.fst.snd.snd.fst.fst.snd.snd.2))).bind fun r3 =>
          bif r3.snd.2 != (0 : Int) then
            some ((([], [], (([], [], [], []), ([], [], [], []), [], [], [], []), (0 : Int), []), (0 : Int), r3.snd.2))
          else
            bif Decidable.decide (Go.RowKit.wrap64 (x.2 - (1 : Int)) = (↑(nat_lit 2) : Int)) then
              some (((x.fst.1, x.fst.snd.1, ((x.fst.snd.snd.fst.fst.1, x.fst.snd.snd.fst.fst.snd.1, x.fst.snd.snd.fst.fst.snd.snd.1, x.fst.snd.snd.fst.fst.snd.snd.2), (x.fst.snd.snd.fst.snd.fst.1, x.fst.snd.snd.fst.snd.fst.snd.1, x.fst.snd.snd.fst.snd.fst.snd.snd.1, x.fst.snd.snd.fst.snd.fst.snd.snd.2), r3.fst.1, r3.fst.snd.1, r3.fst.snd.snd.1, r3.fst.snd.snd.2), x.fst.snd.snd.snd.1, x.fst.snd.snd.snd.2), r3.snd.1, (0 : Int)))
            else
              bif Decidable.decide (Go.RowKit.wrap64 (x.2 - (1 : Int)) = (↑(nat_lit 1) : Int)) then
                some (((x.fst.1, x.fst.snd.1, ((x.fst.snd.snd.fst.fst.1, x.fst.snd.snd.fst.fst.snd.1, x.fst.snd.snd.fst.fst.snd.snd.1, x.fst.snd.snd.fst.fst.snd.snd.2), (r3.fst.1, r3.fst.snd.1, r3.fst.snd.snd.1, r3.fst.snd.snd.2), x.fst.snd.snd.fst.snd.snd.1, x.fst.snd.snd.fst.snd.snd.snd.1, x.fst.snd.snd.fst.snd.snd.snd.snd.1, x.fst.snd.snd.fst.snd.snd.snd.snd.2), x.fst.snd.snd.snd.1, x.fst.snd.snd.snd.2), r3.snd.1, (0 : Int)))
              else
                bif Decidable.decide (Go.RowKit.wrap64 (x.2 - (1 : Int)) = (↑(nat_lit 0) : Int)) then
                  some (((x.fst.1, x.fst.snd.1, ((r3.fst.1, r3.fst.snd.1, r3.fst.snd.snd.1, r3.fst.snd.snd.2), (x.fst.snd.snd.fst.snd.fst.1, x.fst.snd.snd.fst.snd.fst.snd.1, x.fst.snd.snd.fst.snd.fst.snd.snd.1, x.fst.snd.snd.fst.snd.fst.snd.snd.2), x.fst.snd.snd.fst.snd.snd.1, x.fst.snd.snd.fst.snd.snd.snd.1, x.fst.snd.snd.fst.snd.snd.snd.snd.1, x.fst.snd.snd.fst.snd.snd.snd.snd.2), x.fst.snd.snd.snd.1, x.fst.snd.snd.snd.2), r3.snd.1, (0 : Int)))
                else
                  none
        else
          none
def arena_Take_S : Sig := ⟨[⟨true, (.pair (.sl .int) (.pair (.sl .int) (.pair (.pair (.pair (.sl .int) (.pair (.sl .int) (.pair (.sl .int) (.sl .int)))) (.pair (.pair (.sl .int) (.pair (.sl .int) (.pair (.sl .int) (.sl .int)))) (.pair (.sl .int) (.pair (.sl .int) (.pair (.sl .int) (.sl .int)))))) (.pair .int (.sl .int)))))⟩, ⟨false, .int⟩], [⟨true, (.pair (.sl .int) (.pair (.sl .int) (.pair (.pair (.pair (.sl .int) (.pair (.sl .int) (.pair (.sl .int) (.sl .int)))) (.pair (.pair (.sl .int) (.pair (.sl .int) (.pair (.sl .int) (.sl .int)))) (.pair (.sl .int) (.pair (.sl .int) (.pair (.sl .int) (.sl .int)))))) (.pair .int (.sl .int)))))⟩, ⟨false, .int⟩, ⟨false, .int⟩], false, arena_Take⟩
/-! tendril/tag.Unpack -/
def tag_Unpack (x : Int) : Option (Int × Int × Int) :=
  bif Decidable.decide (x < (1 : Int)) then
    some (((0 : Int), (0 : Int), (1 : Int)))
  else
    bif Decidable.decide ((1099511627776 : Int) ≤ (Go.RowKit.wrap64 (x - (1 : Int))).fdiv ((2 : Int) ^ Min.min (Int.toNat (10 : Int)) Go.IntKind.i64.bits)) then
      some (((0 : Int), (0 : Int), (1 : Int)))
    else
      some ((Go.bits Go.BinOp.and Go.IntKind.i64 (Go.RowKit.wrap64 (x - (1 : Int))) (1023 : Int), (Go.RowKit.wrap64 (x - (1 : Int))).fdiv ((2 : Int) ^ Min.min (Int.toNat (10 : Int)) Go.IntKind.i64.bits), (0 : Int)))
def tag_Unpack_S : Sig := ⟨[⟨false, .int⟩], [⟨false, .int⟩, ⟨false, .int⟩, ⟨false, .int⟩], false, tag_Unpack⟩
/-! tendril/pool.Retire -/
def pool_Retire (x : (List Int × List Int × List Int × List Int) × Int × Int) : Option ((List Int × List Int × List Int × List Int) × Int) :=
  (tag_Unpack (x.snd.1)).bind fun r0 =>
  (pool_Check ((x.fst.1, x.fst.snd.1, x.fst.snd.snd.1, x.fst.snd.snd.2))).bind fun r1 =>
  bif r1 != (0 : Int) then
    some ((([], [], [], []), (1 : Int)))
  else
    bif r0.snd.2 != (0 : Int) then
      some ((([], [], [], []), (1 : Int)))
    else
      bif Decidable.decide ((↑(List.length x.fst.1) : Int) ≤ r0.1) then
        some ((([], [], [], []), (1 : Int)))
      else
        bif Decidable.decide ((0 : Int) ≤ r0.1) then
          bif Decidable.decide (r0.1 < (↑(List.length x.fst.snd.1) : Int)) then
            bif List.getD x.fst.snd.1 (Int.toNat r0.1) (0 : Int) != (1 : Int) then
              some ((([], [], [], []), (2 : Int)))
            else
              bif Decidable.decide ((0 : Int) ≤ r0.1) then
                bif Decidable.decide (r0.1 < (↑(List.length x.fst.1) : Int)) then
                  bif List.getD x.fst.1 (Int.toNat r0.1) (0 : Int) != r0.snd.1 then
                    some ((([], [], [], []), (2 : Int)))
                  else
                    (pool_own ((x.fst.1, x.fst.snd.1, x.fst.snd.snd.1, x.fst.snd.snd.2))).bind fun r2 =>
                    bif Decidable.decide ((0 : Int) ≤ r0.1) then
                      bif Decidable.decide (r0.1 < (↑(List.length r2.snd.1) : Int)) then
                        bif Decidable.decide ((0 : Int) ≤ r0.1) then
                          bif Decidable.decide (r0.1 < (↑(List.length r2.snd.snd.1) : Int)) then
                            some (((r2.1, List.set r2.snd.1 (Int.toNat r0.1) (2 : Int), List.set r2.snd.snd.1 (Int.toNat r0.1) x.snd.2, r2.snd.snd.2), (0 : Int)))
                          else
                            none
                        else
                          none
                      else
                        none
                    else
                      none
                else
                  none
              else
                none
          else
            none
        else
          none
def pool_Retire_S : Sig := ⟨[⟨true, (.pair (.sl .int) (.pair (.sl .int) (.pair (.sl .int) (.sl .int))))⟩, ⟨false, .int⟩, ⟨false, .int⟩], [⟨true, (.pair (.sl .int) (.pair (.sl .int) (.pair (.sl .int) (.sl .int))))⟩, ⟨false, .int⟩], true, pool_Retire⟩
/-! tendril/arena.Retire -/
def arena_Retire (x : (List Int × List Int × ((List Int × List Int × List Int × List Int) × (List Int × List Int × List Int × List Int) × List Int × List Int × List Int × List Int) × Int × List Int) × Int × Int) : Option ((List Int × List Int × ((List Int × List Int × List Int × List Int) × (List Int × List Int × List Int × List Int) × List Int × List Int × List Int × List Int) × Int × List Int) × Int) :=
  (arena_may (((x.fst.1, x.fst.snd.1, ((x.fst.snd.snd.fst.fst.1, x.fst.snd.snd.fst.fst.snd.1, x.fst.snd.snd.fst.fst.snd.snd.1, x.fst.snd.snd.fst.fst.snd.snd.2), (x.fst.snd.snd.fst.snd.fst.1, x.fst.snd.snd.fst.snd.fst.snd.1, x.fst.snd.snd.fst.snd.fst.snd.snd.1, x.fst.snd.snd.fst.snd.fst.snd.snd.2), x.fst.snd.snd.fst.snd.snd.1, x.fst.snd.snd.fst.snd.snd.snd.1, x.fst.snd.snd.fst.snd.snd.snd.snd.1, x.fst.snd.snd.fst.snd.snd.snd.snd.2), x.fst.snd.snd.snd.1, x.fst.snd.snd.snd.2), x.snd.1))).bind fun r0 =>
  bif !r0 then
    some ((([], [], (([], [], [], []), ([], [], [], []), [], [], [], []), (0 : Int), []), (1 : Int)))
  else
    bif Decidable.decide (Go.RowKit.wrap64 (x.snd.1 - (1 : Int)) = (↑(nat_lit 2) : Int)) then
      (pool_Retire (((x.fst.snd.snd.fst.snd.snd.1, x.fst.snd.snd.fst.snd.snd.snd.1, x.fst.snd.snd.fst.snd.snd.snd.snd.1, x.fst.snd.snd.fst.snd.snd.snd.snd.2), x.snd.2, x.fst.snd.snd.snd.1))).bind fun r1 =>
      bif r1.2 != (0 : Int) then
        some ((([], [], (([], [], [], []), ([], [], [], []), [], [], [], []), (0 : Int), []), r1.2))
      else
        bif Decidable.decide (Go.RowKit.wrap64 (x.snd.1 - (1 : Int)) = (↑(nat_lit 2) : Int)) then
          some (((x.fst.1, x.fst.snd.1, ((x.fst.snd.snd.fst.fst.1, x.fst.snd.snd.fst.fst.snd.1, x.fst.snd.snd.fst.fst.snd.snd.1, x.fst.snd.snd.fst.fst.snd.snd.2), (x.fst.snd.snd.fst.snd.fst.1, x.fst.snd.snd.fst.snd.fst.snd.1, x.fst.snd.snd.fst.snd.fst.snd.snd.1, x.fst.snd.snd.fst.snd.fst.snd.snd.2), r1.fst.1, r1.fst.snd.1, r1.fst.snd.snd.1, r1.fst.snd.snd.2), x.fst.snd.snd.snd.1, x.fst.snd.snd.snd.2), (0 : Int)))
        else
          bif Decidable.decide (Go.RowKit.wrap64 (x.snd.1 - (1 : Int)) = (↑(nat_lit 1) : Int)) then
            some (((x.fst.1, x.fst.snd.1, ((x.fst.snd.snd.fst.fst.1, x.fst.snd.snd.fst.fst.snd.1, x.fst.snd.snd.fst.fst.snd.snd.1, x.fst.snd.snd.fst.fst.snd.snd.2), (r1.fst.1, r1.fst.snd.1, r1.fst.snd.snd.1, r1.fst.snd.snd.2), x.fst.snd.snd.fst.snd.snd.1, x.fst.snd.snd.fst.snd.snd.snd.1, x.fst.snd.snd.fst.snd.snd.snd.snd.1, x.fst.snd.snd.fst.snd.snd.snd.snd.2), x.fst.snd.snd.snd.1, x.fst.snd.snd.snd.2), (0 : Int)))
          else
            bif Decidable.decide (Go.RowKit.wrap64 (x.snd.1 - (1 : Int)) = (↑(nat_lit 0) : Int)) then
              some (((x.fst.1, x.fst.snd.1, ((r1.fst.1, r1.fst.snd.1, r1.fst.snd.snd.1, r1.fst.snd.snd.2), (x.fst.snd.snd.fst.snd.fst.1, x.fst.snd.snd.fst.snd.fst.snd.1, x.fst.snd.snd.fst.snd.fst.snd.snd.1, x.fst.snd.snd.fst.snd.fst.snd.snd.2), x.fst.snd.snd.fst.snd.snd.1, x.fst.snd.snd.fst.snd.snd.snd.1, x.fst.snd.snd.fst.snd.snd.snd.snd.1, x.fst.snd.snd.fst.snd.snd.snd.snd.2), x.fst.snd.snd.snd.1, x.fst.snd.snd.snd.2), (0 : Int)))
            else
              none
    else
      bif Decidable.decide (Go.RowKit.wrap64 (x.snd.1 - (1 : Int)) = (↑(nat_lit 1) : Int)) then
        (pool_Retire (((x.fst.snd.snd.fst.snd.fst.1, x.fst.snd.snd.fst.snd.fst.snd.1, x.fst.snd.snd.fst.snd.fst.snd.snd.1, x.fst.snd.snd.fst.snd.fst.snd.snd.2), x.snd.2, x.fst.snd.snd.snd.1))).bind fun r2 =>
        bif r2.2 != (0 : Int) then
          some ((([], [], (([], [], [], []), ([], [], [], []), [], [], [], []), (0 : Int), []), r2.2))
        else
          bif Decidable.decide (Go.RowKit.wrap64 (x.snd.1 - (1 : Int)) = (↑(nat_lit 2) : Int)) then
            some (((x.fst.1, x.fst.snd.1, ((x.fst.snd.snd.fst.fst.1, x.fst.snd.snd.fst.fst.snd.1, x.fst.snd.snd.fst.fst.snd.snd.1, x.fst.snd.snd.fst.fst.snd.snd.2), (x.fst.snd.snd.fst.snd.fst.1, x.fst.snd.snd.fst.snd.fst.snd.1, x.fst.snd.snd.fst.snd.fst.snd.snd.1, x.fst.snd.snd.fst.snd.fst.snd.snd.2), r2.fst.1, r2.fst.snd.1, r2.fst.snd.snd.1, r2.fst.snd.snd.2), x.fst.snd.snd.snd.1, x.fst.snd.snd.snd.2), (0 : Int)))
          else
            bif Decidable.decide (Go.RowKit.wrap64 (x.snd.1 - (1 : Int)) = (↑(nat_lit 1) : Int)) then
              some (((x.fst.1, x.fst.snd.1, ((x.fst.snd.snd.fst.fst.1, x.fst.snd.snd.fst.fst.snd.1, x.fst.snd.snd.fst.fst.snd.snd.1, x.fst.snd.snd.fst.fst.snd.snd.2), (r2.fst.1, r2.fst.snd.1, r2.fst.snd.snd.1, r2.fst.snd.snd.2), x.fst.snd.snd.fst.snd.snd.1, x.fst.snd.snd.fst.snd.snd.snd.1, x.fst.snd.snd.fst.snd.snd.snd.snd.1, x.fst.snd.snd.fst.snd.snd.snd.snd.2), x.fst.snd.snd.snd.1, x.fst.snd.snd.snd.2), (0 : Int)))
            else
              bif Decidable.decide (Go.RowKit.wrap64 (x.snd.1 - (1 : Int)) = (↑(nat_lit 0) : Int)) then
                some (((x.fst.1, x.fst.snd.1, ((r2.fst.1, r2.fst.snd.1, r2.fst.snd.snd.1, r2.fst.snd.snd.2), (x.fst.snd.snd.fst.snd.fst.1, x.fst.snd.snd.fst.snd.fst.snd.1, x.fst.snd.snd.fst.snd.fst.snd.snd.1, x.fst.snd.snd.fst.snd.fst.snd.snd.2), x.fst.snd.snd.fst.snd.snd.1, x.fst.snd.snd.fst.snd.snd.snd.1, x.fst.snd.snd.fst.snd.snd.snd.snd.1, x.fst.snd.snd.fst.snd.snd.snd.snd.2), x.fst.snd.snd.snd.1, x.fst.snd.snd.snd.2), (0 : Int)))
              else
                none
      else
        bif Decidable.decide (Go.RowKit.wrap64 (x.snd.1 - (1 : Int)) = (↑(nat_lit 0) : Int)) then
          (pool_Retire (((x.fst.snd.snd.fst.fst.1, x.fst.snd.snd.fst.fst.snd.1, x.fst.snd.snd.fst.fst.snd.snd.1, x.fst.snd.snd.fst.fst.snd.snd.2), x.snd.2, x.fst.snd.snd.snd.1))).bind fun r3 =>
          bif r3.2 != (0 : Int) then
            some ((([], [], (([], [], [], []), ([], [], [], []), [], [], [], []), (0 : Int), []), r3.2))
          else
            bif Decidable.decide (Go.RowKit.wrap64 (x.snd.1 - (1 : Int)) = (↑(nat_lit 2) : Int)) then
              some (((x.fst.1, x.fst.snd.1, ((x.fst.snd.snd.fst.fst.1, x.fst.snd.snd.fst.fst.snd.1, x.fst.snd.snd.fst.fst.snd.snd.1, x.fst.snd.snd.fst.fst.snd.snd.2), (x.fst.snd.snd.fst.snd.fst.1, x.fst.snd.snd.fst.snd.fst.snd.1, x.fst.snd.snd.fst.snd.fst.snd.snd.1, x.fst.snd.snd.fst.snd.fst.snd.snd.2), r3.fst.1, r3.fst.snd.1, r3.fst.snd.snd.1, r3.fst.snd.snd.2), x.fst.snd.snd.snd.1, x.fst.snd.snd.snd.2), (0 : Int)))
            else
              bif Decidable.decide (Go.RowKit.wrap64 (x.snd.1 - (1 : Int)) = (↑(nat_lit 1) : Int)) then
                some (((x.fst.1, x.fst.snd.1, ((x.fst.snd.snd.fst.fst.1, x.fst.snd.snd.fst.fst.snd.1, x.fst.snd.snd.fst.fst.snd.snd.1, x.fst.snd.snd.fst.fst.snd.snd.2), (r3.fst.1, r3.fst.snd.1, r3.fst.snd.snd.1, r3.fst.snd.snd.2), x.fst.snd.snd.fst.snd.snd.1, x.fst.snd.snd.fst.snd.snd.snd.1, x.fst.snd.snd.fst.snd.snd.snd.snd.1, x.fst.snd.snd.fst.snd.snd.snd.snd.2), x.fst.snd.snd.snd.1, x.fst.snd.snd.snd.2), (0 : Int)))
              else
                bif Decidable.decide (Go.RowKit.wrap64 (x.snd.1 - (1 : Int)) = (↑(nat_lit 0) : Int)) then
                  some (((x.fst.1, x.fst.snd.1, ((r3.fst.1, r3.fst.snd.1, r3.fst.snd.snd.1, r3.fst.snd.snd.2), (x.fst.snd.snd.fst.snd.fst.1, x.fst.snd.snd.fst.snd.fst.snd.1, x.fst.snd.snd.fst.snd.fst.snd.snd.1, x.fst.snd.snd.fst.snd.fst.snd.snd.2), x.fst.snd.snd.fst.snd.snd.1, x.fst.snd.snd.fst.snd.snd.snd.1, x.fst.snd.snd.fst.snd.snd.snd.snd.1, x.fst.snd.snd.fst.snd.snd.snd.snd.2), x.fst.snd.snd.snd.1, x.fst.snd.snd.snd.2), (0 : Int)))
                else
                  none
        else
          none
def arena_Retire_S : Sig := ⟨[⟨true, (.pair (.sl .int) (.pair (.sl .int) (.pair (.pair (.pair (.sl .int) (.pair (.sl .int) (.pair (.sl .int) (.sl .int)))) (.pair (.pair (.sl .int) (.pair (.sl .int) (.pair (.sl .int) (.sl .int)))) (.pair (.sl .int) (.pair (.sl .int) (.pair (.sl .int) (.sl .int)))))) (.pair .int (.sl .int)))))⟩, ⟨false, .int⟩, ⟨false, .int⟩], [⟨true, (.pair (.sl .int) (.pair (.sl .int) (.pair (.pair (.pair (.sl .int) (.pair (.sl .int) (.pair (.sl .int) (.sl .int)))) (.pair (.pair (.sl .int) (.pair (.sl .int) (.pair (.sl .int) (.sl .int)))) (.pair (.sl .int) (.pair (.sl .int) (.pair (.sl .int) (.sl .int)))))) (.pair .int (.sl .int)))))⟩, ⟨false, .int⟩], false, arena_Retire⟩
/-! tendril/tendrillaw07.plain -/
def tendrillaw07_plain (x : Unit) : Option (Int × Int × Int × Int × Int) :=
  some (((1 : Int), (1 : Int), (1 : Int), (2 : Int), (1 : Int)))
def tendrillaw07_plain_S : Sig := ⟨[], [⟨true, (.pair .int (.pair .int (.pair .int (.pair .int .int))))⟩], false, tendrillaw07_plain⟩
/-! tendril/tendrillaw07.live -/
def tendrillaw07_live (x : Unit) : Option (Bool) :=
  (tendrillaw07_plain (())).bind fun r0 =>
  (arena_New (((r0.1, r0.snd.1, r0.snd.snd.1, r0.snd.snd.snd.1, r0.snd.snd.snd.2), (1 : Int)))).bind fun r1 =>
  (arena_Take (((r1.fst.1, r1.fst.snd.1, ((r1.fst.snd.snd.fst.fst.1, r1.fst.snd.snd.fst.fst.snd.1, r1.fst.snd.snd.fst.fst.snd.snd.1, r1.fst.snd.snd.fst.fst.snd.snd.2), (r1.fst.snd.snd.fst.snd.fst.1, r1.fst.snd.snd.fst.snd.fst.snd.1, r1.fst.snd.snd.fst.snd.fst.snd.snd.1, r1.fst.snd.snd.fst.snd.fst.snd.snd.2), r1.fst.snd.snd.fst.snd.snd.1, r1.fst.snd.snd.fst.snd.snd.snd.1, r1.fst.snd.snd.fst.snd.snd.snd.snd.1, r1.fst.snd.snd.fst.snd.snd.snd.snd.2), r1.fst.snd.snd.snd.1, r1.fst.snd.snd.snd.2), (2 : Int)))).bind fun r2 =>
  (arena_Retire (((r2.fst.1, r2.fst.snd.1, ((r2.fst.snd.snd.fst.fst.1, r2.fst.snd.snd.fst.fst.snd.1, r2.fst.snd.snd.fst.fst.snd.snd.1, r2.fst.snd.snd.fst.fst.snd.snd.2), (r2.fst.snd.snd.fst.snd.fst.1, r2.fst.snd.snd.fst.snd.fst.snd.1, r2.fst.snd.snd.fst.snd.fst.snd.snd.1, r2.fst.snd.snd.fst.snd.fst.snd.snd.2), r2.fst.snd.snd.fst.snd.snd.1, r2.fst.snd.snd.fst.snd.snd.snd.1, r2.fst.snd.snd.fst.snd.snd.snd.snd.1, r2.fst.snd.snd.fst.snd.snd.snd.snd.2), r2.fst.snd.snd.snd.1, r2.fst.snd.snd.snd.2), (2 : Int), r2.snd.1))).bind fun r3 =>
  (arena_Turn ((r3.fst.1, r3.fst.snd.1, ((r3.fst.snd.snd.fst.fst.1, r3.fst.snd.snd.fst.fst.snd.1, r3.fst.snd.snd.fst.fst.snd.snd.1, r3.fst.snd.snd.fst.fst.snd.snd.2), (r3.fst.snd.snd.fst.snd.fst.1, r3.fst.snd.snd.fst.snd.fst.snd.1, r3.fst.snd.snd.fst.snd.fst.snd.snd.1, r3.fst.snd.snd.fst.snd.fst.snd.snd.2), r3.fst.snd.snd.fst.snd.snd.1, r3.fst.snd.snd.fst.snd.snd.snd.1, r3.fst.snd.snd.fst.snd.snd.snd.snd.1, r3.fst.snd.snd.fst.snd.snd.snd.snd.2), r3.fst.snd.snd.snd.1, r3.fst.snd.snd.snd.2))).bind fun r4 =>
  (arena_Take (((r4.fst.1, r4.fst.snd.1, ((r4.fst.snd.snd.fst.fst.1, r4.fst.snd.snd.fst.fst.snd.1, r4.fst.snd.snd.fst.fst.snd.snd.1, r4.fst.snd.snd.fst.fst.snd.snd.2), (r4.fst.snd.snd.fst.snd.fst.1, r4.fst.snd.snd.fst.snd.fst.snd.1, r4.fst.snd.snd.fst.snd.fst.snd.snd.1, r4.fst.snd.snd.fst.snd.fst.snd.snd.2), r4.fst.snd.snd.fst.snd.snd.1, r4.fst.snd.snd.fst.snd.snd.snd.1, r4.fst.snd.snd.fst.snd.snd.snd.snd.1, r4.fst.snd.snd.fst.snd.snd.snd.snd.2), r4.fst.snd.snd.snd.1, r4.fst.snd.snd.snd.2), (2 : Int)))).bind fun r5 =>
  (arena_Turn ((r4.fst.1, r4.fst.snd.1, ((r4.fst.snd.snd.fst.fst.1, r4.fst.snd.snd.fst.fst.snd.1, r4.fst.snd.snd.fst.fst.snd.snd.1, r4.fst.snd.snd.fst.fst.snd.snd.2), (r4.fst.snd.snd.fst.snd.fst.1, r4.fst.snd.snd.fst.snd.fst.snd.1, r4.fst.snd.snd.fst.snd.fst.snd.snd.1, r4.fst.snd.snd.fst.snd.fst.snd.snd.2), r4.fst.snd.snd.fst.snd.snd.1, r4.fst.snd.snd.fst.snd.snd.snd.1, r4.fst.snd.snd.fst.snd.snd.snd.snd.1, r4.fst.snd.snd.fst.snd.snd.snd.snd.2), r4.fst.snd.snd.snd.1, r4.fst.snd.snd.snd.2))).bind fun r6 =>
  (arena_Take (((r6.fst.1, r6.fst.snd.1, ((r6.fst.snd.snd.fst.fst.1, r6.fst.snd.snd.fst.fst.snd.1, r6.fst.snd.snd.fst.fst.snd.snd.1, r6.fst.snd.snd.fst.fst.snd.snd.2), (r6.fst.snd.snd.fst.snd.fst.1, r6.fst.snd.snd.fst.snd.fst.snd.1, r6.fst.snd.snd.fst.snd.fst.snd.snd.1, r6.fst.snd.snd.fst.snd.fst.snd.snd.2), r6.fst.snd.snd.fst.snd.snd.1, r6.fst.snd.snd.fst.snd.snd.snd.1, r6.fst.snd.snd.fst.snd.snd.snd.snd.1, r6.fst.snd.snd.fst.snd.snd.snd.snd.2), r6.fst.snd.snd.snd.1, r6.fst.snd.snd.snd.2), (2 : Int)))).bind fun r7 =>
  bif r1.2 == (0 : Int) then
    bif r2.snd.2 == (0 : Int) then
      bif r3.2 == (0 : Int) then
        bif r4.2 then
          bif r5.snd.2 == (3 : Int) then
            bif r6.2 then
              bif r7.snd.2 == (0 : Int) then
                some (r7.snd.1 != r2.snd.1)
              else
                some (Bool.false)
            else
              some (Bool.false)
          else
            some (Bool.false)
        else
          some (Bool.false)
      else
        some (Bool.false)
    else
      some (Bool.false)
  else
    some (Bool.false)
def tendrillaw07_live_S : Sig := ⟨[], [⟨false, .bool⟩], false, tendrillaw07_live⟩
/-! tendril/era.pinned -/
def era_pinned (x : (Int × List Int) × Int) : Option (Int × Int) :=
  (era_Check ((x.fst.1, x.fst.2))).bind fun r0 =>
  bif r0 != (0 : Int) then
    some (((0 : Int), (1 : Int)))
  else
    bif Decidable.decide (x.2 < (0 : Int)) then
      some (((0 : Int), (1 : Int)))
    else
      bif Decidable.decide ((↑(List.length x.fst.2) : Int) ≤ x.2) then
        some (((0 : Int), (1 : Int)))
      else
        bif Decidable.decide ((0 : Int) ≤ x.2) then
          bif Decidable.decide (x.2 < (↑(List.length x.fst.2) : Int)) then
            some ((List.getD x.fst.2 (Int.toNat x.2) (0 : Int), (0 : Int)))
          else
            none
        else
          none
def era_pinned_S : Sig := ⟨[⟨true, (.pair .int (.sl .int))⟩, ⟨false, .int⟩], [⟨false, .int⟩, ⟨false, .int⟩], false, era_pinned⟩
/-! tendril/era.with -/
def era_with (x : (Int × List Int) × Int × Int) : Option (Int × List Int) :=
  (slices_Clone (x.fst.2)).bind fun r0 =>
  bif Decidable.decide ((0 : Int) ≤ x.snd.1) then
    bif Decidable.decide (x.snd.1 < (↑(List.length r0) : Int)) then
      some ((x.fst.1, List.set r0 (Int.toNat x.snd.1) x.snd.2))
    else
      none
  else
    none
def era_with_S : Sig := ⟨[⟨true, (.pair .int (.sl .int))⟩, ⟨false, .int⟩, ⟨false, .int⟩], [⟨true, (.pair .int (.sl .int))⟩], true, era_with⟩
/-! tendril/era.Pin -/
def era_Pin (x : (Int × List Int) × Int) : Option ((Int × List Int) × Int) :=
  (era_pinned (((x.fst.1, x.fst.2), x.2))).bind fun r0 =>
  bif r0.2 != (0 : Int) then
    some ((((0 : Int), []), (1 : Int)))
  else
    bif r0.1 != (-1 : Int) then
      some ((((0 : Int), []), (1 : Int)))
    else
      (era_with (((x.fst.1, x.fst.2), x.2, x.fst.1))).bind fun r1 =>
      some (((r1.1, r1.2), (0 : Int)))
def era_Pin_S : Sig := ⟨[⟨true, (.pair .int (.sl .int))⟩, ⟨false, .int⟩], [⟨true, (.pair .int (.sl .int))⟩, ⟨false, .int⟩], true, era_Pin⟩
/-! tendril/arena.Pin -/
def arena_Pin (x : (List Int × List Int × ((List Int × List Int × List Int × List Int) × (List Int × List Int × List Int × List Int) × List Int × List Int × List Int × List Int) × Int × List Int) × Int) : Option ((List Int × List Int × ((List Int × List Int × List Int × List Int) × (List Int × List Int × List Int × List Int) × List Int × List Int × List Int × List Int) × Int × List Int) × Int) :=
  (arena_may (((x.fst.1, x.fst.snd.1, ((x.fst.snd.snd.fst.fst.1, x.fst.snd.snd.fst.fst.snd.1, x.fst.snd.snd.fst.fst.snd.snd.1, x.fst.snd.snd.fst.fst.snd.snd.2), (x.fst.snd.snd.fst.snd.fst.1, x.fst.snd.snd.fst.snd.fst.snd.1, x.fst.snd.snd.fst.snd.fst.snd.snd.1, x.fst.snd.snd.fst.snd.fst.snd.snd.2), x.fst.snd.snd.fst.snd.snd.1, x.fst.snd.snd.fst.snd.snd.snd.1, x.fst.snd.snd.fst.snd.snd.snd.snd.1, x.fst.snd.snd.fst.snd.snd.snd.snd.2), x.fst.snd.snd.snd.1, x.fst.snd.snd.snd.2), (1 : Int)))).bind fun r0 =>
  bif !r0 then
    some ((([], [], (([], [], [], []), ([], [], [], []), [], [], [], []), (0 : Int), []), (1 : Int)))
  else
    (era_Pin (((x.fst.snd.snd.snd.1, x.fst.snd.snd.snd.2), x.2))).bind fun r1 =>
    bif r1.2 != (0 : Int) then
      some ((([], [], (([], [], [], []), ([], [], [], []), [], [], [], []), (0 : Int), []), r1.2))
    else
      some (((x.fst.1, x.fst.snd.1, ((x.fst.snd.snd.fst.fst.1, x.fst.snd.snd.fst.fst.snd.1, x.fst.snd.snd.fst.fst.snd.snd.1, x.fst.snd.snd.fst.fst.snd.snd.2), (x.fst.snd.snd.fst.snd.fst.1, x.fst.snd.snd.fst.snd.fst.snd.1, x.fst.snd.snd.fst.snd.fst.snd.snd.1, x.fst.snd.snd.fst.snd.fst.snd.snd.2), x.fst.snd.snd.fst.snd.snd.1, x.fst.snd.snd.fst.snd.snd.snd.1, x.fst.snd.snd.fst.snd.snd.snd.snd.1, x.fst.snd.snd.fst.snd.snd.snd.snd.2), r1.fst.1, r1.fst.2), (0 : Int)))
def arena_Pin_S : Sig := ⟨[⟨true, (.pair (.sl .int) (.pair (.sl .int) (.pair (.pair (.pair (.sl .int) (.pair (.sl .int) (.pair (.sl .int) (.sl .int)))) (.pair (.pair (.sl .int) (.pair (.sl .int) (.pair (.sl .int) (.sl .int)))) (.pair (.sl .int) (.pair (.sl .int) (.pair (.sl .int) (.sl .int)))))) (.pair .int (.sl .int)))))⟩, ⟨false, .int⟩], [⟨true, (.pair (.sl .int) (.pair (.sl .int) (.pair (.pair (.pair (.sl .int) (.pair (.sl .int) (.pair (.sl .int) (.sl .int)))) (.pair (.pair (.sl .int) (.pair (.sl .int) (.pair (.sl .int) (.sl .int)))) (.pair (.sl .int) (.pair (.sl .int) (.pair (.sl .int) (.sl .int)))))) (.pair .int (.sl .int)))))⟩, ⟨false, .int⟩], false, arena_Pin⟩
/-! tendril/era.Unpin -/
def era_Unpin (x : (Int × List Int) × Int) : Option ((Int × List Int) × Int) :=
  (era_pinned (((x.fst.1, x.fst.2), x.2))).bind fun r0 =>
  bif r0.2 != (0 : Int) then
    some ((((0 : Int), []), r0.2))
  else
    bif r0.1 == (-1 : Int) then
      some ((((0 : Int), []), (2 : Int)))
    else
      (era_with (((x.fst.1, x.fst.2), x.2, (-1 : Int)))).bind fun r1 =>
      some (((r1.1, r1.2), (0 : Int)))
def era_Unpin_S : Sig := ⟨[⟨true, (.pair .int (.sl .int))⟩, ⟨false, .int⟩], [⟨true, (.pair .int (.sl .int))⟩, ⟨false, .int⟩], true, era_Unpin⟩
/-! tendril/arena.End -/
def arena_End (x : (List Int × List Int × ((List Int × List Int × List Int × List Int) × (List Int × List Int × List Int × List Int) × List Int × List Int × List Int × List Int) × Int × List Int) × Int) : Option ((List Int × List Int × ((List Int × List Int × List Int × List Int) × (List Int × List Int × List Int × List Int) × List Int × List Int × List Int × List Int) × Int × List Int) × Int) :=
  (arena_may (((x.fst.1, x.fst.snd.1, ((x.fst.snd.snd.fst.fst.1, x.fst.snd.snd.fst.fst.snd.1, x.fst.snd.snd.fst.fst.snd.snd.1, x.fst.snd.snd.fst.fst.snd.snd.2), (x.fst.snd.snd.fst.snd.fst.1, x.fst.snd.snd.fst.snd.fst.snd.1, x.fst.snd.snd.fst.snd.fst.snd.snd.1, x.fst.snd.snd.fst.snd.fst.snd.snd.2), x.fst.snd.snd.fst.snd.snd.1, x.fst.snd.snd.fst.snd.snd.snd.1, x.fst.snd.snd.fst.snd.snd.snd.snd.1, x.fst.snd.snd.fst.snd.snd.snd.snd.2), x.fst.snd.snd.snd.1, x.fst.snd.snd.snd.2), (1 : Int)))).bind fun r0 =>
  bif !r0 then
    some ((([], [], (([], [], [], []), ([], [], [], []), [], [], [], []), (0 : Int), []), (1 : Int)))
  else
    (era_Unpin (((x.fst.snd.snd.snd.1, x.fst.snd.snd.snd.2), x.2))).bind fun r1 =>
    bif r1.2 != (0 : Int) then
      some ((([], [], (([], [], [], []), ([], [], [], []), [], [], [], []), (0 : Int), []), r1.2))
    else
      (arena_Turn ((x.fst.1, x.fst.snd.1, ((x.fst.snd.snd.fst.fst.1, x.fst.snd.snd.fst.fst.snd.1, x.fst.snd.snd.fst.fst.snd.snd.1, x.fst.snd.snd.fst.fst.snd.snd.2), (x.fst.snd.snd.fst.snd.fst.1, x.fst.snd.snd.fst.snd.fst.snd.1, x.fst.snd.snd.fst.snd.fst.snd.snd.1, x.fst.snd.snd.fst.snd.fst.snd.snd.2), x.fst.snd.snd.fst.snd.snd.1, x.fst.snd.snd.fst.snd.snd.snd.1, x.fst.snd.snd.fst.snd.snd.snd.snd.1, x.fst.snd.snd.fst.snd.snd.snd.snd.2), r1.fst.1, r1.fst.2))).bind fun r2 =>
      some (((r2.fst.1, r2.fst.snd.1, ((r2.fst.snd.snd.fst.fst.1, r2.fst.snd.snd.fst.fst.snd.1, r2.fst.snd.snd.fst.fst.snd.snd.1, r2.fst.snd.snd.fst.fst.snd.snd.2), (r2.fst.snd.snd.fst.snd.fst.1, r2.fst.snd.snd.fst.snd.fst.snd.1, r2.fst.snd.snd.fst.snd.fst.snd.snd.1, r2.fst.snd.snd.fst.snd.fst.snd.snd.2), r2.fst.snd.snd.fst.snd.snd.1, r2.fst.snd.snd.fst.snd.snd.snd.1, r2.fst.snd.snd.fst.snd.snd.snd.snd.1, r2.fst.snd.snd.fst.snd.snd.snd.snd.2), r2.fst.snd.snd.snd.1, r2.fst.snd.snd.snd.2), (0 : Int)))
def arena_End_S : Sig := ⟨[⟨true, (.pair (.sl .int) (.pair (.sl .int) (.pair (.pair (.pair (.sl .int) (.pair (.sl .int) (.pair (.sl .int) (.sl .int)))) (.pair (.pair (.sl .int) (.pair (.sl .int) (.pair (.sl .int) (.sl .int)))) (.pair (.sl .int) (.pair (.sl .int) (.pair (.sl .int) (.sl .int)))))) (.pair .int (.sl .int)))))⟩, ⟨false, .int⟩], [⟨true, (.pair (.sl .int) (.pair (.sl .int) (.pair (.pair (.pair (.sl .int) (.pair (.sl .int) (.pair (.sl .int) (.sl .int)))) (.pair (.pair (.sl .int) (.pair (.sl .int) (.pair (.sl .int) (.sl .int)))) (.pair (.sl .int) (.pair (.sl .int) (.pair (.sl .int) (.sl .int)))))) (.pair .int (.sl .int)))))⟩, ⟨false, .int⟩], false, arena_End⟩
/-! tendril/tendrillaw07.ArenaPinned -/
mutual
def tendrillaw07_ArenaPinned_L26 : Nat → (Int) → (List Int) → (Int) → (Int) → (List Int) → (List Int) → (List Int) → (List Int) → (List Int) → (List Int) → (List Int) → (List Int) → (List Int) → (List Int) → (List Int) → (List Int) → (List Int) → (List Int) → (Int) → (List Int) → (List (List (Int × Int))) → (List Bool) → (List (Int × Int)) → Option (Bool)
  | 0, _, _, _, _, _, _, _, _, _, _, _, _, _, _, _, _, _, _, _, _, _, _, _ => none
  | k + 1, p0, p1, p2, p3, p4, p5, p6, p7, p8, p9, p10, p11, p12, p13, p14, p15, p16, p17, p18, p19, p20, p21, p22 =>
    bif Decidable.decide (p3 < p2) then
      bif Decidable.decide ((0 : Int) ≤ p3) then
        bif Decidable.decide (p3 < (↑p1.length : Int)) then
          bif Decidable.decide (p1.getD p3.toNat (0 : Int) < (0 : Int)) then
            some (Bool.true)
          else
            bif Decidable.decide (p0 = (0 : Int)) then
              none
            else
              bif (p1.getD p3.toNat (0 : Int)).tmod (6 : Int) == (0 : Int) then
                (arena_Pin (((p4, p5, ((p6, p7, p8, p9), (p10, p11, p12, p13), p14, p15, p16, p17), p18, p19), (Go.RowKit.wrap64 ((p1.getD p3.toNat (0 : Int)).tdiv (6 : Int))).tmod p0))).bind fun r2 =>
                bif r2.2 == (0 : Int) then
                  bif Decidable.decide ((0 : Int) ≤ (Go.RowKit.wrap64 ((p1.getD p3.toNat (0 : Int)).tdiv (6 : Int))).tmod p0) then
                    bif Decidable.decide ((Go.RowKit.wrap64 ((p1.getD p3.toNat (0 : Int)).tdiv (6 : Int))).tmod p0 < (↑p21.length : Int)) then
                      bif Decidable.decide ((0 : Int) ≤ (Go.RowKit.wrap64 ((p1.getD p3.toNat (0 : Int)).tdiv (6 : Int))).tmod p0) then
                        bif Decidable.decide ((Go.RowKit.wrap64 ((p1.getD p3.toNat (0 : Int)).tdiv (6 : Int))).tmod p0 < (↑p20.length : Int)) then
                          tendrillaw07_ArenaPinned_L26 k (p0) (p1) (p2) (Go.RowKit.wrap64 (p3 + (1 : Int))) (r2.fst.1) (r2.fst.snd.1) (r2.fst.snd.snd.fst.fst.1) (r2.fst.snd.snd.fst.fst.snd.1) (r2.fst.snd.snd.fst.fst.snd.snd.1) (r2.fst.snd.snd.fst.fst.snd.snd.2) (r2.fst.snd.snd.fst.snd.fst.1) (r2.fst.snd.snd.fst.snd.fst.snd.1) (r2.fst.snd.snd.fst.snd.fst.snd.snd.1) (r2.fst.snd.snd.fst.snd.fst.snd.snd.2) (r2.fst.snd.snd.fst.snd.snd.1) (r2.fst.snd.snd.fst.snd.snd.snd.1) (r2.fst.snd.snd.fst.snd.snd.snd.snd.1) (r2.fst.snd.snd.fst.snd.snd.snd.snd.2) (r2.fst.snd.snd.snd.1) (r2.fst.snd.snd.snd.2) (p20.set ((Go.RowKit.wrap64 ((p1.getD p3.toNat (0 : Int)).tdiv (6 : Int))).tmod p0).toNat []) (p21.set ((Go.RowKit.wrap64 ((p1.getD p3.toNat (0 : Int)).tdiv (6 : Int))).tmod p0).toNat Bool.true) (p22)
                        else
                          none
                      else
                        none
                    else
                      none
                  else
                    none
                else
                  tendrillaw07_ArenaPinned_L26 k (p0) (p1) (p2) (Go.RowKit.wrap64 (p3 + (1 : Int))) (p4) (p5) (p6) (p7) (p8) (p9) (p10) (p11) (p12) (p13) (p14) (p15) (p16) (p17) (p18) (p19) (p20) (p21) (p22)
              else
                bif (p1.getD p3.toNat (0 : Int)).tmod (6 : Int) == (1 : Int) then
                  (arena_End (((p4, p5, ((p6, p7, p8, p9), (p10, p11, p12, p13), p14, p15, p16, p17), p18, p19), (Go.RowKit.wrap64 ((p1.getD p3.toNat (0 : Int)).tdiv (6 : Int))).tmod p0))).bind fun r3 =>
                  bif r3.2 == (0 : Int) then
                    bif Decidable.decide ((0 : Int) ≤ (Go.RowKit.wrap64 ((p1.getD p3.toNat (0 : Int)).tdiv (6 : Int))).tmod p0) then
                      bif Decidable.decide ((Go.RowKit.wrap64 ((p1.getD p3.toNat (0 : Int)).tdiv (6 : Int))).tmod p0 < (↑p21.length : Int)) then
                        tendrillaw07_ArenaPinned_L26 k (p0) (p1) (p2) (Go.RowKit.wrap64 (p3 + (1 : Int))) (r3.fst.1) (r3.fst.snd.1) (r3.fst.snd.snd.fst.fst.1) (r3.fst.snd.snd.fst.fst.snd.1) (r3.fst.snd.snd.fst.fst.snd.snd.1) (r3.fst.snd.snd.fst.fst.snd.snd.2) (r3.fst.snd.snd.fst.snd.fst.1) (r3.fst.snd.snd.fst.snd.fst.snd.1) (r3.fst.snd.snd.fst.snd.fst.snd.snd.1) (r3.fst.snd.snd.fst.snd.fst.snd.snd.2) (r3.fst.snd.snd.fst.snd.snd.1) (r3.fst.snd.snd.fst.snd.snd.snd.1) (r3.fst.snd.snd.fst.snd.snd.snd.snd.1) (r3.fst.snd.snd.fst.snd.snd.snd.snd.2) (r3.fst.snd.snd.snd.1) (r3.fst.snd.snd.snd.2) (p20) (p21.set ((Go.RowKit.wrap64 ((p1.getD p3.toNat (0 : Int)).tdiv (6 : Int))).tmod p0).toNat Bool.false) (p22)
                      else
                        none
                    else
                      none
                  else
                    tendrillaw07_ArenaPinned_L26 k (p0) (p1) (p2) (Go.RowKit.wrap64 (p3 + (1 : Int))) (p4) (p5) (p6) (p7) (p8) (p9) (p10) (p11) (p12) (p13) (p14) (p15) (p16) (p17) (p18) (p19) (p20) (p21) (p22)
                else
                  bif (p1.getD p3.toNat (0 : Int)).tmod (6 : Int) == (2 : Int) then
                    (arena_Turn ((p4, p5, ((p6, p7, p8, p9), (p10, p11, p12, p13), p14, p15, p16, p17), p18, p19))).bind fun r4 =>
                    tendrillaw07_ArenaPinned_L26 k (p0) (p1) (p2) (Go.RowKit.wrap64 (p3 + (1 : Int))) (r4.fst.1) (r4.fst.snd.1) (r4.fst.snd.snd.fst.fst.1) (r4.fst.snd.snd.fst.fst.snd.1) (r4.fst.snd.snd.fst.fst.snd.snd.1) (r4.fst.snd.snd.fst.fst.snd.snd.2) (r4.fst.snd.snd.fst.snd.fst.1) (r4.fst.snd.snd.fst.snd.fst.snd.1) (r4.fst.snd.snd.fst.snd.fst.snd.snd.1) (r4.fst.snd.snd.fst.snd.fst.snd.snd.2) (r4.fst.snd.snd.fst.snd.snd.1) (r4.fst.snd.snd.fst.snd.snd.snd.1) (r4.fst.snd.snd.fst.snd.snd.snd.snd.1) (r4.fst.snd.snd.fst.snd.snd.snd.snd.2) (r4.fst.snd.snd.snd.1) (r4.fst.snd.snd.snd.2) (p20) (p21) (p22)
                  else
                    bif (p1.getD p3.toNat (0 : Int)).tmod (6 : Int) == (3 : Int) then
                      (arena_Take (((p4, p5, ((p6, p7, p8, p9), (p10, p11, p12, p13), p14, p15, p16, p17), p18, p19), Go.RowKit.wrap64 ((Go.RowKit.wrap64 ((p1.getD p3.toNat (0 : Int)).tdiv (6 : Int))).tmod (3 : Int) + (1 : Int))))).bind fun r5 =>
                      bif r5.snd.2 != (0 : Int) then
                        tendrillaw07_ArenaPinned_L26 k (p0) (p1) (p2) (Go.RowKit.wrap64 (p3 + (1 : Int))) (p4) (p5) (p6) (p7) (p8) (p9) (p10) (p11) (p12) (p13) (p14) (p15) (p16) (p17) (p18) (p19) (p20) (p21) (p22)
                      else
                        (tag_Unpack (r5.snd.1)).bind fun r6 =>
                        bif r6.snd.2 != (0 : Int) then
                          some (Bool.false)
                        else
                          tendrillaw07_ArenaPinned_L116 k (p0) (Go.RowKit.wrap64 ((Go.RowKit.wrap64 ((p1.getD p3.toNat (0 : Int)).tdiv (6 : Int))).tmod (3 : Int) + (1 : Int))) (r5.snd.1) (r6.1) (p1) (p2) (p3) ((↑p20.length : Int)) ((0 : Int)) (r5.fst.1) (r5.fst.snd.1) (r5.fst.snd.snd.fst.fst.1) (r5.fst.snd.snd.fst.fst.snd.1) (r5.fst.snd.snd.fst.fst.snd.snd.1) (r5.fst.snd.snd.fst.fst.snd.snd.2) (r5.fst.snd.snd.fst.snd.fst.1) (r5.fst.snd.snd.fst.snd.fst.snd.1) (r5.fst.snd.snd.fst.snd.fst.snd.snd.1) (r5.fst.snd.snd.fst.snd.fst.snd.snd.2) (r5.fst.snd.snd.fst.snd.snd.1) (r5.fst.snd.snd.fst.snd.snd.snd.1) (r5.fst.snd.snd.fst.snd.snd.snd.snd.1) (r5.fst.snd.snd.fst.snd.snd.snd.snd.2) (r5.fst.snd.snd.snd.1) (r5.fst.snd.snd.snd.2) (p20) (p21) (p22)
                    else
                      bif (p1.getD p3.toNat (0 : Int)).tmod (6 : Int) == (4 : Int) then
                        (arena_Take (((p4, p5, ((p6, p7, p8, p9), (p10, p11, p12, p13), p14, p15, p16, p17), p18, p19), Go.RowKit.wrap64 ((Go.RowKit.wrap64 ((p1.getD p3.toNat (0 : Int)).tdiv (6 : Int))).tmod (3 : Int) + (1 : Int))))).bind fun r7 =>
                        bif r7.snd.2 != (0 : Int) then
                          tendrillaw07_ArenaPinned_L26 k (p0) (p1) (p2) (Go.RowKit.wrap64 (p3 + (1 : Int))) (p4) (p5) (p6) (p7) (p8) (p9) (p10) (p11) (p12) (p13) (p14) (p15) (p16) (p17) (p18) (p19) (p20) (p21) (p22)
                        else
                          (tag_Unpack (r7.snd.1)).bind fun r8 =>
                          bif r8.snd.2 != (0 : Int) then
                            some (Bool.false)
                          else
                            tendrillaw07_ArenaPinned_L116 k (p0) (Go.RowKit.wrap64 ((Go.RowKit.wrap64 ((p1.getD p3.toNat (0 : Int)).tdiv (6 : Int))).tmod (3 : Int) + (1 : Int))) (r7.snd.1) (r8.1) (p1) (p2) (p3) ((↑p20.length : Int)) ((0 : Int)) (r7.fst.1) (r7.fst.snd.1) (r7.fst.snd.snd.fst.fst.1) (r7.fst.snd.snd.fst.fst.snd.1) (r7.fst.snd.snd.fst.fst.snd.snd.1) (r7.fst.snd.snd.fst.fst.snd.snd.2) (r7.fst.snd.snd.fst.snd.fst.1) (r7.fst.snd.snd.fst.snd.fst.snd.1) (r7.fst.snd.snd.fst.snd.fst.snd.snd.1) (r7.fst.snd.snd.fst.snd.fst.snd.snd.2) (r7.fst.snd.snd.fst.snd.snd.1) (r7.fst.snd.snd.fst.snd.snd.snd.1) (r7.fst.snd.snd.fst.snd.snd.snd.snd.1) (r7.fst.snd.snd.fst.snd.snd.snd.snd.2) (r7.fst.snd.snd.snd.1) (r7.fst.snd.snd.snd.2) (p20) (p21) (p22)
                      else
                        bif (↑p22.length : Int) == (0 : Int) then
                          tendrillaw07_ArenaPinned_L26 k (p0) (p1) (p2) (Go.RowKit.wrap64 (p3 + (1 : Int))) (p4) (p5) (p6) (p7) (p8) (p9) (p10) (p11) (p12) (p13) (p14) (p15) (p16) (p17) (p18) (p19) (p20) (p21) (p22)
                        else
                          bif Decidable.decide ((↑p22.length : Int) = (0 : Int)) then
                            none
                          else
                            bif Decidable.decide ((0 : Int) ≤ (Go.RowKit.wrap64 ((p1.getD p3.toNat (0 : Int)).tdiv (6 : Int))).tmod (↑p22.length : Int)) then
                              bif Decidable.decide ((Go.RowKit.wrap64 ((p1.getD p3.toNat (0 : Int)).tdiv (6 : Int))).tmod (↑p22.length : Int) < (↑p22.length : Int)) then
                                bif Decidable.decide ((↑(0 : Nat) : Int) ≤ (Go.RowKit.wrap64 ((p1.getD p3.toNat (0 : Int)).tdiv (6 : Int))).tmod (↑p22.length : Int)) then
                                  bif Decidable.decide ((Go.RowKit.wrap64 ((p1.getD p3.toNat (0 : Int)).tdiv (6 : Int))).tmod (↑p22.length : Int) ≤ (↑p22.length : Int)) then
                                    bif Decidable.decide ((0 : Nat) + (List.drop (0 : Nat) (List.take ((Go.RowKit.wrap64 ((p1.getD p3.toNat (0 : Int)).tdiv (6 : Int))).tmod (↑p22.length : Int)).toNat p22)).length ≤ (1000000 : Nat)) then
                                      bif Decidable.decide ((↑(0 : Nat) : Int) ≤ Go.RowKit.wrap64 ((Go.RowKit.wrap64 ((p1.getD p3.toNat (0 : Int)).tdiv (6 : Int))).tmod (↑p22.length : Int) + (1 : Int))) then
                                        bif Decidable.decide (Go.RowKit.wrap64 ((Go.RowKit.wrap64 ((p1.getD p3.toNat (0 : Int)).tdiv (6 : Int))).tmod (↑p22.length : Int) + (1 : Int)) ≤ (↑p22.length : Int)) then
                                          bif Decidable.decide ((List.drop (0 : Nat) (List.take ((Go.RowKit.wrap64 ((p1.getD p3.toNat (0 : Int)).tdiv (6 : Int))).tmod (↑p22.length : Int)).toNat p22)).length + (List.drop (Go.RowKit.wrap64 ((Go.RowKit.wrap64 ((p1.getD p3.toNat (0 : Int)).tdiv (6 : Int))).tmod (↑p22.length : Int) + (1 : Int))).toNat (List.take p22.length p22)).length ≤ (1000000 : Nat)) then
                                            (arena_Retire (((p4, p5, ((p6, p7, p8, p9), (p10, p11, p12, p13), p14, p15, p16, p17), p18, p19), (p22.getD ((Go.RowKit.wrap64 (Int.tdiv (p1.getD p3.toNat (0 : Int)) (6 : Int))).tmod ((↑p22.length : Int) : Int)).toNat ((0 : Int), (0 : Int))).1, (p22.getD ((Go.RowKit.wrap64 (Int.tdiv (p1.getD p3.toNat (0 : Int)) (6 : Int))).tmod ((↑p22.length : Int) : Int)).toNat ((0 : Int), (0 : Int))).2))).bind fun r9 =>
                                            (tag_Unpack ((p22.getD ((Go.RowKit.wrap64 (Int.tdiv (p1.getD p3.toNat (0 : Int)) (6 : Int))).tmod ((↑p22.length : Int) : Int)).toNat ((0 : Int), (0 : Int))).2)).bind fun r10 =>
                                            bif r9.2 != (0 : Int) then
                                              some (Bool.false)
                                            else
                                              bif r10.snd.2 != (0 : Int) then
                                                some (Bool.false)
                                              else
                                                tendrillaw07_ArenaPinned_L62 k (p0) (r10.1) (p1) (p2) (p3) ((↑p20.length : Int)) ((0 : Int)) (r9.fst.1) (r9.fst.snd.1) (r9.fst.snd.snd.fst.fst.1) (r9.fst.snd.snd.fst.fst.snd.1) (r9.fst.snd.snd.fst.fst.snd.snd.1) (r9.fst.snd.snd.fst.fst.snd.snd.2) (r9.fst.snd.snd.fst.snd.fst.1) (r9.fst.snd.snd.fst.snd.fst.snd.1) (r9.fst.snd.snd.fst.snd.fst.snd.snd.1) (r9.fst.snd.snd.fst.snd.fst.snd.snd.2) (r9.fst.snd.snd.fst.snd.snd.1) (r9.fst.snd.snd.fst.snd.snd.snd.1) (r9.fst.snd.snd.fst.snd.snd.snd.snd.1) (r9.fst.snd.snd.fst.snd.snd.snd.snd.2) (r9.fst.snd.snd.snd.1) (r9.fst.snd.snd.snd.2) (p20) (p21) (List.drop (0 : Nat) (List.take ((Go.RowKit.wrap64 ((p1.getD p3.toNat (0 : Int)).tdiv (6 : Int))).tmod (↑p22.length : Int)).toNat p22) ++ List.drop (Go.RowKit.wrap64 ((Go.RowKit.wrap64 ((p1.getD p3.toNat (0 : Int)).tdiv (6 : Int))).tmod (↑p22.length : Int) + (1 : Int))).toNat (List.take p22.length p22)) ((p22.getD ((Go.RowKit.wrap64 (Int.tdiv (p1.getD p3.toNat (0 : Int)) (6 : Int))).tmod ((↑p22.length : Int) : Int)).toNat ((0 : Int), (0 : Int))).1) ((p22.getD ((Go.RowKit.wrap64 (Int.tdiv (p1.getD p3.toNat (0 : Int)) (6 : Int))).tmod ((↑p22.length : Int) : Int)).toNat ((0 : Int), (0 : Int))).2)
                                          else
                                            none
                                        else
                                          none
                                      else
                                        none
                                    else
                                      none
                                  else
                                    none
                                else
                                  none
                              else
                                none
                            else
                              none
        else
          none
      else
        none
    else
      (arena_Check ((p4, p5, ((p6, p7, p8, p9), (p10, p11, p12, p13), p14, p15, p16, p17), p18, p19))).bind fun r11 =>
      some (r11 == (0 : Int))
def tendrillaw07_ArenaPinned_L116 : Nat → (Int) → (Int) → (Int) → (Int) → (List Int) → (Int) → (Int) → (Int) → (Int) → (List Int) → (List Int) → (List Int) → (List Int) → (List Int) → (List Int) → (List Int) → (List Int) → (List Int) → (List Int) → (List Int) → (List Int) → (List Int) → (List Int) → (Int) → (List Int) → (List (List (Int × Int))) → (List Bool) → (List (Int × Int)) → Option (Bool)
  | 0, _, _, _, _, _, _, _, _, _, _, _, _, _, _, _, _, _, _, _, _, _, _, _, _, _, _, _, _ => none
  | k + 1, p0, p1, p2, p3, p4, p5, p6, p7, p8, p9, p10, p11, p12, p13, p14, p15, p16, p17, p18, p19, p20, p21, p22, p23, p24, p25, p26, p27 =>
    bif Decidable.decide (p8 < p7) then
      bif Decidable.decide ((0 : Int) ≤ p8) then
        bif Decidable.decide (p8 < (↑p25.length : Int)) then
          tendrillaw07_ArenaPinned_L122 k (p0) (p1) (p2) (p3) (p8) (p4) (p5) (p6) (p7) (p8) (p25.getD p8.toNat []) ((↑(p25.getD p8.toNat []).length : Int)) ((0 : Int)) (p9) (p10) (p11) (p12) (p13) (p14) (p15) (p16) (p17) (p18) (p19) (p20) (p21) (p22) (p23) (p24) (p25) (p26) (p27)
        else
          none
      else
        none
    else
      bif Decidable.decide (p27.length + [(p1, p2)].length ≤ (1000000 : Nat)) then
        tendrillaw07_ArenaPinned_L26 k (p0) (p4) (p5) (Go.RowKit.wrap64 (p6 + (1 : Int))) (p9) (p10) (p11) (p12) (p13) (p14) (p15) (p16) (p17) (p18) (p19) (p20) (p21) (p22) (p23) (p24) (p25) (p26) (p27 ++ [(p1, p2)])
      else
        none
def tendrillaw07_ArenaPinned_L62 : Nat → (Int) → (Int) → (List Int) → (Int) → (Int) → (Int) → (Int) → (List Int) → (List Int) → (List Int) → (List Int) → (List Int) → (List Int) → (List Int) → (List Int) → (List Int) → (List Int) → (List Int) → (List Int) → (List Int) → (List Int) → (Int) → (List Int) → (List (List (Int × Int))) → (List Bool) → (List (Int × Int)) → (Int) → (Int) → Option (Bool)
  | 0, _, _, _, _, _, _, _, _, _, _, _, _, _, _, _, _, _, _, _, _, _, _, _, _, _, _, _, _ => none
  | k + 1, p0, p1, p2, p3, p4, p5, p6, p7, p8, p9, p10, p11, p12, p13, p14, p15, p16, p17, p18, p19, p20, p21, p22, p23, p24, p25, p26, p27 =>
    bif Decidable.decide (p6 < p5) then
      bif Decidable.decide ((0 : Int) ≤ p6) then
        bif Decidable.decide (p6 < (↑p24.length : Int)) then
          bif p24.getD p6.toNat Bool.false then
            bif Decidable.decide ((0 : Int) ≤ p6) then
              bif Decidable.decide (p6 < (↑p23.length : Int)) then
                none
              else
                none
            else
              none
          else
            tendrillaw07_ArenaPinned_L62 k (p0) (p1) (p2) (p3) (p4) (p5) (Go.RowKit.wrap64 (p6 + (1 : Int))) (p7) (p8) (p9) (p10) (p11) (p12) (p13) (p14) (p15) (p16) (p17) (p18) (p19) (p20) (p21) (p22) (p23) (p24) (p25) (p26) (p27)
        else
          none
      else
        none
    else
      tendrillaw07_ArenaPinned_L26 k (p0) (p2) (p3) (Go.RowKit.wrap64 (p4 + (1 : Int))) (p7) (p8) (p9) (p10) (p11) (p12) (p13) (p14) (p15) (p16) (p17) (p18) (p19) (p20) (p21) (p22) (p23) (p24) (p25)
def tendrillaw07_ArenaPinned_L122 : Nat → (Int) → (Int) → (Int) → (Int) → (Int) → (List Int) → (Int) → (Int) → (Int) → (Int) → (List (Int × Int)) → (Int) → (Int) → (List Int) → (List Int) → (List Int) → (List Int) → (List Int) → (List Int) → (List Int) → (List Int) → (List Int) → (List Int) → (List Int) → (List Int) → (List Int) → (List Int) → (Int) → (List Int) → (List (List (Int × Int))) → (List Bool) → (List (Int × Int)) → Option (Bool)
  | 0, _, _, _, _, _, _, _, _, _, _, _, _, _, _, _, _, _, _, _, _, _, _, _, _, _, _, _, _, _, _, _, _ => none
  | k + 1, p0, p1, p2, p3, p4, p5, p6, p7, p8, p9, p10, p11, p12, p13, p14, p15, p16, p17, p18, p19, p20, p21, p22, p23, p24, p25, p26, p27, p28, p29, p30, p31 =>
    bif Decidable.decide (p12 < p11) then
      bif Decidable.decide ((0 : Int) ≤ p12) then
        bif Decidable.decide (p12 < (↑p10.length : Int)) then
          bif Decidable.decide ((0 : Int) ≤ p4) then
            bif Decidable.decide (p4 < (↑p30.length : Int)) then
              bif p30.getD p4.toNat Bool.false then
                bif (p10.getD p12.toNat ((0 : Int), (0 : Int))).1 == p1 && ((p10.getD p12.toNat ((0 : Int), (0 : Int))).2 == p3 && Bool.true) then
                  some (Bool.false)
                else
                  tendrillaw07_ArenaPinned_L122 k (p0) (p1) (p2) (p3) (p4) (p5) (p6) (p7) (p8) (p9) (p10) (p11) (Go.RowKit.wrap64 (p12 + (1 : Int))) (p13) (p14) (p15) (p16) (p17) (p18) (p19) (p20) (p21) (p22) (p23) (p24) (p25) (p26) (p27) (p28) (p29) (p30) (p31)
              else
                tendrillaw07_ArenaPinned_L122 k (p0) (p1) (p2) (p3) (p4) (p5) (p6) (p7) (p8) (p9) (p10) (p11) (Go.RowKit.wrap64 (p12 + (1 : Int))) (p13) (p14) (p15) (p16) (p17) (p18) (p19) (p20) (p21) (p22) (p23) (p24) (p25) (p26) (p27) (p28) (p29) (p30) (p31)
            else
              none
          else
            none
        else
          none
      else
        none
    else
      tendrillaw07_ArenaPinned_L116 k (p0) (p1) (p2) (p3) (p5) (p6) (p7) (p8) (Go.RowKit.wrap64 (p9 + (1 : Int))) (p13) (p14) (p15) (p16) (p17) (p18) (p19) (p20) (p21) (p22) (p23) (p24) (p25) (p26) (p27) (p28) (p29) (p30) (p31)
end
def tendrillaw07_ArenaPinned_K (K : Nat) (x : (Int × Int × Int × Int × Int) × Int × List Int) : Option (Bool) :=
  (tendrillaw07_live (())).bind fun r0 =>
  bif !r0 then
    some (Bool.false)
  else
    bif Decidable.decide (x.snd.1 < (1 : Int)) then
      some (Bool.true)
    else
      bif Decidable.decide ((6 : Int) < x.snd.1) then
        some (Bool.true)
      else
        bif Decidable.decide ((120 : Int) < (↑(List.length x.snd.2) : Int)) then
          some (Bool.true)
        else
          (arena_New (((x.fst.1, x.fst.snd.1, x.fst.snd.snd.1, x.fst.snd.snd.snd.1, x.fst.snd.snd.snd.2), x.snd.1))).bind fun r1 =>
          bif r1.2 != (0 : Int) then
            some ((↑(List.length r1.fst.snd.snd.snd.2) : Int) == (0 : Int))
          else
            bif Decidable.decide ((0 : Int) ≤ x.snd.1) then
              bif Decidable.decide (x.snd.1 ≤ (1000000 : Int)) then
                bif Decidable.decide ((0 : Int) ≤ x.snd.1) then
                  bif Decidable.decide (x.snd.1 ≤ (1000000 : Int)) then
                    tendrillaw07_ArenaPinned_L26 K (x.snd.1) (x.snd.2) ((↑(List.length x.snd.2) : Int)) ((0 : Int)) (r1.fst.1) (r1.fst.snd.1) (r1.fst.snd.snd.fst.fst.1) (r1.fst.snd.snd.fst.fst.snd.1) (r1.fst.snd.snd.fst.fst.snd.snd.1) (r1.fst.snd.snd.fst.fst.snd.snd.2) (r1.fst.snd.snd.fst.snd.fst.1) (r1.fst.snd.snd.fst.snd.fst.snd.1) (r1.fst.snd.snd.fst.snd.fst.snd.snd.1) (r1.fst.snd.snd.fst.snd.fst.snd.snd.2) (r1.fst.snd.snd.fst.snd.snd.1) (r1.fst.snd.snd.fst.snd.snd.snd.1) (r1.fst.snd.snd.fst.snd.snd.snd.snd.1) (r1.fst.snd.snd.fst.snd.snd.snd.snd.2) (r1.fst.snd.snd.snd.1) (r1.fst.snd.snd.snd.2) (List.replicate (Int.toNat x.snd.1) []) (List.replicate (Int.toNat x.snd.1) Bool.false) ([])
                  else
                    none
                else
                  none
              else
                none
            else
              none
def tendrillaw07_ArenaPinned (x : (Int × (Int × (Int × (Int × Int)))) × Int × (List Int)) : Option (Bool) := tendrillaw07_ArenaPinned_K 2000000 x
def tendrillaw07_ArenaPinned_S : Sig := ⟨[⟨true, (.pair .int (.pair .int (.pair .int (.pair .int .int))))⟩, ⟨false, .int⟩, ⟨false, (.sl .int)⟩], [⟨false, .bool⟩], false, tendrillaw07_ArenaPinned⟩
end Go.Proofs.YtkdohmgacodhjaaFn
