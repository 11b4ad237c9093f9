/- What the functions that this seat's laws reach compute, as plain functions; no condition. -/
import Derived.Test.YthnbleblmpnfhaaProg
import Derived.KernelRfl
import Derived.Test.YthnbleblmpnfhaaPx25
import Derived.Test.YthnbleblmpnfhaaFolD
set_option linter.unusedVariables false
set_option linter.unusedSimpArgs false
namespace Go.Proofs.YthnbleblmpnfhaaFn
open Go Go.RowKit Go.Proofs.YthnbleblmpnfhaaPx
/-! slices.Clone of numbers: by hand over the evaluator: nil, or not. -/
def slices_Clone (x : List Int) : Option (List Int) := bif decide (0 + x.length ≤ 1000000) then some x else none
def slices_Clone_S : Sig := ⟨[⟨false, (.sl .int)⟩], [⟨false, (.sl .int)⟩], true, slices_Clone⟩
theorem slices_Clone_cuts : ∀ p ∈ cuts Try.prog (lkΓ []) Try.f39.ntmps [] (bodyOf Try.f39) (κ0 Try.prog Try.f39 true [⟨false, (.sl .int)⟩]), CutOk (fun _ _ _ _ => none) p := cutsNil (by kernel_rfl)
theorem slices_Clone_run0 (xs : List Int) : (pxFn Try.prog (lkΓ []) [] Try.f39 (bodyOf Try.f39) true [⟨false, (.sl .int)⟩] [.one (.sln false .int xs)]).run (fun _ _ _ => none) = some [] := by kernel_rfl
theorem slices_Clone_run1 (xs : List Int) : (pxFn Try.prog (lkΓ []) [] Try.f39 (bodyOf Try.f39) true [⟨false, (.sl .int)⟩] [.one (.sln true .int xs)]).run (fun _ _ _ => none) = slices_Clone xs := by kernel_rfl
theorem slices_Clone_go {S : Nat → Prop} {w : World} {v : Value} {nn : Bool} {xs r : List Int} (hd : (V1.one (.sln nn .int xs)).Den S w noρ v) (hS : ∀ b, w.heap.size ≤ b → S b)
    (hrun : (pxFn Try.prog (lkΓ []) [] Try.f39 (bodyOf Try.f39) true [⟨false, (.sl .int)⟩] [.one (.sln nn .int xs)]).run (fun _ _ _ => none) = some r) :
    Calls Try.prog 39 [v].toArray w fun e w' => ∃ v, e = .returned v ∧ Below w.heap.size w w' ∧ ∀ base, ResOk S w.heap.size w' (slices_Clone_S.out base r) v :=
  fn_calls (s := slices_Clone_S) (T := []) (Λ := fun _ _ _ _ => none) 0 Try.func39 (c := bodyOf Try.f39) (by kernel_rfl) (by kernel_rfl) lkΓ_nil (by decide +kernel) (fun _ _ _ => rfl) slices_Clone_cuts (av := [.one (.sln nn .int xs)]) (vs := [v]) (show (1 : Nat) ≤ _ by decide +kernel) hrun hS ⟨hd, trivial⟩
theorem slices_Clone_ok : SigOk Try.prog 39 slices_Clone_S ∧ Bodied Try.prog 39 := by
  refine ⟨fun S w x r vs hfn hS hvs => ?_, bodied_of Try.func39 (by decide +kernel) (by decide +kernel)⟩
  match vs, hvs with
  | [v], ⟨hd, _⟩ =>
    have hd : RI S w .int v x := hd
    obtain ⟨p, c, rfl, hc, hr⟩ := RI.shape hd
    cases hp : p.isSome with
    | true => exact slices_Clone_go (nn := true) ⟨hd, p, _, c, rfl, hp⟩ hS ((slices_Clone_run1 x).trans hfn)
    | false =>
      have hx : x = [] := by
        rcases Nat.eq_zero_or_pos (List.length x) with h | h
        · exact List.eq_nil_of_length_eq_zero h
        · obtain ⟨b, o, rfl, _⟩ := hr h
          cases hp
      refine slices_Clone_go (nn := false) (xs := x) ⟨hd, p, _, c, rfl, hp⟩ hS ((slices_Clone_run0 x).trans ?_)
      subst hx
      exact hfn
  | [], hvs => exact hvs.elim
  | _ :: _ :: _, hvs => exact hvs.2.elim


/-! tendril/tendrilref02.Same -/
def tendrilref02_Same_L10 : Nat → (List Int) → (List Int) → (Int) → (Int) → Option (Bool)
  | 0, _, _, _, _ => none
  | k + 1, p0, p1, p2, p3 =>
    bif Decidable.decide (p3 < p2) then
      bif Decidable.decide ((0 : Int) ≤ p3) then
        bif Decidable.decide (p3 < (↑p0.length : Int)) then
          bif Decidable.decide ((0 : Int) ≤ p3) then
            bif Decidable.decide (p3 < (↑p1.length : Int)) then
              bif p0.getD p3.toNat (0 : Int) != p1.getD p3.toNat (0 : Int) then
                some (Bool.false)
              else
                tendrilref02_Same_L10 k (p0) (p1) (p2) (Go.RowKit.wrap64 (p3 + (1 : Int)))
            else
              none
          else
            none
        else
          none
      else
        none
    else
      some (Bool.true)
def tendrilref02_Same_K (K : Nat) (x : List Int × List Int) : Option (Bool) :=
  bif (↑(List.length x.1) : Int) != (↑(List.length x.2) : Int) then
    some (Bool.false)
  else
    tendrilref02_Same_L10 K (x.1) (x.2) ((↑(List.length x.1) : Int)) ((0 : Int))
def tendrilref02_Same (x : (List Int) × (List Int)) : Option (Bool) := tendrilref02_Same_K 2000000 x
def tendrilref02_Same_S : Sig := ⟨[⟨false, (.sl .int)⟩, ⟨false, (.sl .int)⟩], [⟨false, .bool⟩], false, tendrilref02_Same⟩
/-! tendril/mem.Store -/
def mem_Store (x : List Int × Int × Int) : Option (List Int × Int) :=
  (mem_in ((x.1, x.snd.1))).bind fun r0 =>
  bif !r0 then
    some (([], (1 : Int)))
  else
    (slices_Clone (x.1)).bind fun r1 =>
    bif Decidable.decide ((0 : Int) ≤ x.snd.1) then
      bif Decidable.decide (x.snd.1 < (↑(List.length r1) : Int)) then
        some ((List.set r1 (Int.toNat x.snd.1) x.snd.2, (0 : Int)))
      else
        none
    else
      none
def mem_Store_S : Sig := ⟨[⟨false, (.sl .int)⟩, ⟨false, .int⟩, ⟨false, .int⟩], [⟨false, (.sl .int)⟩, ⟨false, .int⟩], true, mem_Store⟩
/-! tendril/chain.Put -/
def chain_Put (x : (Int × Int × Int × Int × Int) × List Int × Int × Int × Int × Int) : Option (List Int × Int) :=
  (chain_where (((x.fst.1, x.fst.snd.1, x.fst.snd.snd.1, x.fst.snd.snd.snd.1, x.fst.snd.snd.snd.2), x.snd.1, x.snd.snd.1, x.snd.snd.snd.1, x.snd.snd.snd.snd.1))).bind fun r0 =>
  bif r0.2 != (0 : Int) then
    some (([], r0.2))
  else
    (mem_Store ((x.snd.1, r0.1, x.snd.snd.snd.snd.2))).bind fun r1 =>
    some ((r1.1, r1.2))
def chain_Put_S : Sig := ⟨[⟨true, (.pair .int (.pair .int (.pair .int (.pair .int .int))))⟩, ⟨false, (.sl .int)⟩, ⟨false, .int⟩, ⟨false, .int⟩, ⟨false, .int⟩, ⟨false, .int⟩], [⟨false, (.sl .int)⟩, ⟨false, .int⟩], true, chain_Put⟩
/-! tendril/chain.Push -/
def chain_Push (x : (Int × Int × Int × Int × Int) × List Int × Int × Int × Int × Int) : Option (List Int × Int) :=
  (mem_Load ((x.snd.1, x.snd.snd.1))).bind fun r0 =>
  bif r0.2 != (0 : Int) then
    some (([], r0.2))
  else
    (chain_Put (((x.fst.1, x.fst.snd.1, x.fst.snd.snd.1, x.fst.snd.snd.snd.1, x.fst.snd.snd.snd.2), x.snd.1, x.snd.snd.snd.1, x.snd.snd.snd.snd.1, x.snd.snd.snd.snd.2, r0.1))).bind fun r1 =>
    bif r1.2 != (0 : Int) then
      some (([], r1.2))
    else
      (mem_Store ((r1.1, x.snd.snd.1, x.snd.snd.snd.snd.1))).bind fun r2 =>
      some ((r2.1, r2.2))
def chain_Push_S : Sig := ⟨[⟨true, (.pair .int (.pair .int (.pair .int (.pair .int .int))))⟩, ⟨false, (.sl .int)⟩, ⟨false, .int⟩, ⟨false, .int⟩, ⟨false, .int⟩, ⟨false, .int⟩], [⟨false, (.sl .int)⟩, ⟨false, .int⟩], true, chain_Push⟩
/-! tendril/mem.New -/
def mem_New (x : Int) : Option (List Int × Int) :=
  bif Decidable.decide (x < (0 : Int)) then
    some (([], (1 : Int)))
  else
    bif Decidable.decide ((4096 : Int) < x) then
      some (([], (1 : Int)))
    else
      bif Decidable.decide ((0 : Int) ≤ x) then
        bif Decidable.decide (x ≤ (1000000 : Int)) then
          some ((List.replicate (Int.toNat x) (0 : Int), (0 : Int)))
        else
          none
      else
        none
def mem_New_S : Sig := ⟨[⟨false, .int⟩], [⟨false, (.sl .int)⟩, ⟨false, .int⟩], true, mem_New⟩
/-! tendril/place.New -/
def place_New (x : Int × Int × Int × Int × Int) : Option (List Int × Int) :=
  (place_Check ((x.1, x.snd.1, x.snd.snd.1, x.snd.snd.snd.1, x.snd.snd.snd.2))).bind fun r0 =>
  bif r0 != (0 : Int) then
    some (([], r0))
  else
    (place_Size ((x.1, x.snd.1, x.snd.snd.1, x.snd.snd.snd.1, x.snd.snd.snd.2))).bind fun r1 =>
    (mem_New (r1)).bind fun r2 =>
    bif r2.2 != (0 : Int) then
      some (([], r2.2))
    else
      bif Decidable.decide ((0 : Int) < (↑(List.length r2.1) : Int)) then
        bif Decidable.decide ((1 : Int) < (↑(List.set r2.1 (Int.toNat (0 : Int)) (1 : Int)).length : Int)) then
          some (((List.set r2.1 (Int.toNat (0 : Int)) (1 : Int)).set (Int.toNat (1 : Int)) (1 : Int), (0 : Int)))
        else
          none
      else
        none
def place_New_S : Sig := ⟨[⟨true, (.pair .int (.pair .int (.pair .int (.pair .int .int))))⟩], [⟨false, (.sl .int)⟩, ⟨false, .int⟩], true, place_New⟩
/-! tendril/tendrillaw14.plain -/
def tendrillaw14_plain (x : Unit) : Option (Int × Int × Int × Int × Int) :=
  some (((1 : Int), (2 : Int), (2 : Int), (1 : Int), (2 : Int)))
def tendrillaw14_plain_S : Sig := ⟨[], [⟨true, (.pair .int (.pair .int (.pair .int (.pair .int .int))))⟩], false, tendrillaw14_plain⟩
/-! tendril/tendrillaw14.live -/
def tendrillaw14_live (x : Unit) : Option (Bool) :=
  (tendrillaw14_plain (())).bind fun r0 =>
  (place_New ((r0.1, r0.snd.1, r0.snd.snd.1, r0.snd.snd.snd.1, r0.snd.snd.snd.2))).bind fun r1 =>
  (tendrillaw14_plain (())).bind fun r2 =>
  (chain_Follow (((r2.1, r2.snd.1, r2.snd.snd.1, r2.snd.snd.snd.1, r2.snd.snd.snd.2), r1.1, (3 : Int), (0 : Int), (2 : Int)))).bind fun r3 =>
  (tendrillaw14_plain (())).bind fun r4 =>
  (chain_Push (((r4.1, r4.snd.1, r4.snd.snd.1, r4.snd.snd.snd.1, r4.snd.snd.snd.2), r1.1, (2 : Int), (3 : Int), (1 : Int), (2 : Int)))).bind fun r5 =>
  (tendrillaw14_plain (())).bind fun r6 =>
  (chain_Follow (((r6.1, r6.snd.1, r6.snd.snd.1, r6.snd.snd.snd.1, r6.snd.snd.snd.2), r5.1, (3 : Int), (1 : Int), (2 : Int)))).bind fun r7 =>
  bif r1.2 == (0 : Int) then
    bif r3.2 == (0 : Int) then
      bif (↑(List.length r3.1) : Int) == (0 : Int) then
        bif r5.2 == (0 : Int) then
          bif r7.2 == (0 : Int) then
            (tendrilref02_Same ((r7.1, [(1 : Int)]))).bind fun r8 =>
            bif r8 then
              bif Decidable.decide ((2 : Int) < (↑(List.length r5.1) : Int)) then
                some (List.getD r5.1 (Int.toNat (2 : Int)) (0 : Int) == (1 : Int))
              else
                none
            else
              some (Bool.false)
          else
            some (Bool.false)
        else
          some (Bool.false)
      else
        some (Bool.false)
    else
      some (Bool.false)
  else
    some (Bool.false)
def tendrillaw14_live_S : Sig := ⟨[], [⟨false, .bool⟩], false, tendrillaw14_live⟩
/-! tendril/tendrillaw14.few -/
def tendrillaw14_few (x : List Int) : Option (Bool) :=
  some (Decidable.decide ((↑(List.length x) : Int) ≤ (1000 : Int)))
def tendrillaw14_few_S : Sig := ⟨[⟨false, (.sl .int)⟩], [⟨false, .bool⟩], false, tendrillaw14_few⟩
/-! tendril/tendrilref03.Check -/
def tendrilref03_Check_L6 : Nat → (Int) → (Int) → (List Int) → Option (Int)
  | 0, _, _, _ => none
  | k + 1, p0, p1, p2 =>
    bif Decidable.decide (p1 < p0) then
      bif Decidable.decide ((0 : Int) ≤ p1) then
        bif Decidable.decide (p1 < (↑p2.length : Int)) then
          bif Decidable.decide (p2.getD p1.toNat (0 : Int) < (1 : Int)) then
            some ((1 : Int))
          else
            bif Decidable.decide ((64 : Int) < p2.getD p1.toNat (0 : Int)) then
              some ((1 : Int))
            else
              tendrilref03_Check_L6 k (p0) (Go.RowKit.wrap64 (p1 + (1 : Int))) (p2)
        else
          none
      else
        none
    else
      some ((0 : Int))
def tendrilref03_Check_K (K : Nat) (x : Int × Int × Int × Int × Int) : Option (Int) :=
  tendrilref03_Check_L6 K ((↑([x.1, x.snd.1, x.snd.snd.1, x.snd.snd.snd.1, x.snd.snd.snd.2]).length : Int)) ((0 : Int)) ([x.1, x.snd.1, x.snd.snd.1, x.snd.snd.snd.1, x.snd.snd.snd.2])
def tendrilref03_Check (x : (Int × (Int × (Int × (Int × Int))))) : Option (Int) := tendrilref03_Check_K 2000000 x
def tendrilref03_Check_S : Sig := ⟨[⟨true, (.pair .int (.pair .int (.pair .int (.pair .int .int))))⟩], [⟨false, .int⟩], false, tendrilref03_Check⟩
/-! tendril/tendrilref03.Size -/
def tendrilref03_Size (x : Int × Int × Int × Int × Int) : Option (Int) :=
  (tendrilref03_Check ((x.1, x.snd.1, x.snd.snd.1, x.snd.snd.snd.1, x.snd.snd.snd.2))).bind fun r0 =>
  bif r0 != (0 : Int) then
    some ((0 : Int))
  else
    some (Go.RowKit.wrap64 (Go.RowKit.wrap64 (Go.RowKit.wrap64 (Go.RowKit.wrap64 (Go.RowKit.wrap64 ((2 : Int) + x.snd.snd.snd.1) + x.snd.snd.snd.2) + Go.RowKit.wrap64 ((4 : Int) * x.1)) + Go.RowKit.wrap64 ((5 : Int) * x.snd.1)) + Go.RowKit.wrap64 ((3 : Int) * x.snd.snd.1)))
def tendrilref03_Size_S : Sig := ⟨[⟨true, (.pair .int (.pair .int (.pair .int (.pair .int .int))))⟩], [⟨false, .int⟩], false, tendrilref03_Size⟩
/-! tendril/tendrilref01.Unpack -/
def tendrilref01_Unpack (x : Int) : Option (Int × Int × Int) :=
  bif Decidable.decide (x < (1 : Int)) then
    some (((0 : Int), (0 : Int), (1 : Int)))
  else
    bif Decidable.decide ((1125899906842624 : Int) < x) then
      some (((0 : Int), (0 : Int), (1 : Int)))
    else
      some (((Go.RowKit.wrap64 (x - (1 : Int))).tmod (1024 : Int), Go.RowKit.wrap64 ((Go.RowKit.wrap64 (x - (1 : Int))).tdiv (1024 : Int)), (0 : Int)))
def tendrilref01_Unpack_S : Sig := ⟨[⟨false, .int⟩], [⟨false, .int⟩, ⟨false, .int⟩, ⟨false, .int⟩], false, tendrilref01_Unpack⟩
/-! tendril/tendrilref03.Cap -/
def tendrilref03_Cap (x : (Int × Int × Int × Int × Int) × Int) : Option (Int × Int) :=
  bif x.2 == (1 : Int) then
    some ((x.fst.1, (4 : Int)))
  else
    bif x.2 == (2 : Int) then
      some ((x.fst.snd.1, (5 : Int)))
    else
      bif x.2 == (3 : Int) then
        some ((x.fst.snd.snd.1, (3 : Int)))
      else
        some (((0 : Int), (0 : Int)))
def tendrilref03_Cap_S : Sig := ⟨[⟨true, (.pair .int (.pair .int (.pair .int (.pair .int .int))))⟩, ⟨false, .int⟩], [⟨false, .int⟩, ⟨false, .int⟩], false, tendrilref03_Cap⟩
/-! tendril/tendrilref03.Field -/
def tendrilref03_Field_L14 : Nat → (Int) → (Int) → (Int) → (Int) → (Int) → (Int) → (Int) → (Int) → (Int) → (Int) → (Int) → Option (Int × Int)
  | 0, _, _, _, _, _, _, _, _, _, _, _ => none
  | k + 1, p0, p1, p2, p3, p4, p5, p6, p7, p8, p9, p10 =>
    bif Decidable.decide (p5 < p0) then
      (tendrilref03_Cap (((p6, p7, p8, p9, p10), p5))).bind fun r2 =>
      tendrilref03_Field_L14 k (p0) (p1) (p2) (p3) (Go.RowKit.wrap64 (p4 + Go.RowKit.wrap64 (r2.1 * r2.2))) (Go.RowKit.wrap64 (p5 + (1 : Int))) (p6) (p7) (p8) (p9) (p10)
    else
      some ((Go.RowKit.wrap64 (Go.RowKit.wrap64 (p4 + Go.RowKit.wrap64 (p3 * p1)) + p2), (0 : Int)))
def tendrilref03_Field_K (K : Nat) (x : (Int × Int × Int × Int × Int) × Int × Int × Int) : Option (Int × Int) :=
  (tendrilref03_Cap (((x.fst.1, x.fst.snd.1, x.fst.snd.snd.1, x.fst.snd.snd.snd.1, x.fst.snd.snd.snd.2), x.snd.1))).bind fun r0 =>
  (tendrilref03_Check ((x.fst.1, x.fst.snd.1, x.fst.snd.snd.1, x.fst.snd.snd.snd.1, x.fst.snd.snd.snd.2))).bind fun r1 =>
  bif r1 != (0 : Int) then
    some (((0 : Int), (1 : Int)))
  else
    bif Decidable.decide (x.snd.snd.1 < (0 : Int)) then
      some (((0 : Int), (1 : Int)))
    else
      bif Decidable.decide (r0.1 ≤ x.snd.snd.1) then
        some (((0 : Int), (1 : Int)))
      else
        bif Decidable.decide (x.snd.snd.2 < (0 : Int)) then
          some (((0 : Int), (1 : Int)))
        else
          bif Decidable.decide (r0.2 ≤ x.snd.snd.2) then
            some (((0 : Int), (1 : Int)))
          else
            tendrilref03_Field_L14 K (x.snd.1) (x.snd.snd.1) (x.snd.snd.2) (r0.2) (Go.RowKit.wrap64 (Go.RowKit.wrap64 ((2 : Int) + x.fst.snd.snd.snd.1) + x.fst.snd.snd.snd.2)) ((1 : Int)) (x.fst.1) (x.fst.snd.1) (x.fst.snd.snd.1) (x.fst.snd.snd.snd.1) (x.fst.snd.snd.snd.2)
def tendrilref03_Field (x : (Int × (Int × (Int × (Int × Int)))) × Int × Int × Int) : Option (Int × Int) := tendrilref03_Field_K 2000000 x
def tendrilref03_Field_S : Sig := ⟨[⟨true, (.pair .int (.pair .int (.pair .int (.pair .int .int))))⟩, ⟨false, .int⟩, ⟨false, .int⟩, ⟨false, .int⟩], [⟨false, .int⟩, ⟨false, .int⟩], false, tendrilref03_Field⟩
/-! tendril/tendrilref14.at -/
def tendrilref14_at (x : (Int × Int × Int × Int × Int) × List Int × Int × Int × Int) : Option (Int × Int) :=
  (tendrilref01_Unpack (x.snd.snd.snd.1)).bind fun r0 =>
  (tendrilref03_Check ((x.fst.1, x.fst.snd.1, x.fst.snd.snd.1, x.fst.snd.snd.snd.1, x.fst.snd.snd.snd.2))).bind fun r1 =>
  bif r1 != (0 : Int) then
    some (((0 : Int), (1 : Int)))
  else
    (tendrilref03_Size ((x.fst.1, x.fst.snd.1, x.fst.snd.snd.1, x.fst.snd.snd.snd.1, x.fst.snd.snd.snd.2))).bind fun r2 =>
    bif (↑(List.length x.snd.1) : Int) != r2 then
      some (((0 : Int), (1 : Int)))
    else
      bif r0.snd.2 != (0 : Int) then
        some (((0 : Int), (1 : Int)))
      else
        (tendrilref03_Field (((x.fst.1, x.fst.snd.1, x.fst.snd.snd.1, x.fst.snd.snd.snd.1, x.fst.snd.snd.snd.2), x.snd.snd.1, r0.1, x.snd.snd.snd.2))).bind fun r3 =>
        some ((r3.1, r3.2))
def tendrilref14_at_S : Sig := ⟨[⟨true, (.pair .int (.pair .int (.pair .int (.pair .int .int))))⟩, ⟨false, (.sl .int)⟩, ⟨false, .int⟩, ⟨false, .int⟩, ⟨false, .int⟩], [⟨false, .int⟩, ⟨false, .int⟩], false, tendrilref14_at⟩
/-! tendril/tendrilref14.Field -/
def tendrilref14_Field (x : (Int × Int × Int × Int × Int) × List Int × Int × Int × Int) : Option (Int × Int) :=
  (tendrilref14_at (((x.fst.1, x.fst.snd.1, x.fst.snd.snd.1, x.fst.snd.snd.snd.1, x.fst.snd.snd.snd.2), x.snd.1, x.snd.snd.1, x.snd.snd.snd.1, x.snd.snd.snd.2))).bind fun r0 =>
  bif r0.2 != (0 : Int) then
    some (((0 : Int), r0.2))
  else
    bif Decidable.decide ((0 : Int) ≤ r0.1) then
      bif Decidable.decide (r0.1 < (↑(List.length x.snd.1) : Int)) then
        some ((List.getD x.snd.1 (Int.toNat r0.1) (0 : Int), (0 : Int)))
      else
        none
    else
      none
def tendrilref14_Field_S : Sig := ⟨[⟨true, (.pair .int (.pair .int (.pair .int (.pair .int .int))))⟩, ⟨false, (.sl .int)⟩, ⟨false, .int⟩, ⟨false, .int⟩, ⟨false, .int⟩], [⟨false, .int⟩, ⟨false, .int⟩], false, tendrilref14_Field⟩
/-! tendril/tendrilref14.Follow -/
mutual
def tendrilref14_Follow_L12 : Nat → (List Int) → (Int) → (Int) → (Int) → (Int) → (Int) → (Int) → (Int) → (Int) → (List Int) → Option (List Int × Int)
  | 0, _, _, _, _, _, _, _, _, _, _ => none
  | k + 1, p0, p1, p2, p3, p4, p5, p6, p7, p8, p9 =>
    bif p3 != (0 : Int) then
      (tendrilref14_Field (((p4, p5, p6, p7, p8), p0, p1, p3, p2))).bind fun r2 =>
      bif r2.2 != (0 : Int) then
        some (([], r2.2))
      else
        (tendrilref01_Unpack (p3)).bind fun r3 =>
        tendrilref14_Follow_L24 k (p0) (p1) (p2) (p3) (r2.1) (r3.1) ((↑p9.length : Int)) ((0 : Int)) (p4) (p5) (p6) (p7) (p8) (p9)
    else
      some ((p9, (0 : Int)))
def tendrilref14_Follow_L24 : Nat → (List Int) → (Int) → (Int) → (Int) → (Int) → (Int) → (Int) → (Int) → (Int) → (Int) → (Int) → (Int) → (Int) → (List Int) → Option (List Int × Int)
  | 0, _, _, _, _, _, _, _, _, _, _, _, _, _, _ => none
  | k + 1, p0, p1, p2, p3, p4, p5, p6, p7, p8, p9, p10, p11, p12, p13 =>
    bif Decidable.decide (p7 < p6) then
      bif Decidable.decide ((0 : Int) ≤ p7) then
        bif Decidable.decide (p7 < (↑p13.length : Int)) then
          (tendrilref01_Unpack (p13.getD p7.toNat (0 : Int))).bind fun r4 =>
          bif r4.1 == p5 then
            some (([], (6 : Int)))
          else
            tendrilref14_Follow_L24 k (p0) (p1) (p2) (p3) (p4) (p5) (p6) (Go.RowKit.wrap64 (p7 + (1 : Int))) (p8) (p9) (p10) (p11) (p12) (p13)
        else
          none
      else
        none
    else
      bif Decidable.decide (p13.length + [p3].length ≤ (1000000 : Nat)) then
        tendrilref14_Follow_L12 k (p0) (p1) (p2) (p4) (p8) (p9) (p10) (p11) (p12) (p13 ++ [p3])
      else
        none
end
def tendrilref14_Follow_K (K : Nat) (x : (Int × Int × Int × Int × Int) × List Int × Int × Int × Int) : Option (List Int × Int) :=
  (tendrilref03_Check ((x.fst.1, x.fst.snd.1, x.fst.snd.snd.1, x.fst.snd.snd.snd.1, x.fst.snd.snd.snd.2))).bind fun r0 =>
  bif r0 != (0 : Int) then
    some (([], (1 : Int)))
  else
    (tendrilref03_Size ((x.fst.1, x.fst.snd.1, x.fst.snd.snd.1, x.fst.snd.snd.snd.1, x.fst.snd.snd.snd.2))).bind fun r1 =>
    bif (↑(List.length x.snd.1) : Int) != r1 then
      some (([], (1 : Int)))
    else
      tendrilref14_Follow_L12 K (x.snd.1) (x.snd.snd.1) (x.snd.snd.snd.2) (x.snd.snd.snd.1) (x.fst.1) (x.fst.snd.1) (x.fst.snd.snd.1) (x.fst.snd.snd.snd.1) (x.fst.snd.snd.snd.2) ([])
def tendrilref14_Follow (x : (Int × (Int × (Int × (Int × Int)))) × (List Int) × Int × Int × Int) : Option ((List Int) × Int) := tendrilref14_Follow_K 2000000 x
def tendrilref14_Follow_S : Sig := ⟨[⟨true, (.pair .int (.pair .int (.pair .int (.pair .int .int))))⟩, ⟨false, (.sl .int)⟩, ⟨false, .int⟩, ⟨false, .int⟩, ⟨false, .int⟩], [⟨false, (.sl .int)⟩, ⟨false, .int⟩], true, tendrilref14_Follow⟩
/-! tendril/tendrillaw14.ChainLooks -/
def tendrillaw14_ChainLooks (x : (Int × Int × Int × Int × Int) × List Int × Int × Int × Int) : Option (Bool) :=
  (tendrillaw14_live (())).bind fun r0 =>
  bif !r0 then
    some (Bool.false)
  else
    (tendrillaw14_few (x.snd.1)).bind fun r1 =>
    bif !r1 then
      some (Bool.true)
    else
      (chain_Follow (((x.fst.1, x.fst.snd.1, x.fst.snd.snd.1, x.fst.snd.snd.snd.1, x.fst.snd.snd.snd.2), x.snd.1, x.snd.snd.1, x.snd.snd.snd.1, x.snd.snd.snd.2))).bind fun r2 =>
      (tendrilref14_Follow (((x.fst.1, x.fst.snd.1, x.fst.snd.snd.1, x.fst.snd.snd.snd.1, x.fst.snd.snd.snd.2), x.snd.1, x.snd.snd.1, x.snd.snd.snd.1, x.snd.snd.snd.2))).bind fun r3 =>
      (chain_Field (((x.fst.1, x.fst.snd.1, x.fst.snd.snd.1, x.fst.snd.snd.snd.1, x.fst.snd.snd.snd.2), x.snd.1, x.snd.snd.1, x.snd.snd.snd.1, x.snd.snd.snd.2))).bind fun r4 =>
      (tendrilref14_Field (((x.fst.1, x.fst.snd.1, x.fst.snd.snd.1, x.fst.snd.snd.snd.1, x.fst.snd.snd.snd.2), x.snd.1, x.snd.snd.1, x.snd.snd.snd.1, x.snd.snd.snd.2))).bind fun r5 =>
      (tendrilref02_Same ((r2.1, r3.1))).bind fun r6 =>
      bif r6 then
        bif r2.2 == r3.2 then
          bif r4.1 == r5.1 then
            some (r4.2 == r5.2)
          else
            some (Bool.false)
        else
          some (Bool.false)
      else
        some (Bool.false)
def tendrillaw14_ChainLooks_S : Sig := ⟨[⟨true, (.pair .int (.pair .int (.pair .int (.pair .int .int))))⟩, ⟨false, (.sl .int)⟩, ⟨false, .int⟩, ⟨false, .int⟩, ⟨false, .int⟩], [⟨false, .bool⟩], false, tendrillaw14_ChainLooks⟩
/-! tendril/tendrillaw14.ChainRing -/
def tendrillaw14_ChainRing_L26 : Nat → (List Int) → (Int) → (Int) → (Int) → (Int) → (Int) → (Int) → (Int) → (Int) → (Int) → (Int) → (List Int) → Option (Bool)
  | 0, _, _, _, _, _, _, _, _, _, _, _, _ => none
  | k + 1, p0, p1, p2, p3, p4, p5, p6, p7, p8, p9, p10, p11 =>
    bif Decidable.decide (p5 < p4) then
      bif Decidable.decide ((0 : Int) ≤ p5) then
        bif Decidable.decide (p5 < (↑p11.length : Int)) then
          (chain_Field (((p6, p7, p8, p9, p10), p0, p1, p11.getD p5.toNat (0 : Int), p3))).bind fun r4 =>
          bif r4.2 != (0 : Int) then
            some (Bool.false)
          else
            bif Decidable.decide (Go.RowKit.wrap64 (p5 + (1 : Int)) < (↑p11.length : Int)) then
              bif Decidable.decide ((0 : Int) ≤ Go.RowKit.wrap64 (p5 + (1 : Int))) then
                bif Decidable.decide (Go.RowKit.wrap64 (p5 + (1 : Int)) < (↑p11.length : Int)) then
                  bif r4.1 != p11.getD (Go.RowKit.wrap64 (p5 + (1 : Int))).toNat (0 : Int) then
                    some (Bool.false)
                  else
                    bif Go.RowKit.wrap64 (p5 + (1 : Int)) == (↑p11.length : Int) then
                      bif r4.1 != (0 : Int) then
                        some (Bool.false)
                      else
                        tendrillaw14_ChainRing_L26 k (p0) (p1) (p2) (p3) (p4) (Go.RowKit.wrap64 (p5 + (1 : Int))) (p6) (p7) (p8) (p9) (p10) (p11)
                    else
                      tendrillaw14_ChainRing_L26 k (p0) (p1) (p2) (p3) (p4) (Go.RowKit.wrap64 (p5 + (1 : Int))) (p6) (p7) (p8) (p9) (p10) (p11)
                else
                  none
              else
                none
            else
              bif Go.RowKit.wrap64 (p5 + (1 : Int)) == (↑p11.length : Int) then
                bif r4.1 != (0 : Int) then
                  some (Bool.false)
                else
                  tendrillaw14_ChainRing_L26 k (p0) (p1) (p2) (p3) (p4) (Go.RowKit.wrap64 (p5 + (1 : Int))) (p6) (p7) (p8) (p9) (p10) (p11)
              else
                tendrillaw14_ChainRing_L26 k (p0) (p1) (p2) (p3) (p4) (Go.RowKit.wrap64 (p5 + (1 : Int))) (p6) (p7) (p8) (p9) (p10) (p11)
        else
          none
      else
        none
    else
      bif (↑p11.length : Int) == (0 : Int) then
        some (Bool.true)
      else
        bif Decidable.decide ((0 : Int) ≤ Go.RowKit.wrap64 ((↑p11.length : Int) - (1 : Int))) then
          bif Decidable.decide (Go.RowKit.wrap64 ((↑p11.length : Int) - (1 : Int)) < (↑p11.length : Int)) then
            (chain_Put (((p6, p7, p8, p9, p10), p0, p1, p11.getD (Go.RowKit.wrap64 ((↑p11.length : Int) - (1 : Int))).toNat (0 : Int), p3, p2))).bind fun r5 =>
            (chain_Follow (((p6, p7, p8, p9, p10), r5.1, p1, p2, p3))).bind fun r6 =>
            bif r5.2 == (0 : Int) then
              some (r6.2 == (6 : Int))
            else
              some (Bool.false)
          else
            none
        else
          none
def tendrillaw14_ChainRing_K (K : Nat) (x : (Int × Int × Int × Int × Int) × List Int × Int × Int × Int) : Option (Bool) :=
  (tendrillaw14_live (())).bind fun r0 =>
  bif !r0 then
    some (Bool.false)
  else
    (tendrillaw14_few (x.snd.1)).bind fun r1 =>
    bif !r1 then
      some (Bool.true)
    else
      (chain_Follow (((x.fst.1, x.fst.snd.1, x.fst.snd.snd.1, x.fst.snd.snd.snd.1, x.fst.snd.snd.snd.2), x.snd.1, x.snd.snd.1, x.snd.snd.snd.1, x.snd.snd.snd.2))).bind fun r2 =>
      (tendrilref03_Cap (((x.fst.1, x.fst.snd.1, x.fst.snd.snd.1, x.fst.snd.snd.snd.1, x.fst.snd.snd.snd.2), x.snd.snd.1))).bind fun r3 =>
      bif r2.2 != (0 : Int) then
        some ((↑(List.length r2.1) : Int) == (0 : Int))
      else
        bif Decidable.decide (r3.1 < (↑(List.length r2.1) : Int)) then
          some (Bool.false)
        else
          bif !((↑(List.length r2.1) : Int) == (0 : Int)) == (x.snd.snd.snd.1 == (0 : Int)) then
            some (Bool.false)
          else
            bif Decidable.decide ((0 : Int) < (↑(List.length r2.1) : Int)) then
              bif Decidable.decide ((0 : Int) < (↑(List.length r2.1) : Int)) then
                bif List.getD r2.1 (Int.toNat (0 : Int)) (0 : Int) != x.snd.snd.snd.1 then
                  some (Bool.false)
                else
                  tendrillaw14_ChainRing_L26 K (x.snd.1) (x.snd.snd.1) (x.snd.snd.snd.1) (x.snd.snd.snd.2) ((↑(List.length r2.1) : Int)) ((0 : Int)) (x.fst.1) (x.fst.snd.1) (x.fst.snd.snd.1) (x.fst.snd.snd.snd.1) (x.fst.snd.snd.snd.2) (r2.1)
              else
                none
            else
              tendrillaw14_ChainRing_L26 K (x.snd.1) (x.snd.snd.1) (x.snd.snd.snd.1) (x.snd.snd.snd.2) ((↑(List.length r2.1) : Int)) ((0 : Int)) (x.fst.1) (x.fst.snd.1) (x.fst.snd.snd.1) (x.fst.snd.snd.snd.1) (x.fst.snd.snd.snd.2) (r2.1)
def tendrillaw14_ChainRing (x : (Int × (Int × (Int × (Int × Int)))) × (List Int) × Int × Int × Int) : Option (Bool) := tendrillaw14_ChainRing_K 2000000 x
def tendrillaw14_ChainRing_S : Sig := ⟨[⟨true, (.pair .int (.pair .int (.pair .int (.pair .int .int))))⟩, ⟨false, (.sl .int)⟩, ⟨false, .int⟩, ⟨false, .int⟩, ⟨false, .int⟩], [⟨false, .bool⟩], false, tendrillaw14_ChainRing⟩
/-! tendril/tendrillaw14.ChainPuts -/
def tendrillaw14_ChainPuts_L30 : Nat → (List Int) → (Int) → (Int) → (Int) → (Int) → (Int) → (Int) → (Int) → (Int) → (Int) → (Int) → (Int) → (Int) → (List Int) → Option (Bool)
  | 0, _, _, _, _, _, _, _, _, _, _, _, _, _, _ => none
  | k + 1, p0, p1, p2, p3, p4, p5, p6, p7, p8, p9, p10, p11, p12, p13 =>
    bif Decidable.decide (p7 < p6) then
      bif Decidable.decide ((0 : Int) ≤ p7) then
        bif Decidable.decide (p7 < (↑p0.length : Int)) then
          bif Decidable.decide ((0 : Int) ≤ p7) then
            bif Decidable.decide (p7 < (↑p13.length : Int)) then
              bif p0.getD p7.toNat (0 : Int) != p13.getD p7.toNat (0 : Int) then
                tendrillaw14_ChainPuts_L30 k (p0) (p1) (p2) (p3) (p4) (Go.RowKit.wrap64 (p5 + (1 : Int))) (p6) (Go.RowKit.wrap64 (p7 + (1 : Int))) (p8) (p9) (p10) (p11) (p12) (p13)
              else
                tendrillaw14_ChainPuts_L30 k (p0) (p1) (p2) (p3) (p4) (p5) (p6) (Go.RowKit.wrap64 (p7 + (1 : Int))) (p8) (p9) (p10) (p11) (p12) (p13)
            else
              none
          else
            none
        else
          none
      else
        none
    else
      (chain_Field (((p8, p9, p10, p11, p12), p0, p1, p2, p3))).bind fun r5 =>
      bif r5.2 == (0 : Int) then
        bif Decidable.decide (p5 ≤ (1 : Int)) then
          some ((p5 == (1 : Int)) == (r5.1 != p4))
        else
          some (Bool.false)
      else
        some (Bool.false)
def tendrillaw14_ChainPuts_K (K : Nat) (x : (Int × Int × Int × Int × Int) × List Int × Int × Int × Int × Int) : Option (Bool) :=
  (tendrillaw14_live (())).bind fun r0 =>
  bif !r0 then
    some (Bool.false)
  else
    (tendrillaw14_few (x.snd.1)).bind fun r1 =>
    bif !r1 then
      some (Bool.true)
    else
      (chain_Put (((x.fst.1, x.fst.snd.1, x.fst.snd.snd.1, x.fst.snd.snd.snd.1, x.fst.snd.snd.snd.2), x.snd.1, x.snd.snd.1, x.snd.snd.snd.1, x.snd.snd.snd.snd.1, x.snd.snd.snd.snd.2))).bind fun r2 =>
      bif r2.2 != (0 : Int) then
        (chain_Field (((x.fst.1, x.fst.snd.1, x.fst.snd.snd.1, x.fst.snd.snd.snd.1, x.fst.snd.snd.snd.2), x.snd.1, x.snd.snd.1, x.snd.snd.snd.1, x.snd.snd.snd.snd.1))).bind fun r3 =>
        bif r3.2 == r2.2 then
          some ((↑(List.length r2.1) : Int) == (0 : Int))
        else
          some (Bool.false)
      else
        (chain_Field (((x.fst.1, x.fst.snd.1, x.fst.snd.snd.1, x.fst.snd.snd.snd.1, x.fst.snd.snd.snd.2), r2.1, x.snd.snd.1, x.snd.snd.snd.1, x.snd.snd.snd.snd.1))).bind fun r4 =>
        bif r4.2 != (0 : Int) then
          some (Bool.false)
        else
          bif r4.1 != x.snd.snd.snd.snd.2 then
            some (Bool.false)
          else
            bif (↑(List.length r2.1) : Int) != (↑(List.length x.snd.1) : Int) then
              some (Bool.false)
            else
              tendrillaw14_ChainPuts_L30 K (x.snd.1) (x.snd.snd.1) (x.snd.snd.snd.1) (x.snd.snd.snd.snd.1) (x.snd.snd.snd.snd.2) ((0 : Int)) ((↑(List.length x.snd.1) : Int)) ((0 : Int)) (x.fst.1) (x.fst.snd.1) (x.fst.snd.snd.1) (x.fst.snd.snd.snd.1) (x.fst.snd.snd.snd.2) (r2.1)
def tendrillaw14_ChainPuts (x : (Int × (Int × (Int × (Int × Int)))) × (List Int) × Int × Int × Int × Int) : Option (Bool) := tendrillaw14_ChainPuts_K 2000000 x
def tendrillaw14_ChainPuts_S : Sig := ⟨[⟨true, (.pair .int (.pair .int (.pair .int (.pair .int .int))))⟩, ⟨false, (.sl .int)⟩, ⟨false, .int⟩, ⟨false, .int⟩, ⟨false, .int⟩, ⟨false, .int⟩], [⟨false, .bool⟩], false, tendrillaw14_ChainPuts⟩
/-! tendril/place.Node -/
def place_Node (x : (Int × Int × Int × Int × Int) × Int) : Option (Int × Int) :=
  (place_Check ((x.fst.1, x.fst.snd.1, x.fst.snd.snd.1, x.fst.snd.snd.snd.1, x.fst.snd.snd.snd.2))).bind fun r0 =>
  bif r0 != (0 : Int) then
    some (((0 : Int), (1 : Int)))
  else
    bif Decidable.decide (x.2 < (1 : Int)) then
      some (((0 : Int), (1 : Int)))
    else
      bif Decidable.decide (x.fst.snd.snd.snd.1 < x.2) then
        some (((0 : Int), (1 : Int)))
      else
        some ((Go.RowKit.wrap64 (x.2 + (1 : Int)), (0 : Int)))
def place_Node_S : Sig := ⟨[⟨true, (.pair .int (.pair .int (.pair .int (.pair .int .int))))⟩, ⟨false, .int⟩], [⟨false, .int⟩, ⟨false, .int⟩], false, place_Node⟩
/-! tendril/chain.Unlink -/
def chain_Unlink_L26 : Nat → (List Int) → (Int) → (Int) → (Int) → (Int) → (Int) → (Int) → (Int) → (Int) → (Int) → (Int) → (Int) → (Int) → (Int) → (List Int) → Option (List Int × Int)
  | 0, _, _, _, _, _, _, _, _, _, _, _, _, _, _, _ => none
  | k + 1, p0, p1, p2, p3, p4, p5, p6, p7, p8, p9, p10, p11, p12, p13, p14 =>
    bif Decidable.decide (p8 < p7) then
      bif Decidable.decide ((0 : Int) ≤ p8) then
        bif Decidable.decide (p8 < (↑p14.length : Int)) then
          bif p14.getD p8.toNat (0 : Int) != p3 then
            chain_Unlink_L26 k (p0) (p1) (p2) (p3) (p4) (p5) (p14.getD p8.toNat (0 : Int)) (p7) (Go.RowKit.wrap64 (p8 + (1 : Int))) (p9) (p10) (p11) (p12) (p13) (p14)
          else
            bif p6 == (0 : Int) then
              (mem_Store ((p0, p1, p5))).bind fun r3 =>
              some ((r3.1, r3.2))
            else
              (chain_Put (((p9, p10, p11, p12, p13), p0, p2, p6, p4, p5))).bind fun r4 =>
              some ((r4.1, r4.2))
        else
          none
      else
        none
    else
      some (([], (2 : Int)))
def chain_Unlink_K (K : Nat) (x : (Int × Int × Int × Int × Int) × List Int × Int × Int × Int × Int) : Option (List Int × Int) :=
  (chain_Field (((x.fst.1, x.fst.snd.1, x.fst.snd.snd.1, x.fst.snd.snd.snd.1, x.fst.snd.snd.snd.2), x.snd.1, x.snd.snd.snd.1, x.snd.snd.snd.snd.1, x.snd.snd.snd.snd.2))).bind fun r0 =>
  bif r0.2 != (0 : Int) then
    some (([], r0.2))
  else
    (mem_Load ((x.snd.1, x.snd.snd.1))).bind fun r1 =>
    bif r1.2 != (0 : Int) then
      some (([], r1.2))
    else
      (chain_Follow (((x.fst.1, x.fst.snd.1, x.fst.snd.snd.1, x.fst.snd.snd.snd.1, x.fst.snd.snd.snd.2), x.snd.1, x.snd.snd.snd.1, r1.1, x.snd.snd.snd.snd.2))).bind fun r2 =>
      bif r2.2 != (0 : Int) then
        some (([], r2.2))
      else
        chain_Unlink_L26 K (x.snd.1) (x.snd.snd.1) (x.snd.snd.snd.1) (x.snd.snd.snd.snd.1) (x.snd.snd.snd.snd.2) (r0.1) ((0 : Int)) ((↑(List.length r2.1) : Int)) ((0 : Int)) (x.fst.1) (x.fst.snd.1) (x.fst.snd.snd.1) (x.fst.snd.snd.snd.1) (x.fst.snd.snd.snd.2) (r2.1)
def chain_Unlink (x : (Int × (Int × (Int × (Int × Int)))) × (List Int) × Int × Int × Int × Int) : Option ((List Int) × Int) := chain_Unlink_K 2000000 x
def chain_Unlink_S : Sig := ⟨[⟨true, (.pair .int (.pair .int (.pair .int (.pair .int .int))))⟩, ⟨false, (.sl .int)⟩, ⟨false, .int⟩, ⟨false, .int⟩, ⟨false, .int⟩, ⟨false, .int⟩], [⟨false, (.sl .int)⟩, ⟨false, .int⟩], true, chain_Unlink⟩
/-! tendril/tendrillaw14.ChainBack -/
def tendrillaw14_ChainBack_L22 : Nat → (List Int) → (Int) → (Int) → (Int) → (Int) → (Int) → (Int) → (Int) → (Int) → (Int) → (Int) → (Int) → (List Int) → Option (Bool)
  | 0, _, _, _, _, _, _, _, _, _, _, _, _, _ => none
  | k + 1, p0, p1, p2, p3, p4, p5, p6, p7, p8, p9, p10, p11, p12 =>
    bif Decidable.decide (p6 < p5) then
      bif Decidable.decide ((0 : Int) ≤ p6) then
        bif Decidable.decide (p6 < (↑p12.length : Int)) then
          bif (Go.RowKit.wrap64 (p12.getD p6.toNat (0 : Int) - (1 : Int))).tmod (1024 : Int) == (Go.RowKit.wrap64 (p2 - (1 : Int))).tmod (1024 : Int) then
            some (Bool.true)
          else
            tendrillaw14_ChainBack_L22 k (p0) (p1) (p2) (p3) (p4) (p5) (Go.RowKit.wrap64 (p6 + (1 : Int))) (p7) (p8) (p9) (p10) (p11) (p12)
        else
          none
      else
        none
    else
      (chain_Push (((p7, p8, p9, p10, p11), p0, p4, p1, p2, p3))).bind fun r5 =>
      bif r5.2 != (0 : Int) then
        some (lenI (List.length r5.1) == (0 : Int))
      else
        bif lenI (List.length r5.1) != lenI p0.length then
          some (Bool.false)
        else
          bif Decidable.decide ((0 : Int) ≤ p4) then
            bif Decidable.decide (p4 < (↑(List.length r5.1) : Int)) then
              (chain_Follow (((p7, p8, p9, p10, p11), r5.1, p1, List.getD r5.1 p4.toNat (0 : Int), p3))).bind fun r6 =>
              bif r6.2 != (0 : Int) then
                some (Bool.false)
              else
                bif lenI (List.length r6.1) != Go.RowKit.wrap64 (lenI p12.length + (1 : Int)) then
                  some (Bool.false)
                else
                  bif Decidable.decide ((0 : Int) < (↑(List.length r6.1) : Int)) then
                    bif List.getD r6.1 (Int.toNat (0 : Int)) (0 : Int) != p2 then
                      some (Bool.false)
                    else
                      bif Decidable.decide ((1 : Int) ≤ (↑(List.length r6.1) : Int)) then
                        (tendrilref02_Same ((List.drop (Int.toNat (1 : Int)) (List.take (List.length r6.1) r6.1), p12))).bind fun r7 =>
                        bif !r7 then
                          some (Bool.false)
                        else
                          (chain_Unlink (((p7, p8, p9, p10, p11), r5.1, p4, p1, p2, p3))).bind fun r8 =>
                          bif r8.2 != (0 : Int) then
                            some (Bool.false)
                          else
                            bif lenI (List.length r8.1) != lenI p0.length then
                              some (Bool.false)
                            else
                              bif Decidable.decide ((0 : Int) ≤ p4) then
                                bif Decidable.decide (p4 < (↑(List.length r8.1) : Int)) then
                                  (chain_Follow (((p7, p8, p9, p10, p11), r8.1, p1, List.getD r8.1 p4.toNat (0 : Int), p3))).bind fun r9 =>
                                  bif r9.2 == (0 : Int) then
                                    (tendrilref02_Same ((r9.1, p12))).bind fun r10 =>
                                    some (r10)
                                  else
                                    some (Bool.false)
                                else
                                  none
                              else
                                none
                      else
                        none
                  else
                    none
            else
              none
          else
            none
def tendrillaw14_ChainBack_K (K : Nat) (x : (Int × Int × Int × Int × Int) × List Int × Int × Int × Int × Int) : Option (Bool) :=
  (tendrillaw14_live (())).bind fun r0 =>
  bif !r0 then
    some (Bool.false)
  else
    (place_Node (((x.fst.1, x.fst.snd.1, x.fst.snd.snd.1, x.fst.snd.snd.snd.1, x.fst.snd.snd.snd.2), x.snd.snd.1))).bind fun r1 =>
    (tendrillaw14_few (x.snd.1)).bind fun r2 =>
    bif !r2 then
      some (Bool.true)
    else
      bif r1.2 != (0 : Int) then
        some (Bool.true)
      else
        (place_Size ((x.fst.1, x.fst.snd.1, x.fst.snd.snd.1, x.fst.snd.snd.snd.1, x.fst.snd.snd.snd.2))).bind fun r3 =>
        bif lenI (List.length x.snd.1) != r3 then
          some (Bool.true)
        else
          bif Decidable.decide ((0 : Int) ≤ r1.1) then
            bif Decidable.decide (r1.1 < (↑(List.length x.snd.1) : Int)) then
              (chain_Follow (((x.fst.1, x.fst.snd.1, x.fst.snd.snd.1, x.fst.snd.snd.snd.1, x.fst.snd.snd.snd.2), x.snd.1, x.snd.snd.snd.1, List.getD x.snd.1 (Int.toNat r1.1) (0 : Int), x.snd.snd.snd.snd.2))).bind fun r4 =>
              bif r4.2 != (0 : Int) then
                some (Bool.true)
              else
                tendrillaw14_ChainBack_L22 K (x.snd.1) (x.snd.snd.snd.1) (x.snd.snd.snd.snd.1) (x.snd.snd.snd.snd.2) (r1.1) (lenI (List.length r4.1)) ((0 : Int)) (x.fst.1) (x.fst.snd.1) (x.fst.snd.snd.1) (x.fst.snd.snd.snd.1) (x.fst.snd.snd.snd.2) (r4.1)
            else
              none
          else
            none
def tendrillaw14_ChainBack (x : (Int × (Int × (Int × (Int × Int)))) × (List Int) × Int × Int × Int × Int) : Option (Bool) := tendrillaw14_ChainBack_K 2000000 x
def tendrillaw14_ChainBack_S : Sig := ⟨[⟨true, (.pair .int (.pair .int (.pair .int (.pair .int .int))))⟩, ⟨false, (.sl .int)⟩, ⟨false, .int⟩, ⟨false, .int⟩, ⟨false, .int⟩, ⟨false, .int⟩], [⟨false, .bool⟩], false, tendrillaw14_ChainBack⟩
/-! tendril/tendrillaw14.ChainOut -/
def tendrillaw14_ChainOut (x : (Int × Int × Int × Int × Int) × List Int × Int × Int × Int × Int) : Option (Bool) :=
  (tendrillaw14_live (())).bind fun r0 =>
  bif !r0 then
    some (Bool.false)
  else
    (place_Node (((x.fst.1, x.fst.snd.1, x.fst.snd.snd.1, x.fst.snd.snd.snd.1, x.fst.snd.snd.snd.2), x.snd.snd.1))).bind fun r1 =>
    (tendrillaw14_few (x.snd.1)).bind fun r2 =>
    bif !r2 then
      some (Bool.true)
    else
      bif r1.2 != (0 : Int) then
        some (Bool.true)
      else
        (place_Size ((x.fst.1, x.fst.snd.1, x.fst.snd.snd.1, x.fst.snd.snd.snd.1, x.fst.snd.snd.snd.2))).bind fun r3 =>
        bif (↑(List.length x.snd.1) : Int) != r3 then
          some (Bool.true)
        else
          bif Decidable.decide ((0 : Int) ≤ r1.1) then
            bif Decidable.decide (r1.1 < (↑(List.length x.snd.1) : Int)) then
              (chain_Follow (((x.fst.1, x.fst.snd.1, x.fst.snd.snd.1, x.fst.snd.snd.snd.1, x.fst.snd.snd.snd.2), x.snd.1, x.snd.snd.snd.1, List.getD x.snd.1 (Int.toNat r1.1) (0 : Int), x.snd.snd.snd.snd.2))).bind fun r4 =>
              bif r4.2 != (0 : Int) then
                some (Bool.true)
              else
                bif Decidable.decide (x.snd.snd.snd.snd.1 < (0 : Int)) then
                  some (Bool.true)
                else
                  bif Decidable.decide ((↑(List.length r4.1) : Int) ≤ x.snd.snd.snd.snd.1) then
                    some (Bool.true)
                  else
                    bif Decidable.decide ((0 : Int) ≤ x.snd.snd.snd.snd.1) then
                      bif Decidable.decide (x.snd.snd.snd.snd.1 < (↑(List.length r4.1) : Int)) then
                        (chain_Unlink (((x.fst.1, x.fst.snd.1, x.fst.snd.snd.1, x.fst.snd.snd.snd.1, x.fst.snd.snd.snd.2), x.snd.1, r1.1, x.snd.snd.snd.1, List.getD r4.1 (Int.toNat x.snd.snd.snd.snd.1) (0 : Int), x.snd.snd.snd.snd.2))).bind fun r5 =>
                        bif r5.2 != (0 : Int) then
                          some (Bool.false)
                        else
                          bif (↑(List.length r5.1) : Int) != (↑(List.length x.snd.1) : Int) then
                            some (Bool.false)
                          else
                            bif Decidable.decide ((0 : Int) ≤ r1.1) then
                              bif Decidable.decide (r1.1 < (↑(List.length r5.1) : Int)) then
                                (chain_Follow (((x.fst.1, x.fst.snd.1, x.fst.snd.snd.1, x.fst.snd.snd.snd.1, x.fst.snd.snd.snd.2), r5.1, x.snd.snd.snd.1, List.getD r5.1 (Int.toNat r1.1) (0 : Int), x.snd.snd.snd.snd.2))).bind fun r6 =>
                                bif Decidable.decide ((0 : Int) ≤ x.snd.snd.snd.snd.1) then
                                  bif Decidable.decide (x.snd.snd.snd.snd.1 < (↑(List.length r4.1) : Int)) then
                                    (chain_Unlink (((x.fst.1, x.fst.snd.1, x.fst.snd.snd.1, x.fst.snd.snd.snd.1, x.fst.snd.snd.snd.2), r5.1, r1.1, x.snd.snd.snd.1, List.getD r4.1 (Int.toNat x.snd.snd.snd.snd.1) (0 : Int), x.snd.snd.snd.snd.2))).bind fun r7 =>
                                    bif r6.2 == (0 : Int) then
                                      bif Decidable.decide ((↑(0 : Nat) : Int) ≤ x.snd.snd.snd.snd.1) then
                                        bif Decidable.decide (x.snd.snd.snd.snd.1 ≤ (↑(List.length r4.1) : Int)) then
                                          bif Decidable.decide ((0 : Nat) + (List.drop (0 : Nat) (List.take (Int.toNat x.snd.snd.snd.snd.1) r4.1)).length ≤ (1000000 : Nat)) then
                                            bif Decidable.decide ((↑(0 : Nat) : Int) ≤ Go.RowKit.wrap64 (x.snd.snd.snd.snd.1 + (1 : Int))) then
                                              bif Decidable.decide (Go.RowKit.wrap64 (x.snd.snd.snd.snd.1 + (1 : Int)) ≤ (↑(List.length r4.1) : Int)) then
                                                bif Decidable.decide ((List.drop (0 : Nat) (List.take (Int.toNat x.snd.snd.snd.snd.1) r4.1)).length + (List.drop (Go.RowKit.wrap64 (x.snd.snd.snd.snd.1 + (1 : Int))).toNat (List.take (List.length r4.1) r4.1)).length ≤ (1000000 : Nat)) then
                                                  (tendrilref02_Same ((r6.1, List.drop (0 : Nat) (List.take (Int.toNat x.snd.snd.snd.snd.1) r4.1) ++ List.drop (Go.RowKit.wrap64 (x.snd.snd.snd.snd.1 + (1 : Int))).toNat (List.take (List.length r4.1) r4.1)))).bind fun r8 =>
                                                  bif r8 then
                                                    some (r7.2 == (2 : Int))
                                                  else
                                                    some (Bool.false)
                                                else
                                                  none
                                              else
                                                none
                                            else
                                              none
                                          else
                                            none
                                        else
                                          none
                                      else
                                        none
                                    else
                                      some (Bool.false)
                                  else
                                    none
                                else
                                  none
                              else
                                none
                            else
                              none
                      else
                        none
                    else
                      none
            else
              none
          else
            none
def tendrillaw14_ChainOut_S : Sig := ⟨[⟨true, (.pair .int (.pair .int (.pair .int (.pair .int .int))))⟩, ⟨false, (.sl .int)⟩, ⟨false, .int⟩, ⟨false, .int⟩, ⟨false, .int⟩, ⟨false, .int⟩], [⟨false, .bool⟩], false, tendrillaw14_ChainOut⟩
end Go.Proofs.YthnbleblmpnfhaaFn
