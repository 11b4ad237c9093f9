/- 'chain.along$1', the iterator: what it hands to the loop's body, round by round; no condition. -/
import Derived.RangeFuncBox
import Derived.RangeFuncLeaves
import Derived.RangeFuncCalls
import Derived.Shelf.Abstract
import Derived.WalkKit
import Derived.OwnWalkIn
import Derived.TacticsInMore
import Derived.LoopNIn
import Derived.LoopIn
import Derived.Maps.OwnIn
import Derived.Maps.Views
import Derived.Maps.AppendAt
import Derived.Test.YthnbleblmpnfhaaZa
set_option linter.unusedVariables false
set_option linter.unusedSimpArgs false
namespace Go.Proofs.YthnbleblmpnfhaaFn
open Go Go.RowKit Go.Shelf Go.Proofs.YthnbleblmpnfhaaPx
attribute [local go_sem] Oper.semAt_some

abbrev Cfg := Int × Int × Int × Int × Int

/-- What following a chain comes to, round by round. -/
def chain_Follow_K : Nat → Cfg → List Int → Int → Int → Int → List Int → List Int → Option (List Int × Int)
  | 0, _, _, _, _, _, _, _ => none
  | k + 1, c, m, which, next, ref, met, out =>
    bif ref != (0 : Int) then
      (chain_Field (c, m, which, ref, next)).bind fun r2 =>
      (tag_Unpack ref).bind fun r3 =>
      bif decide ((Lit.int .i64 r3.1).wf = true) && decide (met.length < 1000000) then
        bif r2.2 != 0 then some ([], r2.2)
        else bif met.contains r3.1 then some ([], 6)
        else bif decide (out.length + 1 ≤ 1000000) then chain_Follow_K k c m which next r2.1 (r3.1 :: met) (out ++ [ref]) else none
      else none
    else some (out, 0)

theorem wpIn_loop_fuel {F : Fence} {n : Nat} {P : Program} {Q : Exit → Act → World → Prop} {c : Code} (I : Nat → Act → World → Prop) (h0 : ∀ a w, ¬ I 0 a w)
    (h : ∀ k a w, I (k + 1) a w → c.wpIn F n P (Exit.then (I k) Q) a w) (k : Nat) (a : Act) (w : World) (hk : I k a w) : (Code.loop c).wpIn F n P Q a w := by
  refine wpIn_loop_rounds k ?_
  have key : ∀ k a w, I k a w → Code.roundsIn F n P c Q k a w := by
    intro k
    induction k with
    | zero => intro a w hk; exact absurd hk (h0 a w)
    | succ k ih =>
      intro a w hk
      rw [roundsIn_succ]
      exact wpIn_mono (h k a w hk) fun e a w q => by cases e <;> first | exact ih _ _ q | exact q
  exact key k a w hk

/-- The blocks of K lie as they lay. -/
structure Keep (K : Nat → Prop) (w w' : World) : Prop where
  os : w'.os = w.os
  tape : w'.tape = w.tape
  output : w'.output = w.output
  size : w.heap.size ≤ w'.heap.size
  block : ∀ k, K k → k < w.heap.size → w'.heap[k]? = w.heap[k]?

theorem Keep.refl (K : Nat → Prop) (w : World) : Keep K w w := ⟨rfl, rfl, rfl, Nat.le_refl _, fun _ _ _ => rfl⟩
theorem Keep.trans {K : Nat → Prop} {a b c : World} (h : Keep K a b) (k : Keep K b c) : Keep K a c :=
  ⟨k.os.trans h.os, k.tape.trans h.tape, k.output.trans h.output, Nat.le_trans h.size k.size, fun i hi hl => (k.block i hi (Nat.lt_of_lt_of_le hl h.size)).trans (h.block i hi hl)⟩
theorem Keep.of_below {K : Nat → Prop} {w w' : World} (h : Below w.heap.size w w') : Keep K w w' := ⟨h.os, h.tape, h.output, h.size, fun k _ hk => h.block k hk⟩
theorem Keep.of_grown {K : Nat → Prop} {w w' : World} {b : Nat} (h : w.grownBy w' (some b)) (hb : ¬ K b) : Keep K w w' :=
  ⟨h.os, h.tape, h.output, h.size, fun k hK hk => h.block k hk (fun e => hb (by cases e; exact hK))⟩
theorem Keep.less {K K' : Nat → Prop} {w w' : World} (h : Keep K w w') (hK : ∀ k, K' k → K k) : Keep K' w w' := ⟨h.os, h.tape, h.output, h.size, fun k hk hl => h.block k (hK k hk) hl⟩
theorem Keep.alloc {K : Nat → Prop} (w : World) (o : Obj) : Keep K w (w.alloc o) := .of_below ((Below.refl _ w).alloc (Nat.le_refl _) o)

/-- The map of the slots that were met. -/
def Met (W : World) (bm : Nat) (met : List Int) : Prop :=
  ∃ D : DataW Unit, W.ownsMap Try.prog 3 (plainElem Try.prog 4) bm met.length D ∧ Maps.IsMap D ∧ ∀ k : Int, D.atKey (.int .i64 k) (.lit (.bool false)) = .lit (.bool (met.contains k))

theorem Met.kept {W W' : World} {bm : Nat} {met : List Int} {K : Nat → Prop} (h : Met W bm met) (hk : Keep K W W') (hK : K bm) : Met W' bm met := by
  obtain ⟨D, ⟨es, clock, hb, F, hs, hD⟩, h2⟩ := h
  have hlt := (Array.getElem?_eq_some_iff.1 hb).1
  exact ⟨D, ⟨es, clock, (hk.block bm hK hlt).trans hb, F, hs, hD⟩, h2⟩

theorem Met.look {W : World} {bm : Nat} {met : List Int} (h : Met W bm met) {k : Int} (hk : (Lit.int .i64 k).wf = true) :
    (Instr.lookup 56 (.map (some bm)) (.int .i64 k) false).run Try.prog W = .ok (.bool (met.contains k)) W := by
  obtain ⟨D, ho, _, hat⟩ := h
  obtain ⟨v, ps, hrun, hv⟩ := ho.lookup (Maps.int_keyed Try.underlying3) Try.underlying56 (Try.zeroValue4 W) (plainElem_bool Try.underlying4 false) (Maps.keyOf_int_mk Try.underlying3 hk)
  rw [hat] at hv
  have : v = .bool (met.contains k) := by
    unfold plainElem at hv
    rw [Try.underlying4] at hv
    cases v <;> simp at hv
    simp [hv.1]
  rw [hrun, this]

theorem wf_key {k : Int} : Go.WideAt.IsKeyLit (.int .i64 k) := by simp [Go.WideAt.IsKeyLit]

theorem Met.put {W' : World} {bm : Nat} {met : List Int} {k : Int} {D : DataW Unit} (h1 : Maps.IsMap D) (hat : ∀ k : Int, D.atKey (.int .i64 k) (.lit (.bool false)) = .lit (.bool (met.contains k)))
    (ho : W'.ownsMap Try.prog 3 (plainElem Try.prog 4) bm (met.length + 1) (D.put (.int .i64 k) (.lit (.bool true)))) : Met W' bm (k :: met) := by
  refine ⟨_, ho, h1.put _ _, fun j => ?_⟩
  by_cases hj : j = k
  · subst hj
    rw [Maps.atKey_put_same h1 wf_key]
    simp
  · rw [Maps.atKey_put_other (by simpa using hj), hat]
    simp [hj]

/-- What a call hands back that hands back numbers alone. -/
theorem res_two {S : Nat → Prop} {B : Nat} {w : World} {v : Value} {s : Sig} (r : Tup s.res) (hs : s.own = false) (a b : Int) (he : encTup s.res r = [.one (.int .i64 a), .one (.int .i64 b)]) (h : ResOk S B w (s.out 0 r) v) : v = .tuple #[.int .i64 a, .int .i64 b] := by
  have ho : s.out 0 r = ([.one (.int .i64 a), .one (.int .i64 b)], []) := by simp [Sig.out, hs, he]
  rw [ho] at h
  obtain ⟨ρ, _, _, _, vs, rfl, hd⟩ := h
  match vs, hd with
  | [x, y], ⟨h1, h2, _⟩ => rw [show x = _ from h1, show y = _ from h2]
  | [], hd => exact hd.elim
  | [_], hd => exact hd.2.elim
  | _ :: _ :: _ :: _, hd => exact hd.2.2.elim
theorem res_three {S : Nat → Prop} {B : Nat} {w : World} {v : Value} {s : Sig} (r : Tup s.res) (hs : s.own = false) (a b c : Int) (he : encTup s.res r = [.one (.int .i64 a), .one (.int .i64 b), .one (.int .i64 c)]) (h : ResOk S B w (s.out 0 r) v) : v = .tuple #[.int .i64 a, .int .i64 b, .int .i64 c] := by
  have ho : s.out 0 r = ([.one (.int .i64 a), .one (.int .i64 b), .one (.int .i64 c)], []) := by simp [Sig.out, hs, he]
  rw [ho] at h
  obtain ⟨ρ, _, _, _, vs, rfl, hd⟩ := h
  match vs, hd with
  | [x, y, z], ⟨h1, h2, h3, _⟩ => rw [show x = _ from h1, show y = _ from h2, show z = _ from h3]
  | [], hd => exact hd.elim
  | [_], hd => exact hd.2.elim
  | [_, _], hd => exact hd.2.2.elim
  | _ :: _ :: _ :: _ :: _, hd => exact hd.2.2.2.elim

abbrev cfgV (c : Cfg) : Value := .agg #[.int .i64 c.1, .int .i64 c.2.1, .int .i64 c.2.2.1, .int .i64 c.2.2.2.1, .int .i64 c.2.2.2.2]

theorem call_Field {w : World} {m : Value} {xs : List Int} (hm : RI (fun _ => True) w .int m xs) (c : Cfg) (which ref next : Int) {r : Int × Int} (h : chain_Field (c, xs, which, ref, next) = some r) :
    Calls Try.prog 12 #[cfgV c, m, .int .i64 which, .int .i64 ref, .int .i64 next] w fun e w' => e = .returned (.tuple #[.int .i64 r.1, .int .i64 r.2]) ∧ Below w.heap.size w w' := by
  refine (chain_Field_ok.1 (fun _ => True) w (c, xs, which, ref, next) r [cfgV c, m, .int .i64 which, .int .i64 ref, .int .i64 next] h (fun _ _ => trivial)
    ⟨⟨_, rfl, rfl, rfl, rfl, rfl, rfl, trivial⟩, hm, rfl, rfl, rfl, trivial⟩).mono ?_
  rintro e w' ⟨v, rfl, hb, hr⟩
  exact ⟨by rw [res_two (s := chain_Field_S) r rfl r.1 r.2 rfl (hr 0)], hb⟩

theorem call_Unpack {w : World} (ref : Int) {r : Int × Int × Int} (h : tag_Unpack ref = some r) :
    Calls Try.prog 35 #[.int .i64 ref] w fun e w' => e = .returned (.tuple #[.int .i64 r.1, .int .i64 r.2.1, .int .i64 r.2.2]) ∧ Below w.heap.size w w' := by
  refine (tag_Unpack_ok.1 (fun _ => True) w ref r [.int .i64 ref] h (fun _ _ => trivial) ⟨rfl, trivial⟩).mono ?_
  rintro e w' ⟨v, rfl, hb, hr⟩
  exact ⟨by rw [res_three (s := tag_Unpack_S) r rfl r.1 r.2.1 r.2.2 rfl (hr 0)], hb⟩
end Go.Proofs.YthnbleblmpnfhaaFn
