/-
  No cell of these rows narrows 'for every input' (looked for: loops, veiled, ifaces, maps, wideKeys, modest, calm, conditions, laid).
  DERIVED. THE GIVEN ROWS OF THIS SEAT. 6 by the template 'for every input the law returns true; each argument reads behind the call as it read before'; 0 by the template 'total and deterministic' (their statements: YtfnkomlakgiicacTotals.lean).
  GIVEN WITH THE SEED: the statements are not yours to turn. If you find one false, say at which input.
  Laid BY PROGRAM, IN A SANDBOX (cutbox-rows.mjs): the forced cells as the released guide's own fill.sh prints them over the translation 9d6fd479bda54a4f… (all of the seat's roots in one cut). By AI agents, Wed Nov 11 2026. No macro, syntax, notation, axiom, sorry.
-/
import Derived.Test.YtfnkomlakgiicacChecked
import GoSem.Claim
import GoSem.ClaimJoined
import GoSem.ClaimMapViews
import Derived.JoinedTies
import Derived.KernelRfl
namespace Go.Proofs.Ytfnkomlakgiicac
/- THE CELL 'sum', in the pinned program and in every row, IS THE sha256 OF THE DUMP (.gsa) THAT YtfnkomlakgiicacProg.lean LOADS. Nothing in Lean hashes anything: it is a label: what it is worth is what the hold of that sum in a sandbox is worth. -/
noncomputable def Try.pinned : Pinned := { name := "ytfnkomlakgiicac", sum := "9d6fd479bda54a4fcdb5c0b9ce3f80c800c3aabd4586091ccf5a99a1d25f58f9", checked := Try.checked }
namespace Rows
def none {H : Type} : Left H := { results := [], args := [] }

/-- 'tendrillaw02.MemSwaps': WHATEVER THE INPUT: true; the input reads as it did. -/
def memSwapsSpec : ChangeSpec := { name := "memSwaps", fn := fun _ => fun
  | [d1, d2, d3, d4] => { results := [.lit (.bool true)], args := [d1, d2, d3, d4] }
  | _ => none }
def memSwapsRow : OpenClaim := { program := "ytfnkomlakgiicac", sum := "9d6fd479bda54a4fcdb5c0b9ce3f80c800c3aabd4586091ccf5a99a1d25f58f9", func := "tendril/tendrillaw02.MemSwaps", spec := "memSwaps", apart := false }
def MemSwapsSaid : Prop := memSwapsRow.holds Try.pinned (OpenSpec.ofChange memSwapsSpec)

/-- ITS FALSE NEIGHBOUR: 'it returns false'. Refute it at one input. -/
def memSwapsWrong : ChangeSpec := { name := "memSwaps", fn := fun _ => fun
  | [d1, d2, d3, d4] => { results := [.lit (.bool false)], args := [d1, d2, d3, d4] }
  | _ => none }
def MemSwapsWrongFalsely : Prop := memSwapsRow.holds Try.pinned (OpenSpec.ofChange memSwapsWrong)

/-- 'tendrillaw02.MemBack': WHATEVER THE INPUT: true; the input reads as it did. -/
def memBackSpec : ChangeSpec := { name := "memBack", fn := fun _ => fun
  | [d1, d2, d3, d4] => { results := [.lit (.bool true)], args := [d1, d2, d3, d4] }
  | _ => none }
def memBackRow : OpenClaim := { program := "ytfnkomlakgiicac", sum := "9d6fd479bda54a4fcdb5c0b9ce3f80c800c3aabd4586091ccf5a99a1d25f58f9", func := "tendril/tendrillaw02.MemBack", spec := "memBack", apart := false }
def MemBackSaid : Prop := memBackRow.holds Try.pinned (OpenSpec.ofChange memBackSpec)

/-- ITS FALSE NEIGHBOUR: 'it returns false'. Refute it at one input. -/
def memBackWrong : ChangeSpec := { name := "memBack", fn := fun _ => fun
  | [d1, d2, d3, d4] => { results := [.lit (.bool false)], args := [d1, d2, d3, d4] }
  | _ => none }
def MemBackWrongFalsely : Prop := memBackRow.holds Try.pinned (OpenSpec.ofChange memBackWrong)

/-- 'tendrillaw02.MemOnce': WHATEVER THE INPUT: true; the input reads as it did. -/
def memOnceSpec : ChangeSpec := { name := "memOnce", fn := fun _ => fun
  | [d1, d2, d3, d4] => { results := [.lit (.bool true)], args := [d1, d2, d3, d4] }
  | _ => none }
def memOnceRow : OpenClaim := { program := "ytfnkomlakgiicac", sum := "9d6fd479bda54a4fcdb5c0b9ce3f80c800c3aabd4586091ccf5a99a1d25f58f9", func := "tendril/tendrillaw02.MemOnce", spec := "memOnce", apart := false }
def MemOnceSaid : Prop := memOnceRow.holds Try.pinned (OpenSpec.ofChange memOnceSpec)

/-- ITS FALSE NEIGHBOUR: 'it returns false'. Refute it at one input. -/
def memOnceWrong : ChangeSpec := { name := "memOnce", fn := fun _ => fun
  | [d1, d2, d3, d4] => { results := [.lit (.bool false)], args := [d1, d2, d3, d4] }
  | _ => none }
def MemOnceWrongFalsely : Prop := memOnceRow.holds Try.pinned (OpenSpec.ofChange memOnceWrong)

/-- 'tendrillaw02.MemSame': WHATEVER THE INPUT: true; the input reads as it did. -/
def memSameSpec : ChangeSpec := { name := "memSame", fn := fun _ => fun
  | [d1, d2, d3, d4] => { results := [.lit (.bool true)], args := [d1, d2, d3, d4] }
  | _ => none }
def memSameRow : OpenClaim := { program := "ytfnkomlakgiicac", sum := "9d6fd479bda54a4fcdb5c0b9ce3f80c800c3aabd4586091ccf5a99a1d25f58f9", func := "tendril/tendrillaw02.MemSame", spec := "memSame", apart := false }
def MemSameSaid : Prop := memSameRow.holds Try.pinned (OpenSpec.ofChange memSameSpec)

/-- ITS FALSE NEIGHBOUR: 'it returns false'. Refute it at one input. -/
def memSameWrong : ChangeSpec := { name := "memSame", fn := fun _ => fun
  | [d1, d2, d3, d4] => { results := [.lit (.bool false)], args := [d1, d2, d3, d4] }
  | _ => none }
def MemSameWrongFalsely : Prop := memSameRow.holds Try.pinned (OpenSpec.ofChange memSameWrong)

/-- 'tendrillaw02.MemDoes': WHATEVER THE INPUT: true; the input reads as it did. -/
def memDoesSpec : ChangeSpec := { name := "memDoes", fn := fun _ => fun
  | [d1, d2, d3, d4] => { results := [.lit (.bool true)], args := [d1, d2, d3, d4] }
  | _ => none }
def memDoesRow : OpenClaim := { program := "ytfnkomlakgiicac", sum := "9d6fd479bda54a4fcdb5c0b9ce3f80c800c3aabd4586091ccf5a99a1d25f58f9", func := "tendril/tendrillaw02.MemDoes", spec := "memDoes", apart := false }
def MemDoesSaid : Prop := memDoesRow.holds Try.pinned (OpenSpec.ofChange memDoesSpec)

/-- ITS FALSE NEIGHBOUR: 'it returns false'. Refute it at one input. -/
def memDoesWrong : ChangeSpec := { name := "memDoes", fn := fun _ => fun
  | [d1, d2, d3, d4] => { results := [.lit (.bool false)], args := [d1, d2, d3, d4] }
  | _ => none }
def MemDoesWrongFalsely : Prop := memDoesRow.holds Try.pinned (OpenSpec.ofChange memDoesWrong)

/-- 'tendrillaw02.MemNew': WHATEVER THE INPUT: true; the input reads as it did. -/
def memNewSpec : ChangeSpec := { name := "memNew", fn := fun _ => fun
  | [d1, d2] => { results := [.lit (.bool true)], args := [d1, d2] }
  | _ => none }
def memNewRow : OpenClaim := { program := "ytfnkomlakgiicac", sum := "9d6fd479bda54a4fcdb5c0b9ce3f80c800c3aabd4586091ccf5a99a1d25f58f9", func := "tendril/tendrillaw02.MemNew", spec := "memNew", apart := false }
def MemNewSaid : Prop := memNewRow.holds Try.pinned (OpenSpec.ofChange memNewSpec)

/-- ITS FALSE NEIGHBOUR: 'it returns false'. Refute it at one input. -/
def memNewWrong : ChangeSpec := { name := "memNew", fn := fun _ => fun
  | [d1, d2] => { results := [.lit (.bool false)], args := [d1, d2] }
  | _ => none }
def MemNewWrongFalsely : Prop := memNewRow.holds Try.pinned (OpenSpec.ofChange memNewWrong)

/- THE SECOND FORM. 'bulk': how many values and letters a reading holds, each counted each time it is reached (what is shared counts as often as it is met; a slice's spare places count too). A statement '..UptoSaid' is the law's where the arguments, and the package variables that the reading takes, are together of bulk at most 1048576: NARROWER than '..Said'. Prove '..Said' where nothing that the law and all that it calls make is longer than what came in: it says more and counts as full. Else prove '..UptoSaid'. A law counts once. -/
mutual
def uptoBulk {H : Type} : DataW H → Nat
  | .lit (.string bytes) => bytes.length + 1
  | .lit _ => 1
  | .nil => 1
  | .ptr d => uptoBulk d + 1
  | .slice elems spare => uptoBulkAll elems + uptoBulkAll spare + 1
  | .agg parts => uptoBulkAll parts + 1
  | .iface _ d => uptoBulk d + 1
  | .map entries => uptoBulkEntries entries + 1
  | .held _ => 1
def uptoBulkAll {H : Type} : List (DataW H) → Nat
  | [] => 0
  | d :: r => uptoBulk d + uptoBulkAll r
def uptoBulkEntries {H : Type} : List (Lit × DataW H) → Nat
  | [] => 0
  | x :: r => uptoBulkEntry x + uptoBulkEntries r
def uptoBulkEntry {H : Type} : Lit × DataW H → Nat
  | (.string bytes, d) => bytes.length + uptoBulk d + 1
  | (_, d) => uptoBulk d + 1
 end
def uptoSmall : (H : Type) → List (DataW H) → Bool := fun _ ds => decide (uptoBulkAll ds ≤ 1048576)
def OpenSpec.upto (s : _root_.Go.ChangeSpec) : _root_.Go.OpenSpec := { _root_.Go.OpenSpec.ofChange s with cond := some uptoSmall }

/-- 'tendrillaw02.MemSwaps', WHERE WHAT IT READS IS OF BULK AT MOST 1048576: true; the input reads as it did. -/
def memSwapsUptoRow : OpenClaim := { program := "ytfnkomlakgiicac", sum := "9d6fd479bda54a4fcdb5c0b9ce3f80c800c3aabd4586091ccf5a99a1d25f58f9", func := "tendril/tendrillaw02.MemSwaps", spec := "memSwaps", apart := false, narrowed := true }
def MemSwapsUptoSaid : Prop := memSwapsUptoRow.holds Try.pinned (OpenSpec.upto memSwapsSpec)

/-- 'tendrillaw02.MemBack', WHERE WHAT IT READS IS OF BULK AT MOST 1048576: true; the input reads as it did. -/
def memBackUptoRow : OpenClaim := { program := "ytfnkomlakgiicac", sum := "9d6fd479bda54a4fcdb5c0b9ce3f80c800c3aabd4586091ccf5a99a1d25f58f9", func := "tendril/tendrillaw02.MemBack", spec := "memBack", apart := false, narrowed := true }
def MemBackUptoSaid : Prop := memBackUptoRow.holds Try.pinned (OpenSpec.upto memBackSpec)

/-- 'tendrillaw02.MemOnce', WHERE WHAT IT READS IS OF BULK AT MOST 1048576: true; the input reads as it did. -/
def memOnceUptoRow : OpenClaim := { program := "ytfnkomlakgiicac", sum := "9d6fd479bda54a4fcdb5c0b9ce3f80c800c3aabd4586091ccf5a99a1d25f58f9", func := "tendril/tendrillaw02.MemOnce", spec := "memOnce", apart := false, narrowed := true }
def MemOnceUptoSaid : Prop := memOnceUptoRow.holds Try.pinned (OpenSpec.upto memOnceSpec)

/-- 'tendrillaw02.MemSame', WHERE WHAT IT READS IS OF BULK AT MOST 1048576: true; the input reads as it did. -/
def memSameUptoRow : OpenClaim := { program := "ytfnkomlakgiicac", sum := "9d6fd479bda54a4fcdb5c0b9ce3f80c800c3aabd4586091ccf5a99a1d25f58f9", func := "tendril/tendrillaw02.MemSame", spec := "memSame", apart := false, narrowed := true }
def MemSameUptoSaid : Prop := memSameUptoRow.holds Try.pinned (OpenSpec.upto memSameSpec)

/-- 'tendrillaw02.MemDoes', WHERE WHAT IT READS IS OF BULK AT MOST 1048576: true; the input reads as it did. -/
def memDoesUptoRow : OpenClaim := { program := "ytfnkomlakgiicac", sum := "9d6fd479bda54a4fcdb5c0b9ce3f80c800c3aabd4586091ccf5a99a1d25f58f9", func := "tendril/tendrillaw02.MemDoes", spec := "memDoes", apart := false, narrowed := true }
def MemDoesUptoSaid : Prop := memDoesUptoRow.holds Try.pinned (OpenSpec.upto memDoesSpec)

/-- 'tendrillaw02.MemNew', WHERE WHAT IT READS IS OF BULK AT MOST 1048576: true; the input reads as it did. -/
def memNewUptoRow : OpenClaim := { program := "ytfnkomlakgiicac", sum := "9d6fd479bda54a4fcdb5c0b9ce3f80c800c3aabd4586091ccf5a99a1d25f58f9", func := "tendril/tendrillaw02.MemNew", spec := "memNew", apart := false, narrowed := true }
def MemNewUptoSaid : Prop := memNewUptoRow.holds Try.pinned (OpenSpec.upto memNewSpec)

end Rows
end Go.Proofs.Ytfnkomlakgiicac
