/-
  No cell of these rows narrows 'for every input' (looked for: loops, veiled, ifaces, maps, wideKeys, modest, calm, conditions, laid).
  DERIVED. THE GIVEN ROWS OF THIS SEAT. 6 by the template 'for every input the law returns true; each argument reads behind the call as it read before'; 0 by the template 'total and deterministic' (their statements: YtfnkomlakgiicaaTotals.lean).
  GIVEN WITH THE SEED: the statements are not yours to turn. If you find one false, say at which input.
  Laid BY PROGRAM, IN A SANDBOX (cutbox-rows.mjs): the forced cells as the released guide's own fill.sh prints them over the translation 3b52ea9b80ca014a… (all of the seat's roots in one cut). By AI agents, Wed Nov 11 2026. No macro, syntax, notation, axiom, sorry.
-/
import Derived.Test.YtfnkomlakgiicaaChecked
import GoSem.Claim
import GoSem.ClaimJoined
import GoSem.ClaimMapViews
import Derived.JoinedTies
import Derived.KernelRfl
namespace Go.Proofs.Ytfnkomlakgiicaa
/- THE CELL 'sum', in the pinned program and in every row, IS THE sha256 OF THE DUMP (.gsa) THAT YtfnkomlakgiicaaProg.lean LOADS. Nothing in Lean hashes anything: it is a label: what it is worth is what the hold of that sum in a sandbox is worth. -/
noncomputable def Try.pinned : Pinned := { name := "ytfnkomlakgiicaa", sum := "3b52ea9b80ca014aef6834251353fd691576145745ecc9a4ba31ce28be82fbe8", checked := Try.checked }
namespace Rows
def none {H : Type} : Left H := { results := [], args := [] }

/-- 'tendrillaw01.TagPacks': WHATEVER THE INPUT: true; the input reads as it did. -/
def tagPacksSpec : ChangeSpec := { name := "tagPacks", fn := fun _ => fun
  | [d1, d2] => { results := [.lit (.bool true)], args := [d1, d2] }
  | _ => none }
def tagPacksRow : OpenClaim := { program := "ytfnkomlakgiicaa", sum := "3b52ea9b80ca014aef6834251353fd691576145745ecc9a4ba31ce28be82fbe8", func := "tendril/tendrillaw01.TagPacks", spec := "tagPacks", apart := false }
def TagPacksSaid : Prop := tagPacksRow.holds Try.pinned (OpenSpec.ofChange tagPacksSpec)

/-- ITS FALSE NEIGHBOUR: 'it returns false'. Refute it at one input. -/
def tagPacksWrong : ChangeSpec := { name := "tagPacks", fn := fun _ => fun
  | [d1, d2] => { results := [.lit (.bool false)], args := [d1, d2] }
  | _ => none }
def TagPacksWrongFalsely : Prop := tagPacksRow.holds Try.pinned (OpenSpec.ofChange tagPacksWrong)

/-- 'tendrillaw01.TagApart': WHATEVER THE INPUT: true; the input reads as it did. -/
def tagApartSpec : ChangeSpec := { name := "tagApart", fn := fun _ => fun
  | [d1, d2, d3, d4] => { results := [.lit (.bool true)], args := [d1, d2, d3, d4] }
  | _ => none }
def tagApartRow : OpenClaim := { program := "ytfnkomlakgiicaa", sum := "3b52ea9b80ca014aef6834251353fd691576145745ecc9a4ba31ce28be82fbe8", func := "tendril/tendrillaw01.TagApart", spec := "tagApart", apart := false }
def TagApartSaid : Prop := tagApartRow.holds Try.pinned (OpenSpec.ofChange tagApartSpec)

/-- ITS FALSE NEIGHBOUR: 'it returns false'. Refute it at one input. -/
def tagApartWrong : ChangeSpec := { name := "tagApart", fn := fun _ => fun
  | [d1, d2, d3, d4] => { results := [.lit (.bool false)], args := [d1, d2, d3, d4] }
  | _ => none }
def TagApartWrongFalsely : Prop := tagApartRow.holds Try.pinned (OpenSpec.ofChange tagApartWrong)

/-- 'tendrillaw01.TagBack': WHATEVER THE INPUT: true; the input reads as it did. -/
def tagBackSpec : ChangeSpec := { name := "tagBack", fn := fun _ => fun
  | [d1, d2, d3] => { results := [.lit (.bool true)], args := [d1, d2, d3] }
  | _ => none }
def tagBackRow : OpenClaim := { program := "ytfnkomlakgiicaa", sum := "3b52ea9b80ca014aef6834251353fd691576145745ecc9a4ba31ce28be82fbe8", func := "tendril/tendrillaw01.TagBack", spec := "tagBack", apart := false }
def TagBackSaid : Prop := tagBackRow.holds Try.pinned (OpenSpec.ofChange tagBackSpec)

/-- ITS FALSE NEIGHBOUR: 'it returns false'. Refute it at one input. -/
def tagBackWrong : ChangeSpec := { name := "tagBack", fn := fun _ => fun
  | [d1, d2, d3] => { results := [.lit (.bool false)], args := [d1, d2, d3] }
  | _ => none }
def TagBackWrongFalsely : Prop := tagBackRow.holds Try.pinned (OpenSpec.ofChange tagBackWrong)

/-- 'tendrillaw01.TagRange': WHATEVER THE INPUT: true; the input reads as it did. -/
def tagRangeSpec : ChangeSpec := { name := "tagRange", fn := fun _ => fun
  | [d] => { results := [.lit (.bool true)], args := [d] }
  | _ => none }
def tagRangeRow : OpenClaim := { program := "ytfnkomlakgiicaa", sum := "3b52ea9b80ca014aef6834251353fd691576145745ecc9a4ba31ce28be82fbe8", func := "tendril/tendrillaw01.TagRange", spec := "tagRange", apart := false }
def TagRangeSaid : Prop := tagRangeRow.holds Try.pinned (OpenSpec.ofChange tagRangeSpec)

/-- ITS FALSE NEIGHBOUR: 'it returns false'. Refute it at one input. -/
def tagRangeWrong : ChangeSpec := { name := "tagRange", fn := fun _ => fun
  | [d] => { results := [.lit (.bool false)], args := [d] }
  | _ => none }
def TagRangeWrongFalsely : Prop := tagRangeRow.holds Try.pinned (OpenSpec.ofChange tagRangeWrong)

/-- 'tendrillaw01.TagUnpacks': WHATEVER THE INPUT: true; the input reads as it did. -/
def tagUnpacksSpec : ChangeSpec := { name := "tagUnpacks", fn := fun _ => fun
  | [d] => { results := [.lit (.bool true)], args := [d] }
  | _ => none }
def tagUnpacksRow : OpenClaim := { program := "ytfnkomlakgiicaa", sum := "3b52ea9b80ca014aef6834251353fd691576145745ecc9a4ba31ce28be82fbe8", func := "tendril/tendrillaw01.TagUnpacks", spec := "tagUnpacks", apart := false }
def TagUnpacksSaid : Prop := tagUnpacksRow.holds Try.pinned (OpenSpec.ofChange tagUnpacksSpec)

/-- ITS FALSE NEIGHBOUR: 'it returns false'. Refute it at one input. -/
def tagUnpacksWrong : ChangeSpec := { name := "tagUnpacks", fn := fun _ => fun
  | [d] => { results := [.lit (.bool false)], args := [d] }
  | _ => none }
def TagUnpacksWrongFalsely : Prop := tagUnpacksRow.holds Try.pinned (OpenSpec.ofChange tagUnpacksWrong)

/-- 'tendrillaw01.TagNext': WHATEVER THE INPUT: true; the input reads as it did. -/
def tagNextSpec : ChangeSpec := { name := "tagNext", fn := fun _ => fun
  | [d] => { results := [.lit (.bool true)], args := [d] }
  | _ => none }
def tagNextRow : OpenClaim := { program := "ytfnkomlakgiicaa", sum := "3b52ea9b80ca014aef6834251353fd691576145745ecc9a4ba31ce28be82fbe8", func := "tendril/tendrillaw01.TagNext", spec := "tagNext", apart := false }
def TagNextSaid : Prop := tagNextRow.holds Try.pinned (OpenSpec.ofChange tagNextSpec)

/-- ITS FALSE NEIGHBOUR: 'it returns false'. Refute it at one input. -/
def tagNextWrong : ChangeSpec := { name := "tagNext", fn := fun _ => fun
  | [d] => { results := [.lit (.bool false)], args := [d] }
  | _ => none }
def TagNextWrongFalsely : Prop := tagNextRow.holds Try.pinned (OpenSpec.ofChange tagNextWrong)

/- THE SECOND FORM. 'bulk': how many values and letters a reading holds, each counted each time it is reached (what is shared counts as often as it is met; a slice's spare places count too). A statement '..UptoSaid' is the law's where the arguments, and the package variables that the reading takes, are together of bulk at most 1048576: NARROWER than '..Said'. Prove '..Said' where nothing that the law and all that it calls make is longer than what came in: it says more and counts as full. Else prove '..UptoSaid'. A law counts once. -/
mutual
def uptoBulk {H : Type} : DataW H → Nat
  | .lit (.string bytes) => bytes.length + 1
  | .lit _ => 1
  | .nil => 1
  | .ptr d => uptoBulk d + 1
  | .slice elems spare => uptoBulkAll elems + uptoBulkAll spare + 1
  | .agg parts => uptoBulkAll parts + 1
  | .iface _ d => uptoBulk d + 1
  | .map entries => uptoBulkEntries entries + 1
  | .held _ => 1
def uptoBulkAll {H : Type} : List (DataW H) → Nat
  | [] => 0
  | d :: r => uptoBulk d + uptoBulkAll r
def uptoBulkEntries {H : Type} : List (Lit × DataW H) → Nat
  | [] => 0
  | x :: r => uptoBulkEntry x + uptoBulkEntries r
def uptoBulkEntry {H : Type} : Lit × DataW H → Nat
  | (.string bytes, d) => bytes.length + uptoBulk d + 1
  | (_, d) => uptoBulk d + 1
 end
def uptoSmall : (H : Type) → List (DataW H) → Bool := fun _ ds => decide (uptoBulkAll ds ≤ 1048576)
def OpenSpec.upto (s : _root_.Go.ChangeSpec) : _root_.Go.OpenSpec := { _root_.Go.OpenSpec.ofChange s with cond := some uptoSmall }

/-- 'tendrillaw01.TagPacks', WHERE WHAT IT READS IS OF BULK AT MOST 1048576: true; the input reads as it did. -/
def tagPacksUptoRow : OpenClaim := { program := "ytfnkomlakgiicaa", sum := "3b52ea9b80ca014aef6834251353fd691576145745ecc9a4ba31ce28be82fbe8", func := "tendril/tendrillaw01.TagPacks", spec := "tagPacks", apart := false, narrowed := true }
def TagPacksUptoSaid : Prop := tagPacksUptoRow.holds Try.pinned (OpenSpec.upto tagPacksSpec)

/-- 'tendrillaw01.TagApart', WHERE WHAT IT READS IS OF BULK AT MOST 1048576: true; the input reads as it did. -/
def tagApartUptoRow : OpenClaim := { program := "ytfnkomlakgiicaa", sum := "3b52ea9b80ca014aef6834251353fd691576145745ecc9a4ba31ce28be82fbe8", func := "tendril/tendrillaw01.TagApart", spec := "tagApart", apart := false, narrowed := true }
def TagApartUptoSaid : Prop := tagApartUptoRow.holds Try.pinned (OpenSpec.upto tagApartSpec)

/-- 'tendrillaw01.TagBack', WHERE WHAT IT READS IS OF BULK AT MOST 1048576: true; the input reads as it did. -/
def tagBackUptoRow : OpenClaim := { program := "ytfnkomlakgiicaa", sum := "3b52ea9b80ca014aef6834251353fd691576145745ecc9a4ba31ce28be82fbe8", func := "tendril/tendrillaw01.TagBack", spec := "tagBack", apart := false, narrowed := true }
def TagBackUptoSaid : Prop := tagBackUptoRow.holds Try.pinned (OpenSpec.upto tagBackSpec)

/-- 'tendrillaw01.TagRange', WHERE WHAT IT READS IS OF BULK AT MOST 1048576: true; the input reads as it did. -/
def tagRangeUptoRow : OpenClaim := { program := "ytfnkomlakgiicaa", sum := "3b52ea9b80ca014aef6834251353fd691576145745ecc9a4ba31ce28be82fbe8", func := "tendril/tendrillaw01.TagRange", spec := "tagRange", apart := false, narrowed := true }
def TagRangeUptoSaid : Prop := tagRangeUptoRow.holds Try.pinned (OpenSpec.upto tagRangeSpec)

/-- 'tendrillaw01.TagUnpacks', WHERE WHAT IT READS IS OF BULK AT MOST 1048576: true; the input reads as it did. -/
def tagUnpacksUptoRow : OpenClaim := { program := "ytfnkomlakgiicaa", sum := "3b52ea9b80ca014aef6834251353fd691576145745ecc9a4ba31ce28be82fbe8", func := "tendril/tendrillaw01.TagUnpacks", spec := "tagUnpacks", apart := false, narrowed := true }
def TagUnpacksUptoSaid : Prop := tagUnpacksUptoRow.holds Try.pinned (OpenSpec.upto tagUnpacksSpec)

/-- 'tendrillaw01.TagNext', WHERE WHAT IT READS IS OF BULK AT MOST 1048576: true; the input reads as it did. -/
def tagNextUptoRow : OpenClaim := { program := "ytfnkomlakgiicaa", sum := "3b52ea9b80ca014aef6834251353fd691576145745ecc9a4ba31ce28be82fbe8", func := "tendril/tendrillaw01.TagNext", spec := "tagNext", apart := false, narrowed := true }
def TagNextUptoSaid : Prop := tagNextUptoRow.holds Try.pinned (OpenSpec.upto tagNextSpec)

end Rows
end Go.Proofs.Ytfnkomlakgiicaa
