/-
  No cell of these rows narrows 'for every input' (looked for: loops, veiled, ifaces, maps, wideKeys, modest, calm, conditions, laid).
  DERIVED. THE GIVEN ROWS OF THIS SEAT. 6 by the template 'for every input the law returns true; each argument reads behind the call as it read before'; 0 by the template 'total and deterministic' (their statements: YtfnkomlakgiicadTotals.lean).
  GIVEN WITH THE SEED: the statements are not yours to turn. If you find one false, say at which input.
  Laid BY PROGRAM, IN A SANDBOX (cutbox-rows.mjs): the forced cells as the released guide's own fill.sh prints them over the translation 34e4d792d4818866… (all of the seat's roots in one cut). By AI agents, Wed Nov 11 2026. No macro, syntax, notation, axiom, sorry.
-/
import Derived.Test.YtfnkomlakgiicadChecked
import GoSem.Claim
import GoSem.ClaimJoined
import GoSem.ClaimMapViews
import Derived.JoinedTies
import Derived.KernelRfl
namespace Go.Proofs.Ytfnkomlakgiicad
/- THE CELL 'sum', in the pinned program and in every row, IS THE sha256 OF THE DUMP (.gsa) THAT YtfnkomlakgiicadProg.lean LOADS. Nothing in Lean hashes anything: it is a label: what it is worth is what the hold of that sum in a sandbox is worth. -/
noncomputable def Try.pinned : Pinned := { name := "ytfnkomlakgiicad", sum := "34e4d792d4818866dd2789b05b94f164d71bfaaa8477d84a6705aeefed4825ea", checked := Try.checked }
namespace Rows
def none {H : Type} : Left H := { results := [], args := [] }

/-- 'tendrillaw03.PlaceSize': WHATEVER THE INPUT: true; the input reads as it did. -/
def placeSizeSpec : ChangeSpec := { name := "placeSize", fn := fun _ => fun
  | [d1, d2] => { results := [.lit (.bool true)], args := [d1, d2] }
  | _ => none }
def placeSizeRow : OpenClaim := { program := "ytfnkomlakgiicad", sum := "34e4d792d4818866dd2789b05b94f164d71bfaaa8477d84a6705aeefed4825ea", func := "tendril/tendrillaw03.PlaceSize", spec := "placeSize", apart := false }
def PlaceSizeSaid : Prop := placeSizeRow.holds Try.pinned (OpenSpec.ofChange placeSizeSpec)

/-- ITS FALSE NEIGHBOUR: 'it returns false'. Refute it at one input. -/
def placeSizeWrong : ChangeSpec := { name := "placeSize", fn := fun _ => fun
  | [d1, d2] => { results := [.lit (.bool false)], args := [d1, d2] }
  | _ => none }
def PlaceSizeWrongFalsely : Prop := placeSizeRow.holds Try.pinned (OpenSpec.ofChange placeSizeWrong)

/-- 'tendrillaw03.PlaceTells': WHATEVER THE INPUT: true; the input reads as it did. -/
def placeTellsSpec : ChangeSpec := { name := "placeTells", fn := fun _ => fun
  | [d1, d2, d3, d4, d5] => { results := [.lit (.bool true)], args := [d1, d2, d3, d4, d5] }
  | _ => none }
def placeTellsRow : OpenClaim := { program := "ytfnkomlakgiicad", sum := "34e4d792d4818866dd2789b05b94f164d71bfaaa8477d84a6705aeefed4825ea", func := "tendril/tendrillaw03.PlaceTells", spec := "placeTells", apart := false }
def PlaceTellsSaid : Prop := placeTellsRow.holds Try.pinned (OpenSpec.ofChange placeTellsSpec)

/-- ITS FALSE NEIGHBOUR: 'it returns false'. Refute it at one input. -/
def placeTellsWrong : ChangeSpec := { name := "placeTells", fn := fun _ => fun
  | [d1, d2, d3, d4, d5] => { results := [.lit (.bool false)], args := [d1, d2, d3, d4, d5] }
  | _ => none }
def PlaceTellsWrongFalsely : Prop := placeTellsRow.holds Try.pinned (OpenSpec.ofChange placeTellsWrong)

/-- 'tendrillaw03.PlaceApart': WHATEVER THE INPUT: true; the input reads as it did. -/
def placeApartSpec : ChangeSpec := { name := "placeApart", fn := fun _ => fun
  | [d1, d2, d3] => { results := [.lit (.bool true)], args := [d1, d2, d3] }
  | _ => none }
def placeApartRow : OpenClaim := { program := "ytfnkomlakgiicad", sum := "34e4d792d4818866dd2789b05b94f164d71bfaaa8477d84a6705aeefed4825ea", func := "tendril/tendrillaw03.PlaceApart", spec := "placeApart", apart := false }
def PlaceApartSaid : Prop := placeApartRow.holds Try.pinned (OpenSpec.ofChange placeApartSpec)

/-- ITS FALSE NEIGHBOUR: 'it returns false'. Refute it at one input. -/
def placeApartWrong : ChangeSpec := { name := "placeApart", fn := fun _ => fun
  | [d1, d2, d3] => { results := [.lit (.bool false)], args := [d1, d2, d3] }
  | _ => none }
def PlaceApartWrongFalsely : Prop := placeApartRow.holds Try.pinned (OpenSpec.ofChange placeApartWrong)

/-- 'tendrillaw03.PlaceMakes': WHATEVER THE INPUT: true; the input reads as it did. -/
def placeMakesSpec : ChangeSpec := { name := "placeMakes", fn := fun _ => fun
  | [d] => { results := [.lit (.bool true)], args := [d] }
  | _ => none }
def placeMakesRow : OpenClaim := { program := "ytfnkomlakgiicad", sum := "34e4d792d4818866dd2789b05b94f164d71bfaaa8477d84a6705aeefed4825ea", func := "tendril/tendrillaw03.PlaceMakes", spec := "placeMakes", apart := false }
def PlaceMakesSaid : Prop := placeMakesRow.holds Try.pinned (OpenSpec.ofChange placeMakesSpec)

/-- ITS FALSE NEIGHBOUR: 'it returns false'. Refute it at one input. -/
def placeMakesWrong : ChangeSpec := { name := "placeMakes", fn := fun _ => fun
  | [d] => { results := [.lit (.bool false)], args := [d] }
  | _ => none }
def PlaceMakesWrongFalsely : Prop := placeMakesRow.holds Try.pinned (OpenSpec.ofChange placeMakesWrong)

/-- 'tendrillaw03.PlaceWhere': WHATEVER THE INPUT: true; the input reads as it did. -/
def placeWhereSpec : ChangeSpec := { name := "placeWhere", fn := fun _ => fun
  | [d1, d2] => { results := [.lit (.bool true)], args := [d1, d2] }
  | _ => none }
def placeWhereRow : OpenClaim := { program := "ytfnkomlakgiicad", sum := "34e4d792d4818866dd2789b05b94f164d71bfaaa8477d84a6705aeefed4825ea", func := "tendril/tendrillaw03.PlaceWhere", spec := "placeWhere", apart := false }
def PlaceWhereSaid : Prop := placeWhereRow.holds Try.pinned (OpenSpec.ofChange placeWhereSpec)

/-- ITS FALSE NEIGHBOUR: 'it returns false'. Refute it at one input. -/
def placeWhereWrong : ChangeSpec := { name := "placeWhere", fn := fun _ => fun
  | [d1, d2] => { results := [.lit (.bool false)], args := [d1, d2] }
  | _ => none }
def PlaceWhereWrongFalsely : Prop := placeWhereRow.holds Try.pinned (OpenSpec.ofChange placeWhereWrong)

/-- 'tendrillaw03.PlaceBack': WHATEVER THE INPUT: true; the input reads as it did. -/
def placeBackSpec : ChangeSpec := { name := "placeBack", fn := fun _ => fun
  | [d1, d2, d3, d4, d5, d6] => { results := [.lit (.bool true)], args := [d1, d2, d3, d4, d5, d6] }
  | _ => none }
def placeBackRow : OpenClaim := { program := "ytfnkomlakgiicad", sum := "34e4d792d4818866dd2789b05b94f164d71bfaaa8477d84a6705aeefed4825ea", func := "tendril/tendrillaw03.PlaceBack", spec := "placeBack", apart := false }
def PlaceBackSaid : Prop := placeBackRow.holds Try.pinned (OpenSpec.ofChange placeBackSpec)

/-- ITS FALSE NEIGHBOUR: 'it returns false'. Refute it at one input. -/
def placeBackWrong : ChangeSpec := { name := "placeBack", fn := fun _ => fun
  | [d1, d2, d3, d4, d5, d6] => { results := [.lit (.bool false)], args := [d1, d2, d3, d4, d5, d6] }
  | _ => none }
def PlaceBackWrongFalsely : Prop := placeBackRow.holds Try.pinned (OpenSpec.ofChange placeBackWrong)

/- THE SECOND FORM. 'bulk': how many values and letters a reading holds, each counted each time it is reached (what is shared counts as often as it is met; a slice's spare places count too). A statement '..UptoSaid' is the law's where the arguments, and the package variables that the reading takes, are together of bulk at most 1048576: NARROWER than '..Said'. Prove '..Said' where nothing that the law and all that it calls make is longer than what came in: it says more and counts as full. Else prove '..UptoSaid'. A law counts once. -/
mutual
def uptoBulk {H : Type} : DataW H → Nat
  | .lit (.string bytes) => bytes.length + 1
  | .lit _ => 1
  | .nil => 1
  | .ptr d => uptoBulk d + 1
  | .slice elems spare => uptoBulkAll elems + uptoBulkAll spare + 1
  | .agg parts => uptoBulkAll parts + 1
  | .iface _ d => uptoBulk d + 1
  | .map entries => uptoBulkEntries entries + 1
  | .held _ => 1
def uptoBulkAll {H : Type} : List (DataW H) → Nat
  | [] => 0
  | d :: r => uptoBulk d + uptoBulkAll r
def uptoBulkEntries {H : Type} : List (Lit × DataW H) → Nat
  | [] => 0
  | x :: r => uptoBulkEntry x + uptoBulkEntries r
def uptoBulkEntry {H : Type} : Lit × DataW H → Nat
  | (.string bytes, d) => bytes.length + uptoBulk d + 1
  | (_, d) => uptoBulk d + 1
 end
def uptoSmall : (H : Type) → List (DataW H) → Bool := fun _ ds => decide (uptoBulkAll ds ≤ 1048576)
def OpenSpec.upto (s : _root_.Go.ChangeSpec) : _root_.Go.OpenSpec := { _root_.Go.OpenSpec.ofChange s with cond := some uptoSmall }

/-- 'tendrillaw03.PlaceSize', WHERE WHAT IT READS IS OF BULK AT MOST 1048576: true; the input reads as it did. -/
def placeSizeUptoRow : OpenClaim := { program := "ytfnkomlakgiicad", sum := "34e4d792d4818866dd2789b05b94f164d71bfaaa8477d84a6705aeefed4825ea", func := "tendril/tendrillaw03.PlaceSize", spec := "placeSize", apart := false, narrowed := true }
def PlaceSizeUptoSaid : Prop := placeSizeUptoRow.holds Try.pinned (OpenSpec.upto placeSizeSpec)

/-- 'tendrillaw03.PlaceTells', WHERE WHAT IT READS IS OF BULK AT MOST 1048576: true; the input reads as it did. -/
def placeTellsUptoRow : OpenClaim := { program := "ytfnkomlakgiicad", sum := "34e4d792d4818866dd2789b05b94f164d71bfaaa8477d84a6705aeefed4825ea", func := "tendril/tendrillaw03.PlaceTells", spec := "placeTells", apart := false, narrowed := true }
def PlaceTellsUptoSaid : Prop := placeTellsUptoRow.holds Try.pinned (OpenSpec.upto placeTellsSpec)

/-- 'tendrillaw03.PlaceApart', WHERE WHAT IT READS IS OF BULK AT MOST 1048576: true; the input reads as it did. -/
def placeApartUptoRow : OpenClaim := { program := "ytfnkomlakgiicad", sum := "34e4d792d4818866dd2789b05b94f164d71bfaaa8477d84a6705aeefed4825ea", func := "tendril/tendrillaw03.PlaceApart", spec := "placeApart", apart := false, narrowed := true }
def PlaceApartUptoSaid : Prop := placeApartUptoRow.holds Try.pinned (OpenSpec.upto placeApartSpec)

/-- 'tendrillaw03.PlaceMakes', WHERE WHAT IT READS IS OF BULK AT MOST 1048576: true; the input reads as it did. -/
def placeMakesUptoRow : OpenClaim := { program := "ytfnkomlakgiicad", sum := "34e4d792d4818866dd2789b05b94f164d71bfaaa8477d84a6705aeefed4825ea", func := "tendril/tendrillaw03.PlaceMakes", spec := "placeMakes", apart := false, narrowed := true }
def PlaceMakesUptoSaid : Prop := placeMakesUptoRow.holds Try.pinned (OpenSpec.upto placeMakesSpec)

/-- 'tendrillaw03.PlaceWhere', WHERE WHAT IT READS IS OF BULK AT MOST 1048576: true; the input reads as it did. -/
def placeWhereUptoRow : OpenClaim := { program := "ytfnkomlakgiicad", sum := "34e4d792d4818866dd2789b05b94f164d71bfaaa8477d84a6705aeefed4825ea", func := "tendril/tendrillaw03.PlaceWhere", spec := "placeWhere", apart := false, narrowed := true }
def PlaceWhereUptoSaid : Prop := placeWhereUptoRow.holds Try.pinned (OpenSpec.upto placeWhereSpec)

/-- 'tendrillaw03.PlaceBack', WHERE WHAT IT READS IS OF BULK AT MOST 1048576: true; the input reads as it did. -/
def placeBackUptoRow : OpenClaim := { program := "ytfnkomlakgiicad", sum := "34e4d792d4818866dd2789b05b94f164d71bfaaa8477d84a6705aeefed4825ea", func := "tendril/tendrillaw03.PlaceBack", spec := "placeBack", apart := false, narrowed := true }
def PlaceBackUptoSaid : Prop := placeBackUptoRow.holds Try.pinned (OpenSpec.upto placeBackSpec)

end Rows
end Go.Proofs.Ytfnkomlakgiicad
