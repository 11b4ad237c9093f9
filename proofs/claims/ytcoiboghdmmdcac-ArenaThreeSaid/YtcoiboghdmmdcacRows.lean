/-
  No cell of these rows narrows 'for every input' (looked for: loops, veiled, ifaces, maps, wideKeys, modest, calm, conditions, laid).
  DERIVED. THE GIVEN ROWS OF THIS SEAT. 6 by the template 'for every input the law returns true; each argument reads behind the call as it read before'; 0 by the template 'total and deterministic' (their statements: YtcoiboghdmmdcacTotals.lean).
  GIVEN WITH THE SEED: the statements are not yours to turn. If you find one false, say at which input.
  Laid BY PROGRAM, IN A SANDBOX (cutbox-rows.mjs): the forced cells as the released guide's own fill.sh prints them over the translation 64d4379340b25e53… (all of the seat's roots in one cut). By AI agents, Wed Nov 11 2026. No macro, syntax, notation, axiom, sorry.
-/
import Derived.Test.YtcoiboghdmmdcacChecked
import GoSem.Claim
import GoSem.ClaimJoined
import GoSem.ClaimMapViews
import Derived.JoinedTies
import Derived.KernelRfl
namespace Go.Proofs.Ytcoiboghdmmdcac
/- THE CELL 'sum', in the pinned program and in every row, IS THE sha256 OF THE DUMP (.gsa) THAT YtcoiboghdmmdcacProg.lean LOADS. Nothing in Lean hashes anything: it is a label: what it is worth is what the hold of that sum in a sandbox is worth. -/
noncomputable def Try.pinned : Pinned := { name := "ytcoiboghdmmdcac", sum := "64d4379340b25e53e6880db9a41bcce09e03f742fac3c8dc3b60f57a66945f3b", checked := Try.checked }
namespace Rows
def none {H : Type} : Left H := { results := [], args := [] }

/-- 'tendrillaw07.ArenaMakes': WHATEVER THE INPUT: true; the input reads as it did. -/
def arenaMakesSpec : ChangeSpec := { name := "arenaMakes", fn := fun _ => fun
  | [d1, d2, d3] => { results := [.lit (.bool true)], args := [d1, d2, d3] }
  | _ => none }
def arenaMakesRow : OpenClaim := { program := "ytcoiboghdmmdcac", sum := "64d4379340b25e53e6880db9a41bcce09e03f742fac3c8dc3b60f57a66945f3b", func := "tendril/tendrillaw07.ArenaMakes", spec := "arenaMakes", unfollowed := true, recurses := true, apart := false }
def ArenaMakesSaid : Prop := arenaMakesRow.holds Try.pinned (OpenSpec.ofChange arenaMakesSpec)

/-- ITS FALSE NEIGHBOUR: 'it returns false'. Refute it at one input. -/
def arenaMakesWrong : ChangeSpec := { name := "arenaMakes", fn := fun _ => fun
  | [d1, d2, d3] => { results := [.lit (.bool false)], args := [d1, d2, d3] }
  | _ => none }
def ArenaMakesWrongFalsely : Prop := arenaMakesRow.holds Try.pinned (OpenSpec.ofChange arenaMakesWrong)

/-- 'tendrillaw07.ArenaApart': WHATEVER THE INPUT: true; the input reads as it did. -/
def arenaApartSpec : ChangeSpec := { name := "arenaApart", fn := fun _ => fun
  | [d1, d2, d3] => { results := [.lit (.bool true)], args := [d1, d2, d3] }
  | _ => none }
def arenaApartRow : OpenClaim := { program := "ytcoiboghdmmdcac", sum := "64d4379340b25e53e6880db9a41bcce09e03f742fac3c8dc3b60f57a66945f3b", func := "tendril/tendrillaw07.ArenaApart", spec := "arenaApart", unfollowed := true, recurses := true, apart := false }
def ArenaApartSaid : Prop := arenaApartRow.holds Try.pinned (OpenSpec.ofChange arenaApartSpec)

/-- ITS FALSE NEIGHBOUR: 'it returns false'. Refute it at one input. -/
def arenaApartWrong : ChangeSpec := { name := "arenaApart", fn := fun _ => fun
  | [d1, d2, d3] => { results := [.lit (.bool false)], args := [d1, d2, d3] }
  | _ => none }
def ArenaApartWrongFalsely : Prop := arenaApartRow.holds Try.pinned (OpenSpec.ofChange arenaApartWrong)

/-- 'tendrillaw07.ArenaSlots': WHATEVER THE INPUT: true; the input reads as it did. -/
def arenaSlotsSpec : ChangeSpec := { name := "arenaSlots", fn := fun _ => fun
  | [d1, d2, d3] => { results := [.lit (.bool true)], args := [d1, d2, d3] }
  | _ => none }
def arenaSlotsRow : OpenClaim := { program := "ytcoiboghdmmdcac", sum := "64d4379340b25e53e6880db9a41bcce09e03f742fac3c8dc3b60f57a66945f3b", func := "tendril/tendrillaw07.ArenaSlots", spec := "arenaSlots", unfollowed := true, recurses := true, apart := false }
def ArenaSlotsSaid : Prop := arenaSlotsRow.holds Try.pinned (OpenSpec.ofChange arenaSlotsSpec)

/-- ITS FALSE NEIGHBOUR: 'it returns false'. Refute it at one input. -/
def arenaSlotsWrong : ChangeSpec := { name := "arenaSlots", fn := fun _ => fun
  | [d1, d2, d3] => { results := [.lit (.bool false)], args := [d1, d2, d3] }
  | _ => none }
def ArenaSlotsWrongFalsely : Prop := arenaSlotsRow.holds Try.pinned (OpenSpec.ofChange arenaSlotsWrong)

/-- 'tendrillaw07.ArenaThree': WHATEVER THE INPUT: true; the input reads as it did. -/
def arenaThreeSpec : ChangeSpec := { name := "arenaThree", fn := fun _ => fun
  | [d] => { results := [.lit (.bool true)], args := [d] }
  | _ => none }
def arenaThreeRow : OpenClaim := { program := "ytcoiboghdmmdcac", sum := "64d4379340b25e53e6880db9a41bcce09e03f742fac3c8dc3b60f57a66945f3b", func := "tendril/tendrillaw07.ArenaThree", spec := "arenaThree", unfollowed := true, recurses := true, apart := false }
def ArenaThreeSaid : Prop := arenaThreeRow.holds Try.pinned (OpenSpec.ofChange arenaThreeSpec)

/-- ITS FALSE NEIGHBOUR: 'it returns false'. Refute it at one input. -/
def arenaThreeWrong : ChangeSpec := { name := "arenaThree", fn := fun _ => fun
  | [d] => { results := [.lit (.bool false)], args := [d] }
  | _ => none }
def ArenaThreeWrongFalsely : Prop := arenaThreeRow.holds Try.pinned (OpenSpec.ofChange arenaThreeWrong)

/-- 'tendrillaw07.ArenaTurns': WHATEVER THE INPUT: true; the input reads as it did. -/
def arenaTurnsSpec : ChangeSpec := { name := "arenaTurns", fn := fun _ => fun
  | [d1, d2] => { results := [.lit (.bool true)], args := [d1, d2] }
  | _ => none }
def arenaTurnsRow : OpenClaim := { program := "ytcoiboghdmmdcac", sum := "64d4379340b25e53e6880db9a41bcce09e03f742fac3c8dc3b60f57a66945f3b", func := "tendril/tendrillaw07.ArenaTurns", spec := "arenaTurns", unfollowed := true, recurses := true, apart := false }
def ArenaTurnsSaid : Prop := arenaTurnsRow.holds Try.pinned (OpenSpec.ofChange arenaTurnsSpec)

/-- ITS FALSE NEIGHBOUR: 'it returns false'. Refute it at one input. -/
def arenaTurnsWrong : ChangeSpec := { name := "arenaTurns", fn := fun _ => fun
  | [d1, d2] => { results := [.lit (.bool false)], args := [d1, d2] }
  | _ => none }
def ArenaTurnsWrongFalsely : Prop := arenaTurnsRow.holds Try.pinned (OpenSpec.ofChange arenaTurnsWrong)

/-- 'tendrillaw07.ArenaPinned': WHATEVER THE INPUT: true; the input reads as it did. -/
def arenaPinnedSpec : ChangeSpec := { name := "arenaPinned", fn := fun _ => fun
  | [d1, d2, d3] => { results := [.lit (.bool true)], args := [d1, d2, d3] }
  | _ => none }
def arenaPinnedRow : OpenClaim := { program := "ytcoiboghdmmdcac", sum := "64d4379340b25e53e6880db9a41bcce09e03f742fac3c8dc3b60f57a66945f3b", func := "tendril/tendrillaw07.ArenaPinned", spec := "arenaPinned", unfollowed := true, recurses := true, apart := false }
def ArenaPinnedSaid : Prop := arenaPinnedRow.holds Try.pinned (OpenSpec.ofChange arenaPinnedSpec)

/-- ITS FALSE NEIGHBOUR: 'it returns false'. Refute it at one input. -/
def arenaPinnedWrong : ChangeSpec := { name := "arenaPinned", fn := fun _ => fun
  | [d1, d2, d3] => { results := [.lit (.bool false)], args := [d1, d2, d3] }
  | _ => none }
def ArenaPinnedWrongFalsely : Prop := arenaPinnedRow.holds Try.pinned (OpenSpec.ofChange arenaPinnedWrong)

/- THE SECOND FORM. 'bulk': how many values and letters a reading holds, each counted each time it is reached (what is shared counts as often as it is met; a slice's spare places count too). A statement '..UptoSaid' is the law's where the arguments, and the package variables that the reading takes, are together of bulk at most 1048576: NARROWER than '..Said'. Prove '..Said' where nothing that the law and all that it calls make is longer than what came in: it says more and counts as full. Else prove '..UptoSaid'. A law counts once. -/
mutual
def uptoBulk {H : Type} : DataW H → Nat
  | .lit (.string bytes) => bytes.length + 1
  | .lit _ => 1
  | .nil => 1
  | .ptr d => uptoBulk d + 1
  | .slice elems spare => uptoBulkAll elems + uptoBulkAll spare + 1
  | .agg parts => uptoBulkAll parts + 1
  | .iface _ d => uptoBulk d + 1
  | .map entries => uptoBulkEntries entries + 1
  | .held _ => 1
def uptoBulkAll {H : Type} : List (DataW H) → Nat
  | [] => 0
  | d :: r => uptoBulk d + uptoBulkAll r
def uptoBulkEntries {H : Type} : List (Lit × DataW H) → Nat
  | [] => 0
  | x :: r => uptoBulkEntry x + uptoBulkEntries r
def uptoBulkEntry {H : Type} : Lit × DataW H → Nat
  | (.string bytes, d) => bytes.length + uptoBulk d + 1
  | (_, d) => uptoBulk d + 1
 end
def uptoSmall : (H : Type) → List (DataW H) → Bool := fun _ ds => decide (uptoBulkAll ds ≤ 1048576)
def OpenSpec.upto (s : _root_.Go.ChangeSpec) : _root_.Go.OpenSpec := { _root_.Go.OpenSpec.ofChange s with cond := some uptoSmall }

/-- 'tendrillaw07.ArenaMakes', WHERE WHAT IT READS IS OF BULK AT MOST 1048576: true; the input reads as it did. -/
def arenaMakesUptoRow : OpenClaim := { program := "ytcoiboghdmmdcac", sum := "64d4379340b25e53e6880db9a41bcce09e03f742fac3c8dc3b60f57a66945f3b", func := "tendril/tendrillaw07.ArenaMakes", spec := "arenaMakes", unfollowed := true, recurses := true, apart := false, narrowed := true }
def ArenaMakesUptoSaid : Prop := arenaMakesUptoRow.holds Try.pinned (OpenSpec.upto arenaMakesSpec)

/-- 'tendrillaw07.ArenaApart', WHERE WHAT IT READS IS OF BULK AT MOST 1048576: true; the input reads as it did. -/
def arenaApartUptoRow : OpenClaim := { program := "ytcoiboghdmmdcac", sum := "64d4379340b25e53e6880db9a41bcce09e03f742fac3c8dc3b60f57a66945f3b", func := "tendril/tendrillaw07.ArenaApart", spec := "arenaApart", unfollowed := true, recurses := true, apart := false, narrowed := true }
def ArenaApartUptoSaid : Prop := arenaApartUptoRow.holds Try.pinned (OpenSpec.upto arenaApartSpec)

/-- 'tendrillaw07.ArenaSlots', WHERE WHAT IT READS IS OF BULK AT MOST 1048576: true; the input reads as it did. -/
def arenaSlotsUptoRow : OpenClaim := { program := "ytcoiboghdmmdcac", sum := "64d4379340b25e53e6880db9a41bcce09e03f742fac3c8dc3b60f57a66945f3b", func := "tendril/tendrillaw07.ArenaSlots", spec := "arenaSlots", unfollowed := true, recurses := true, apart := false, narrowed := true }
def ArenaSlotsUptoSaid : Prop := arenaSlotsUptoRow.holds Try.pinned (OpenSpec.upto arenaSlotsSpec)

/-- 'tendrillaw07.ArenaThree', WHERE WHAT IT READS IS OF BULK AT MOST 1048576: true; the input reads as it did. -/
def arenaThreeUptoRow : OpenClaim := { program := "ytcoiboghdmmdcac", sum := "64d4379340b25e53e6880db9a41bcce09e03f742fac3c8dc3b60f57a66945f3b", func := "tendril/tendrillaw07.ArenaThree", spec := "arenaThree", unfollowed := true, recurses := true, apart := false, narrowed := true }
def ArenaThreeUptoSaid : Prop := arenaThreeUptoRow.holds Try.pinned (OpenSpec.upto arenaThreeSpec)

/-- 'tendrillaw07.ArenaTurns', WHERE WHAT IT READS IS OF BULK AT MOST 1048576: true; the input reads as it did. -/
def arenaTurnsUptoRow : OpenClaim := { program := "ytcoiboghdmmdcac", sum := "64d4379340b25e53e6880db9a41bcce09e03f742fac3c8dc3b60f57a66945f3b", func := "tendril/tendrillaw07.ArenaTurns", spec := "arenaTurns", unfollowed := true, recurses := true, apart := false, narrowed := true }
def ArenaTurnsUptoSaid : Prop := arenaTurnsUptoRow.holds Try.pinned (OpenSpec.upto arenaTurnsSpec)

/-- 'tendrillaw07.ArenaPinned', WHERE WHAT IT READS IS OF BULK AT MOST 1048576: true; the input reads as it did. -/
def arenaPinnedUptoRow : OpenClaim := { program := "ytcoiboghdmmdcac", sum := "64d4379340b25e53e6880db9a41bcce09e03f742fac3c8dc3b60f57a66945f3b", func := "tendril/tendrillaw07.ArenaPinned", spec := "arenaPinned", unfollowed := true, recurses := true, apart := false, narrowed := true }
def ArenaPinnedUptoSaid : Prop := arenaPinnedUptoRow.holds Try.pinned (OpenSpec.upto arenaPinnedSpec)

end Rows
end Go.Proofs.Ytcoiboghdmmdcac
