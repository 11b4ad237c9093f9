/-
  No cell of these rows narrows 'for every input' (looked for: loops, veiled, ifaces, maps, wideKeys, modest, calm, conditions, laid).
  DERIVED. THE GIVEN ROWS OF THIS SEAT. 5 by the template 'for every input the law returns true; each argument reads behind the call as it read before'; 0 by the template 'total and deterministic' (their statements: YtcoiboghdmmdcadTotals.lean).
  GIVEN WITH THE SEED: the statements are not yours to turn. If you find one false, say at which input.
  Laid BY PROGRAM, IN A SANDBOX (cutbox-rows.mjs): the forced cells as the released guide's own fill.sh prints them over the translation 4c348abf0cbb653f… (all of the seat's roots in one cut). By AI agents, Wed Nov 11 2026. No macro, syntax, notation, axiom, sorry.
-/
import Derived.Test.YtcoiboghdmmdcadChecked
import GoSem.Claim
import GoSem.ClaimJoined
import GoSem.ClaimMapViews
import Derived.JoinedTies
import Derived.KernelRfl
namespace Go.Proofs.Ytcoiboghdmmdcad
/- THE CELL 'sum', in the pinned program and in every row, IS THE sha256 OF THE DUMP (.gsa) THAT YtcoiboghdmmdcadProg.lean LOADS. Nothing in Lean hashes anything: it is a label: what it is worth is what the hold of that sum in a sandbox is worth. -/
noncomputable def Try.pinned : Pinned := { name := "ytcoiboghdmmdcad", sum := "4c348abf0cbb653fdfa35bf7f16674cd6b124d7b19c3acb6f658b85a6fc3cae1", checked := Try.checked }
namespace Rows
def none {H : Type} : Left H := { results := [], args := [] }

/-- 'tendrillaw16.AskBegins': WHATEVER THE INPUT: true; the input reads as it did. -/
def askBeginsSpec : ChangeSpec := { name := "askBegins", fn := fun _ => fun
  | [d1, d2, d3, d4] => { results := [.lit (.bool true)], args := [d1, d2, d3, d4] }
  | _ => none }
def askBeginsRow : OpenClaim := { program := "ytcoiboghdmmdcad", sum := "4c348abf0cbb653fdfa35bf7f16674cd6b124d7b19c3acb6f658b85a6fc3cae1", func := "tendril/tendrillaw16.AskBegins", spec := "askBegins", unfollowed := true, recurses := true, apart := false }
def AskBeginsSaid : Prop := askBeginsRow.holds Try.pinned (OpenSpec.ofChange askBeginsSpec)

/-- ITS FALSE NEIGHBOUR: 'it returns false'. Refute it at one input. -/
def askBeginsWrong : ChangeSpec := { name := "askBegins", fn := fun _ => fun
  | [d1, d2, d3, d4] => { results := [.lit (.bool false)], args := [d1, d2, d3, d4] }
  | _ => none }
def AskBeginsWrongFalsely : Prop := askBeginsRow.holds Try.pinned (OpenSpec.ofChange askBeginsWrong)

/-- 'tendrillaw16.AskOne': WHATEVER THE INPUT: true; the input reads as it did. -/
def askOneSpec : ChangeSpec := { name := "askOne", fn := fun _ => fun
  | [d1, d2, d3, d4] => { results := [.lit (.bool true)], args := [d1, d2, d3, d4] }
  | _ => none }
def askOneRow : OpenClaim := { program := "ytcoiboghdmmdcad", sum := "4c348abf0cbb653fdfa35bf7f16674cd6b124d7b19c3acb6f658b85a6fc3cae1", func := "tendril/tendrillaw16.AskOne", spec := "askOne", unfollowed := true, recurses := true, apart := false }
def AskOneSaid : Prop := askOneRow.holds Try.pinned (OpenSpec.ofChange askOneSpec)

/-- ITS FALSE NEIGHBOUR: 'it returns false'. Refute it at one input. -/
def askOneWrong : ChangeSpec := { name := "askOne", fn := fun _ => fun
  | [d1, d2, d3, d4] => { results := [.lit (.bool false)], args := [d1, d2, d3, d4] }
  | _ => none }
def AskOneWrongFalsely : Prop := askOneRow.holds Try.pinned (OpenSpec.ofChange askOneWrong)

/-- 'tendrillaw16.AskBack': WHATEVER THE INPUT: true; the input reads as it did. -/
def askBackSpec : ChangeSpec := { name := "askBack", fn := fun _ => fun
  | [d1, d2, d3, d4] => { results := [.lit (.bool true)], args := [d1, d2, d3, d4] }
  | _ => none }
def askBackRow : OpenClaim := { program := "ytcoiboghdmmdcad", sum := "4c348abf0cbb653fdfa35bf7f16674cd6b124d7b19c3acb6f658b85a6fc3cae1", func := "tendril/tendrillaw16.AskBack", spec := "askBack", unfollowed := true, recurses := true, apart := false }
def AskBackSaid : Prop := askBackRow.holds Try.pinned (OpenSpec.ofChange askBackSpec)

/-- ITS FALSE NEIGHBOUR: 'it returns false'. Refute it at one input. -/
def askBackWrong : ChangeSpec := { name := "askBack", fn := fun _ => fun
  | [d1, d2, d3, d4] => { results := [.lit (.bool false)], args := [d1, d2, d3, d4] }
  | _ => none }
def AskBackWrongFalsely : Prop := askBackRow.holds Try.pinned (OpenSpec.ofChange askBackWrong)

/-- 'tendrillaw16.AskLatch': WHATEVER THE INPUT: true; the input reads as it did. -/
def askLatchSpec : ChangeSpec := { name := "askLatch", fn := fun _ => fun
  | [d1, d2, d3, d4, d5] => { results := [.lit (.bool true)], args := [d1, d2, d3, d4, d5] }
  | _ => none }
def askLatchRow : OpenClaim := { program := "ytcoiboghdmmdcad", sum := "4c348abf0cbb653fdfa35bf7f16674cd6b124d7b19c3acb6f658b85a6fc3cae1", func := "tendril/tendrillaw16.AskLatch", spec := "askLatch", unfollowed := true, recurses := true, apart := false }
def AskLatchSaid : Prop := askLatchRow.holds Try.pinned (OpenSpec.ofChange askLatchSpec)

/-- ITS FALSE NEIGHBOUR: 'it returns false'. Refute it at one input. -/
def askLatchWrong : ChangeSpec := { name := "askLatch", fn := fun _ => fun
  | [d1, d2, d3, d4, d5] => { results := [.lit (.bool false)], args := [d1, d2, d3, d4, d5] }
  | _ => none }
def AskLatchWrongFalsely : Prop := askLatchRow.holds Try.pinned (OpenSpec.ofChange askLatchWrong)

/-- 'tendrillaw16.AskTouches': WHATEVER THE INPUT: true; the input reads as it did. -/
def askTouchesSpec : ChangeSpec := { name := "askTouches", fn := fun _ => fun
  | [d1, d2, d3, d4] => { results := [.lit (.bool true)], args := [d1, d2, d3, d4] }
  | _ => none }
def askTouchesRow : OpenClaim := { program := "ytcoiboghdmmdcad", sum := "4c348abf0cbb653fdfa35bf7f16674cd6b124d7b19c3acb6f658b85a6fc3cae1", func := "tendril/tendrillaw16.AskTouches", spec := "askTouches", unfollowed := true, recurses := true, apart := false }
def AskTouchesSaid : Prop := askTouchesRow.holds Try.pinned (OpenSpec.ofChange askTouchesSpec)

/-- ITS FALSE NEIGHBOUR: 'it returns false'. Refute it at one input. -/
def askTouchesWrong : ChangeSpec := { name := "askTouches", fn := fun _ => fun
  | [d1, d2, d3, d4] => { results := [.lit (.bool false)], args := [d1, d2, d3, d4] }
  | _ => none }
def AskTouchesWrongFalsely : Prop := askTouchesRow.holds Try.pinned (OpenSpec.ofChange askTouchesWrong)

/- THE SECOND FORM. 'bulk': how many values and letters a reading holds, each counted each time it is reached (what is shared counts as often as it is met; a slice's spare places count too). A statement '..UptoSaid' is the law's where the arguments, and the package variables that the reading takes, are together of bulk at most 1048576: NARROWER than '..Said'. Prove '..Said' where nothing that the law and all that it calls make is longer than what came in: it says more and counts as full. Else prove '..UptoSaid'. A law counts once. -/
mutual
def uptoBulk {H : Type} : DataW H → Nat
  | .lit (.string bytes) => bytes.length + 1
  | .lit _ => 1
  | .nil => 1
  | .ptr d => uptoBulk d + 1
  | .slice elems spare => uptoBulkAll elems + uptoBulkAll spare + 1
  | .agg parts => uptoBulkAll parts + 1
  | .iface _ d => uptoBulk d + 1
  | .map entries => uptoBulkEntries entries + 1
  | .held _ => 1
def uptoBulkAll {H : Type} : List (DataW H) → Nat
  | [] => 0
  | d :: r => uptoBulk d + uptoBulkAll r
def uptoBulkEntries {H : Type} : List (Lit × DataW H) → Nat
  | [] => 0
  | x :: r => uptoBulkEntry x + uptoBulkEntries r
def uptoBulkEntry {H : Type} : Lit × DataW H → Nat
  | (.string bytes, d) => bytes.length + uptoBulk d + 1
  | (_, d) => uptoBulk d + 1
 end
def uptoSmall : (H : Type) → List (DataW H) → Bool := fun _ ds => decide (uptoBulkAll ds ≤ 1048576)
def OpenSpec.upto (s : _root_.Go.ChangeSpec) : _root_.Go.OpenSpec := { _root_.Go.OpenSpec.ofChange s with cond := some uptoSmall }

/-- 'tendrillaw16.AskBegins', WHERE WHAT IT READS IS OF BULK AT MOST 1048576: true; the input reads as it did. -/
def askBeginsUptoRow : OpenClaim := { program := "ytcoiboghdmmdcad", sum := "4c348abf0cbb653fdfa35bf7f16674cd6b124d7b19c3acb6f658b85a6fc3cae1", func := "tendril/tendrillaw16.AskBegins", spec := "askBegins", unfollowed := true, recurses := true, apart := false, narrowed := true }
def AskBeginsUptoSaid : Prop := askBeginsUptoRow.holds Try.pinned (OpenSpec.upto askBeginsSpec)

/-- 'tendrillaw16.AskOne', WHERE WHAT IT READS IS OF BULK AT MOST 1048576: true; the input reads as it did. -/
def askOneUptoRow : OpenClaim := { program := "ytcoiboghdmmdcad", sum := "4c348abf0cbb653fdfa35bf7f16674cd6b124d7b19c3acb6f658b85a6fc3cae1", func := "tendril/tendrillaw16.AskOne", spec := "askOne", unfollowed := true, recurses := true, apart := false, narrowed := true }
def AskOneUptoSaid : Prop := askOneUptoRow.holds Try.pinned (OpenSpec.upto askOneSpec)

/-- 'tendrillaw16.AskBack', WHERE WHAT IT READS IS OF BULK AT MOST 1048576: true; the input reads as it did. -/
def askBackUptoRow : OpenClaim := { program := "ytcoiboghdmmdcad", sum := "4c348abf0cbb653fdfa35bf7f16674cd6b124d7b19c3acb6f658b85a6fc3cae1", func := "tendril/tendrillaw16.AskBack", spec := "askBack", unfollowed := true, recurses := true, apart := false, narrowed := true }
def AskBackUptoSaid : Prop := askBackUptoRow.holds Try.pinned (OpenSpec.upto askBackSpec)

/-- 'tendrillaw16.AskLatch', WHERE WHAT IT READS IS OF BULK AT MOST 1048576: true; the input reads as it did. -/
def askLatchUptoRow : OpenClaim := { program := "ytcoiboghdmmdcad", sum := "4c348abf0cbb653fdfa35bf7f16674cd6b124d7b19c3acb6f658b85a6fc3cae1", func := "tendril/tendrillaw16.AskLatch", spec := "askLatch", unfollowed := true, recurses := true, apart := false, narrowed := true }
def AskLatchUptoSaid : Prop := askLatchUptoRow.holds Try.pinned (OpenSpec.upto askLatchSpec)

/-- 'tendrillaw16.AskTouches', WHERE WHAT IT READS IS OF BULK AT MOST 1048576: true; the input reads as it did. -/
def askTouchesUptoRow : OpenClaim := { program := "ytcoiboghdmmdcad", sum := "4c348abf0cbb653fdfa35bf7f16674cd6b124d7b19c3acb6f658b85a6fc3cae1", func := "tendril/tendrillaw16.AskTouches", spec := "askTouches", unfollowed := true, recurses := true, apart := false, narrowed := true }
def AskTouchesUptoSaid : Prop := askTouchesUptoRow.holds Try.pinned (OpenSpec.upto askTouchesSpec)

end Rows
end Go.Proofs.Ytcoiboghdmmdcad
