/-
  No cell of these rows narrows 'for every input' (looked for: loops, veiled, ifaces, maps, wideKeys, modest, calm, conditions, laid).
  DERIVED. THE GIVEN ROWS OF THIS SEAT. 6 by the template 'for every input the law returns true; each argument reads behind the call as it read before'; 0 by the template 'total and deterministic' (their statements: YtfnkomlakgiicabTotals.lean).
  GIVEN WITH THE SEED: the statements are not yours to turn. If you find one false, say at which input.
  Laid BY PROGRAM, IN A SANDBOX (cutbox-rows.mjs): the forced cells as the released guide's own fill.sh prints them over the translation c0903992deefd2ad… (all of the seat's roots in one cut). By AI agents, Wed Nov 11 2026. No macro, syntax, notation, axiom, sorry.
-/
import Derived.Test.YtfnkomlakgiicabChecked
import GoSem.Claim
import GoSem.ClaimJoined
import GoSem.ClaimMapViews
import Derived.JoinedTies
import Derived.KernelRfl
namespace Go.Proofs.Ytfnkomlakgiicab
/- THE CELL 'sum', in the pinned program and in every row, IS THE sha256 OF THE DUMP (.gsa) THAT YtfnkomlakgiicabProg.lean LOADS. Nothing in Lean hashes anything: it is a label: what it is worth is what the hold of that sum in a sandbox is worth. -/
noncomputable def Try.pinned : Pinned := { name := "ytfnkomlakgiicab", sum := "c0903992deefd2ade8f9f20ea11c1e57e74fdaf947e376105ec463023978edee", checked := Try.checked }
namespace Rows
def none {H : Type} : Left H := { results := [], args := [] }

/-- 'tendrillaw08.LatchTells': WHATEVER THE INPUT: true; the input reads as it did. -/
def latchTellsSpec : ChangeSpec := { name := "latchTells", fn := fun _ => fun
  | [d] => { results := [.lit (.bool true)], args := [d] }
  | _ => none }
def latchTellsRow : OpenClaim := { program := "ytfnkomlakgiicab", sum := "c0903992deefd2ade8f9f20ea11c1e57e74fdaf947e376105ec463023978edee", func := "tendril/tendrillaw08.LatchTells", spec := "latchTells", apart := false }
def LatchTellsSaid : Prop := latchTellsRow.holds Try.pinned (OpenSpec.ofChange latchTellsSpec)

/-- ITS FALSE NEIGHBOUR: 'it returns false'. Refute it at one input. -/
def latchTellsWrong : ChangeSpec := { name := "latchTells", fn := fun _ => fun
  | [d] => { results := [.lit (.bool false)], args := [d] }
  | _ => none }
def LatchTellsWrongFalsely : Prop := latchTellsRow.holds Try.pinned (OpenSpec.ofChange latchTellsWrong)

/-- 'tendrillaw08.LatchDoes': WHATEVER THE INPUT: true; the input reads as it did. -/
def latchDoesSpec : ChangeSpec := { name := "latchDoes", fn := fun _ => fun
  | [d] => { results := [.lit (.bool true)], args := [d] }
  | _ => none }
def latchDoesRow : OpenClaim := { program := "ytfnkomlakgiicab", sum := "c0903992deefd2ade8f9f20ea11c1e57e74fdaf947e376105ec463023978edee", func := "tendril/tendrillaw08.LatchDoes", spec := "latchDoes", apart := false }
def LatchDoesSaid : Prop := latchDoesRow.holds Try.pinned (OpenSpec.ofChange latchDoesSpec)

/-- ITS FALSE NEIGHBOUR: 'it returns false'. Refute it at one input. -/
def latchDoesWrong : ChangeSpec := { name := "latchDoes", fn := fun _ => fun
  | [d] => { results := [.lit (.bool false)], args := [d] }
  | _ => none }
def LatchDoesWrongFalsely : Prop := latchDoesRow.holds Try.pinned (OpenSpec.ofChange latchDoesWrong)

/-- 'tendrillaw08.LatchAlone': WHATEVER THE INPUT: true; the input reads as it did. -/
def latchAloneSpec : ChangeSpec := { name := "latchAlone", fn := fun _ => fun
  | [d1, d2] => { results := [.lit (.bool true)], args := [d1, d2] }
  | _ => none }
def latchAloneRow : OpenClaim := { program := "ytfnkomlakgiicab", sum := "c0903992deefd2ade8f9f20ea11c1e57e74fdaf947e376105ec463023978edee", func := "tendril/tendrillaw08.LatchAlone", spec := "latchAlone", apart := false }
def LatchAloneSaid : Prop := latchAloneRow.holds Try.pinned (OpenSpec.ofChange latchAloneSpec)

/-- ITS FALSE NEIGHBOUR: 'it returns false'. Refute it at one input. -/
def latchAloneWrong : ChangeSpec := { name := "latchAlone", fn := fun _ => fun
  | [d1, d2] => { results := [.lit (.bool false)], args := [d1, d2] }
  | _ => none }
def LatchAloneWrongFalsely : Prop := latchAloneRow.holds Try.pinned (OpenSpec.ofChange latchAloneWrong)

/-- 'tendrillaw08.LatchSeen': WHATEVER THE INPUT: true; the input reads as it did. -/
def latchSeenSpec : ChangeSpec := { name := "latchSeen", fn := fun _ => fun
  | [d1, d2] => { results := [.lit (.bool true)], args := [d1, d2] }
  | _ => none }
def latchSeenRow : OpenClaim := { program := "ytfnkomlakgiicab", sum := "c0903992deefd2ade8f9f20ea11c1e57e74fdaf947e376105ec463023978edee", func := "tendril/tendrillaw08.LatchSeen", spec := "latchSeen", apart := false }
def LatchSeenSaid : Prop := latchSeenRow.holds Try.pinned (OpenSpec.ofChange latchSeenSpec)

/-- ITS FALSE NEIGHBOUR: 'it returns false'. Refute it at one input. -/
def latchSeenWrong : ChangeSpec := { name := "latchSeen", fn := fun _ => fun
  | [d1, d2] => { results := [.lit (.bool false)], args := [d1, d2] }
  | _ => none }
def LatchSeenWrongFalsely : Prop := latchSeenRow.holds Try.pinned (OpenSpec.ofChange latchSeenWrong)

/-- 'tendrillaw08.LatchCounts': WHATEVER THE INPUT: true; the input reads as it did. -/
def latchCountsSpec : ChangeSpec := { name := "latchCounts", fn := fun _ => fun
  | [d1, d2] => { results := [.lit (.bool true)], args := [d1, d2] }
  | _ => none }
def latchCountsRow : OpenClaim := { program := "ytfnkomlakgiicab", sum := "c0903992deefd2ade8f9f20ea11c1e57e74fdaf947e376105ec463023978edee", func := "tendril/tendrillaw08.LatchCounts", spec := "latchCounts", apart := false }
def LatchCountsSaid : Prop := latchCountsRow.holds Try.pinned (OpenSpec.ofChange latchCountsSpec)

/-- ITS FALSE NEIGHBOUR: 'it returns false'. Refute it at one input. -/
def latchCountsWrong : ChangeSpec := { name := "latchCounts", fn := fun _ => fun
  | [d1, d2] => { results := [.lit (.bool false)], args := [d1, d2] }
  | _ => none }
def LatchCountsWrongFalsely : Prop := latchCountsRow.holds Try.pinned (OpenSpec.ofChange latchCountsWrong)

/-- 'tendrillaw08.LatchFree': WHATEVER THE INPUT: true; the input reads as it did. -/
def latchFreeSpec : ChangeSpec := { name := "latchFree", fn := fun _ => fun
  | [d] => { results := [.lit (.bool true)], args := [d] }
  | _ => none }
def latchFreeRow : OpenClaim := { program := "ytfnkomlakgiicab", sum := "c0903992deefd2ade8f9f20ea11c1e57e74fdaf947e376105ec463023978edee", func := "tendril/tendrillaw08.LatchFree", spec := "latchFree", apart := false }
def LatchFreeSaid : Prop := latchFreeRow.holds Try.pinned (OpenSpec.ofChange latchFreeSpec)

/-- ITS FALSE NEIGHBOUR: 'it returns false'. Refute it at one input. -/
def latchFreeWrong : ChangeSpec := { name := "latchFree", fn := fun _ => fun
  | [d] => { results := [.lit (.bool false)], args := [d] }
  | _ => none }
def LatchFreeWrongFalsely : Prop := latchFreeRow.holds Try.pinned (OpenSpec.ofChange latchFreeWrong)

/- THE SECOND FORM. 'bulk': how many values and letters a reading holds, each counted each time it is reached (what is shared counts as often as it is met; a slice's spare places count too). A statement '..UptoSaid' is the law's where the arguments, and the package variables that the reading takes, are together of bulk at most 1048576: NARROWER than '..Said'. Prove '..Said' where nothing that the law and all that it calls make is longer than what came in: it says more and counts as full. Else prove '..UptoSaid'. A law counts once. -/
mutual
def uptoBulk {H : Type} : DataW H → Nat
  | .lit (.string bytes) => bytes.length + 1
  | .lit _ => 1
  | .nil => 1
  | .ptr d => uptoBulk d + 1
  | .slice elems spare => uptoBulkAll elems + uptoBulkAll spare + 1
  | .agg parts => uptoBulkAll parts + 1
  | .iface _ d => uptoBulk d + 1
  | .map entries => uptoBulkEntries entries + 1
  | .held _ => 1
def uptoBulkAll {H : Type} : List (DataW H) → Nat
  | [] => 0
  | d :: r => uptoBulk d + uptoBulkAll r
def uptoBulkEntries {H : Type} : List (Lit × DataW H) → Nat
  | [] => 0
  | x :: r => uptoBulkEntry x + uptoBulkEntries r
def uptoBulkEntry {H : Type} : Lit × DataW H → Nat
  | (.string bytes, d) => bytes.length + uptoBulk d + 1
  | (_, d) => uptoBulk d + 1
 end
def uptoSmall : (H : Type) → List (DataW H) → Bool := fun _ ds => decide (uptoBulkAll ds ≤ 1048576)
def OpenSpec.upto (s : _root_.Go.ChangeSpec) : _root_.Go.OpenSpec := { _root_.Go.OpenSpec.ofChange s with cond := some uptoSmall }

/-- 'tendrillaw08.LatchTells', WHERE WHAT IT READS IS OF BULK AT MOST 1048576: true; the input reads as it did. -/
def latchTellsUptoRow : OpenClaim := { program := "ytfnkomlakgiicab", sum := "c0903992deefd2ade8f9f20ea11c1e57e74fdaf947e376105ec463023978edee", func := "tendril/tendrillaw08.LatchTells", spec := "latchTells", apart := false, narrowed := true }
def LatchTellsUptoSaid : Prop := latchTellsUptoRow.holds Try.pinned (OpenSpec.upto latchTellsSpec)

/-- 'tendrillaw08.LatchDoes', WHERE WHAT IT READS IS OF BULK AT MOST 1048576: true; the input reads as it did. -/
def latchDoesUptoRow : OpenClaim := { program := "ytfnkomlakgiicab", sum := "c0903992deefd2ade8f9f20ea11c1e57e74fdaf947e376105ec463023978edee", func := "tendril/tendrillaw08.LatchDoes", spec := "latchDoes", apart := false, narrowed := true }
def LatchDoesUptoSaid : Prop := latchDoesUptoRow.holds Try.pinned (OpenSpec.upto latchDoesSpec)

/-- 'tendrillaw08.LatchAlone', WHERE WHAT IT READS IS OF BULK AT MOST 1048576: true; the input reads as it did. -/
def latchAloneUptoRow : OpenClaim := { program := "ytfnkomlakgiicab", sum := "c0903992deefd2ade8f9f20ea11c1e57e74fdaf947e376105ec463023978edee", func := "tendril/tendrillaw08.LatchAlone", spec := "latchAlone", apart := false, narrowed := true }
def LatchAloneUptoSaid : Prop := latchAloneUptoRow.holds Try.pinned (OpenSpec.upto latchAloneSpec)

/-- 'tendrillaw08.LatchSeen', WHERE WHAT IT READS IS OF BULK AT MOST 1048576: true; the input reads as it did. -/
def latchSeenUptoRow : OpenClaim := { program := "ytfnkomlakgiicab", sum := "c0903992deefd2ade8f9f20ea11c1e57e74fdaf947e376105ec463023978edee", func := "tendril/tendrillaw08.LatchSeen", spec := "latchSeen", apart := false, narrowed := true }
def LatchSeenUptoSaid : Prop := latchSeenUptoRow.holds Try.pinned (OpenSpec.upto latchSeenSpec)

/-- 'tendrillaw08.LatchCounts', WHERE WHAT IT READS IS OF BULK AT MOST 1048576: true; the input reads as it did. -/
def latchCountsUptoRow : OpenClaim := { program := "ytfnkomlakgiicab", sum := "c0903992deefd2ade8f9f20ea11c1e57e74fdaf947e376105ec463023978edee", func := "tendril/tendrillaw08.LatchCounts", spec := "latchCounts", apart := false, narrowed := true }
def LatchCountsUptoSaid : Prop := latchCountsUptoRow.holds Try.pinned (OpenSpec.upto latchCountsSpec)

/-- 'tendrillaw08.LatchFree', WHERE WHAT IT READS IS OF BULK AT MOST 1048576: true; the input reads as it did. -/
def latchFreeUptoRow : OpenClaim := { program := "ytfnkomlakgiicab", sum := "c0903992deefd2ade8f9f20ea11c1e57e74fdaf947e376105ec463023978edee", func := "tendril/tendrillaw08.LatchFree", spec := "latchFree", apart := false, narrowed := true }
def LatchFreeUptoSaid : Prop := latchFreeUptoRow.holds Try.pinned (OpenSpec.upto latchFreeSpec)

end Rows
end Go.Proofs.Ytfnkomlakgiicab
