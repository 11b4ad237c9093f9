/-
  No cell of these rows narrows 'for every input' (looked for: loops, veiled, ifaces, maps, wideKeys, modest, calm, conditions, laid).
  DERIVED. THE GIVEN ROWS OF THIS SEAT. 6 by the template 'for every input the law returns true; each argument reads behind the call as it read before'; 0 by the template 'total and deterministic' (their statements: YtcoiboghdmmdcaaTotals.lean).
  GIVEN WITH THE SEED: the statements are not yours to turn. If you find one false, say at which input.
  Laid BY PROGRAM, IN A SANDBOX (cutbox-rows.mjs): the forced cells as the released guide's own fill.sh prints them over the translation 30bdc76ba8c6d188… (all of the seat's roots in one cut). By AI agents, Wed Nov 11 2026. No macro, syntax, notation, axiom, sorry.
-/
import Derived.Test.YtcoiboghdmmdcaaChecked
import GoSem.Claim
import GoSem.ClaimJoined
import GoSem.ClaimMapViews
import Derived.JoinedTies
import Derived.KernelRfl
namespace Go.Proofs.Ytcoiboghdmmdcaa
/- THE CELL 'sum', in the pinned program and in every row, IS THE sha256 OF THE DUMP (.gsa) THAT YtcoiboghdmmdcaaProg.lean LOADS. Nothing in Lean hashes anything: it is a label: what it is worth is what the hold of that sum in a sandbox is worth. -/
noncomputable def Try.pinned : Pinned := { name := "ytcoiboghdmmdcaa", sum := "30bdc76ba8c6d188b0d7bef0d5a028e30aa5807bbdf680d255d3d2f6b5eb57b6", checked := Try.checked }
namespace Rows
def none {H : Type} : Left H := { results := [], args := [] }

/-- 'tendrillaw05.PoolDoes': WHATEVER THE INPUT: true; the input reads as it did. -/
def poolDoesSpec : ChangeSpec := { name := "poolDoes", fn := fun _ => fun
  | [d1, d2, d3, d4] => { results := [.lit (.bool true)], args := [d1, d2, d3, d4] }
  | _ => none }
def poolDoesRow : OpenClaim := { program := "ytcoiboghdmmdcaa", sum := "30bdc76ba8c6d188b0d7bef0d5a028e30aa5807bbdf680d255d3d2f6b5eb57b6", func := "tendril/tendrillaw05.PoolDoes", spec := "poolDoes", apart := false }
def PoolDoesSaid : Prop := poolDoesRow.holds Try.pinned (OpenSpec.ofChange poolDoesSpec)

/-- ITS FALSE NEIGHBOUR: 'it returns false'. Refute it at one input. -/
def poolDoesWrong : ChangeSpec := { name := "poolDoes", fn := fun _ => fun
  | [d1, d2, d3, d4] => { results := [.lit (.bool false)], args := [d1, d2, d3, d4] }
  | _ => none }
def PoolDoesWrongFalsely : Prop := poolDoesRow.holds Try.pinned (OpenSpec.ofChange poolDoesWrong)

/-- 'tendrillaw05.PoolOnce': WHATEVER THE INPUT: true; the input reads as it did. -/
def poolOnceSpec : ChangeSpec := { name := "poolOnce", fn := fun _ => fun
  | [d1, d2] => { results := [.lit (.bool true)], args := [d1, d2] }
  | _ => none }
def poolOnceRow : OpenClaim := { program := "ytcoiboghdmmdcaa", sum := "30bdc76ba8c6d188b0d7bef0d5a028e30aa5807bbdf680d255d3d2f6b5eb57b6", func := "tendril/tendrillaw05.PoolOnce", spec := "poolOnce", apart := false }
def PoolOnceSaid : Prop := poolOnceRow.holds Try.pinned (OpenSpec.ofChange poolOnceSpec)

/-- ITS FALSE NEIGHBOUR: 'it returns false'. Refute it at one input. -/
def poolOnceWrong : ChangeSpec := { name := "poolOnce", fn := fun _ => fun
  | [d1, d2] => { results := [.lit (.bool false)], args := [d1, d2] }
  | _ => none }
def PoolOnceWrongFalsely : Prop := poolOnceRow.holds Try.pinned (OpenSpec.ofChange poolOnceWrong)

/-- 'tendrillaw05.PoolStale': WHATEVER THE INPUT: true; the input reads as it did. -/
def poolStaleSpec : ChangeSpec := { name := "poolStale", fn := fun _ => fun
  | [d1, d2, d3, d4] => { results := [.lit (.bool true)], args := [d1, d2, d3, d4] }
  | _ => none }
def poolStaleRow : OpenClaim := { program := "ytcoiboghdmmdcaa", sum := "30bdc76ba8c6d188b0d7bef0d5a028e30aa5807bbdf680d255d3d2f6b5eb57b6", func := "tendril/tendrillaw05.PoolStale", spec := "poolStale", apart := false }
def PoolStaleSaid : Prop := poolStaleRow.holds Try.pinned (OpenSpec.ofChange poolStaleSpec)

/-- ITS FALSE NEIGHBOUR: 'it returns false'. Refute it at one input. -/
def poolStaleWrong : ChangeSpec := { name := "poolStale", fn := fun _ => fun
  | [d1, d2, d3, d4] => { results := [.lit (.bool false)], args := [d1, d2, d3, d4] }
  | _ => none }
def PoolStaleWrongFalsely : Prop := poolStaleRow.holds Try.pinned (OpenSpec.ofChange poolStaleWrong)

/-- 'tendrillaw05.PoolReclaims': WHATEVER THE INPUT: true; the input reads as it did. -/
def poolReclaimsSpec : ChangeSpec := { name := "poolReclaims", fn := fun _ => fun
  | [d1, d2] => { results := [.lit (.bool true)], args := [d1, d2] }
  | _ => none }
def poolReclaimsRow : OpenClaim := { program := "ytcoiboghdmmdcaa", sum := "30bdc76ba8c6d188b0d7bef0d5a028e30aa5807bbdf680d255d3d2f6b5eb57b6", func := "tendril/tendrillaw05.PoolReclaims", spec := "poolReclaims", apart := false }
def PoolReclaimsSaid : Prop := poolReclaimsRow.holds Try.pinned (OpenSpec.ofChange poolReclaimsSpec)

/-- ITS FALSE NEIGHBOUR: 'it returns false'. Refute it at one input. -/
def poolReclaimsWrong : ChangeSpec := { name := "poolReclaims", fn := fun _ => fun
  | [d1, d2] => { results := [.lit (.bool false)], args := [d1, d2] }
  | _ => none }
def PoolReclaimsWrongFalsely : Prop := poolReclaimsRow.holds Try.pinned (OpenSpec.ofChange poolReclaimsWrong)

/-- 'tendrillaw05.PoolMakes': WHATEVER THE INPUT: true; the input reads as it did. -/
def poolMakesSpec : ChangeSpec := { name := "poolMakes", fn := fun _ => fun
  | [d1, d2] => { results := [.lit (.bool true)], args := [d1, d2] }
  | _ => none }
def poolMakesRow : OpenClaim := { program := "ytcoiboghdmmdcaa", sum := "30bdc76ba8c6d188b0d7bef0d5a028e30aa5807bbdf680d255d3d2f6b5eb57b6", func := "tendril/tendrillaw05.PoolMakes", spec := "poolMakes", apart := false }
def PoolMakesSaid : Prop := poolMakesRow.holds Try.pinned (OpenSpec.ofChange poolMakesSpec)

/-- ITS FALSE NEIGHBOUR: 'it returns false'. Refute it at one input. -/
def poolMakesWrong : ChangeSpec := { name := "poolMakes", fn := fun _ => fun
  | [d1, d2] => { results := [.lit (.bool false)], args := [d1, d2] }
  | _ => none }
def PoolMakesWrongFalsely : Prop := poolMakesRow.holds Try.pinned (OpenSpec.ofChange poolMakesWrong)

/-- 'tendrillaw05.PoolWhole': WHATEVER THE INPUT: true; the input reads as it did. -/
def poolWholeSpec : ChangeSpec := { name := "poolWhole", fn := fun _ => fun
  | [d1, d2] => { results := [.lit (.bool true)], args := [d1, d2] }
  | _ => none }
def poolWholeRow : OpenClaim := { program := "ytcoiboghdmmdcaa", sum := "30bdc76ba8c6d188b0d7bef0d5a028e30aa5807bbdf680d255d3d2f6b5eb57b6", func := "tendril/tendrillaw05.PoolWhole", spec := "poolWhole", apart := false }
def PoolWholeSaid : Prop := poolWholeRow.holds Try.pinned (OpenSpec.ofChange poolWholeSpec)

/-- ITS FALSE NEIGHBOUR: 'it returns false'. Refute it at one input. -/
def poolWholeWrong : ChangeSpec := { name := "poolWhole", fn := fun _ => fun
  | [d1, d2] => { results := [.lit (.bool false)], args := [d1, d2] }
  | _ => none }
def PoolWholeWrongFalsely : Prop := poolWholeRow.holds Try.pinned (OpenSpec.ofChange poolWholeWrong)

/- THE SECOND FORM. 'bulk': how many values and letters a reading holds, each counted each time it is reached (what is shared counts as often as it is met; a slice's spare places count too). A statement '..UptoSaid' is the law's where the arguments, and the package variables that the reading takes, are together of bulk at most 1048576: NARROWER than '..Said'. Prove '..Said' where nothing that the law and all that it calls make is longer than what came in: it says more and counts as full. Else prove '..UptoSaid'. A law counts once. -/
mutual
def uptoBulk {H : Type} : DataW H → Nat
  | .lit (.string bytes) => bytes.length + 1
  | .lit _ => 1
  | .nil => 1
  | .ptr d => uptoBulk d + 1
  | .slice elems spare => uptoBulkAll elems + uptoBulkAll spare + 1
  | .agg parts => uptoBulkAll parts + 1
  | .iface _ d => uptoBulk d + 1
  | .map entries => uptoBulkEntries entries + 1
  | .held _ => 1
def uptoBulkAll {H : Type} : List (DataW H) → Nat
  | [] => 0
  | d :: r => uptoBulk d + uptoBulkAll r
def uptoBulkEntries {H : Type} : List (Lit × DataW H) → Nat
  | [] => 0
  | x :: r => uptoBulkEntry x + uptoBulkEntries r
def uptoBulkEntry {H : Type} : Lit × DataW H → Nat
  | (.string bytes, d) => bytes.length + uptoBulk d + 1
  | (_, d) => uptoBulk d + 1
 end
def uptoSmall : (H : Type) → List (DataW H) → Bool := fun _ ds => decide (uptoBulkAll ds ≤ 1048576)
def OpenSpec.upto (s : _root_.Go.ChangeSpec) : _root_.Go.OpenSpec := { _root_.Go.OpenSpec.ofChange s with cond := some uptoSmall }

/-- 'tendrillaw05.PoolDoes', WHERE WHAT IT READS IS OF BULK AT MOST 1048576: true; the input reads as it did. -/
def poolDoesUptoRow : OpenClaim := { program := "ytcoiboghdmmdcaa", sum := "30bdc76ba8c6d188b0d7bef0d5a028e30aa5807bbdf680d255d3d2f6b5eb57b6", func := "tendril/tendrillaw05.PoolDoes", spec := "poolDoes", apart := false, narrowed := true }
def PoolDoesUptoSaid : Prop := poolDoesUptoRow.holds Try.pinned (OpenSpec.upto poolDoesSpec)

/-- 'tendrillaw05.PoolOnce', WHERE WHAT IT READS IS OF BULK AT MOST 1048576: true; the input reads as it did. -/
def poolOnceUptoRow : OpenClaim := { program := "ytcoiboghdmmdcaa", sum := "30bdc76ba8c6d188b0d7bef0d5a028e30aa5807bbdf680d255d3d2f6b5eb57b6", func := "tendril/tendrillaw05.PoolOnce", spec := "poolOnce", apart := false, narrowed := true }
def PoolOnceUptoSaid : Prop := poolOnceUptoRow.holds Try.pinned (OpenSpec.upto poolOnceSpec)

/-- 'tendrillaw05.PoolStale', WHERE WHAT IT READS IS OF BULK AT MOST 1048576: true; the input reads as it did. -/
def poolStaleUptoRow : OpenClaim := { program := "ytcoiboghdmmdcaa", sum := "30bdc76ba8c6d188b0d7bef0d5a028e30aa5807bbdf680d255d3d2f6b5eb57b6", func := "tendril/tendrillaw05.PoolStale", spec := "poolStale", apart := false, narrowed := true }
def PoolStaleUptoSaid : Prop := poolStaleUptoRow.holds Try.pinned (OpenSpec.upto poolStaleSpec)

/-- 'tendrillaw05.PoolReclaims', WHERE WHAT IT READS IS OF BULK AT MOST 1048576: true; the input reads as it did. -/
def poolReclaimsUptoRow : OpenClaim := { program := "ytcoiboghdmmdcaa", sum := "30bdc76ba8c6d188b0d7bef0d5a028e30aa5807bbdf680d255d3d2f6b5eb57b6", func := "tendril/tendrillaw05.PoolReclaims", spec := "poolReclaims", apart := false, narrowed := true }
def PoolReclaimsUptoSaid : Prop := poolReclaimsUptoRow.holds Try.pinned (OpenSpec.upto poolReclaimsSpec)

/-- 'tendrillaw05.PoolMakes', WHERE WHAT IT READS IS OF BULK AT MOST 1048576: true; the input reads as it did. -/
def poolMakesUptoRow : OpenClaim := { program := "ytcoiboghdmmdcaa", sum := "30bdc76ba8c6d188b0d7bef0d5a028e30aa5807bbdf680d255d3d2f6b5eb57b6", func := "tendril/tendrillaw05.PoolMakes", spec := "poolMakes", apart := false, narrowed := true }
def PoolMakesUptoSaid : Prop := poolMakesUptoRow.holds Try.pinned (OpenSpec.upto poolMakesSpec)

/-- 'tendrillaw05.PoolWhole', WHERE WHAT IT READS IS OF BULK AT MOST 1048576: true; the input reads as it did. -/
def poolWholeUptoRow : OpenClaim := { program := "ytcoiboghdmmdcaa", sum := "30bdc76ba8c6d188b0d7bef0d5a028e30aa5807bbdf680d255d3d2f6b5eb57b6", func := "tendril/tendrillaw05.PoolWhole", spec := "poolWhole", apart := false, narrowed := true }
def PoolWholeUptoSaid : Prop := poolWholeUptoRow.holds Try.pinned (OpenSpec.upto poolWholeSpec)

end Rows
end Go.Proofs.Ytcoiboghdmmdcaa
