/-
  No cell of these rows narrows 'for every input' (looked for: loops, veiled, ifaces, maps, wideKeys, modest, calm, conditions, laid).
  DERIVED. THE GIVEN ROWS OF THIS SEAT. 5 by the template 'for every input the law returns true; each argument reads behind the call as it read before'; 0 by the template 'total and deterministic' (their statements: YthnbleblmpnfhaaTotals.lean).
  GIVEN WITH THE SEED: the statements are not yours to turn. If you find one false, say at which input.
  Laid BY PROGRAM, IN A SANDBOX (cutbox-rows.mjs): the forced cells as the released guide's own fill.sh prints them over the translation 9518283e0751659c… (all of the seat's roots in one cut). By AI agents, Wed Nov 11 2026. No macro, syntax, notation, axiom, sorry.
-/
import Derived.Test.YthnbleblmpnfhaaChecked
import GoSem.Claim
import GoSem.ClaimJoined
import GoSem.ClaimMapViews
import Derived.JoinedTies
import Derived.KernelRfl
namespace Go.Proofs.Ythnbleblmpnfhaa
/- THE CELL 'sum', in the pinned program and in every row, IS THE sha256 OF THE DUMP (.gsa) THAT YthnbleblmpnfhaaProg.lean LOADS. Nothing in Lean hashes anything: it is a label: what it is worth is what the hold of that sum in a sandbox is worth. -/
noncomputable def Try.pinned : Pinned := { name := "ythnbleblmpnfhaa", sum := "9518283e0751659cdf97559a779f025eaa0dae8d5d59cbbc4bcc286a016be283", checked := Try.checked }
namespace Rows
def none {H : Type} : Left H := { results := [], args := [] }

/-- 'tendrillaw14.ChainLooks': WHATEVER THE INPUT: true; the input reads as it did. -/
def chainLooksSpec : ChangeSpec := { name := "chainLooks", fn := fun _ => fun
  | [d1, d2, d3, d4, d5] => { results := [.lit (.bool true)], args := [d1, d2, d3, d4, d5] }
  | _ => none }
def chainLooksRow : OpenClaim := { program := "ythnbleblmpnfhaa", sum := "9518283e0751659cdf97559a779f025eaa0dae8d5d59cbbc4bcc286a016be283", func := "tendril/tendrillaw14.ChainLooks", spec := "chainLooks", unfollowed := true, recurses := true, apart := false }
def ChainLooksSaid : Prop := chainLooksRow.holds Try.pinned (OpenSpec.ofChange chainLooksSpec)

/-- ITS FALSE NEIGHBOUR: 'it returns false'. Refute it at one input. -/
def chainLooksWrong : ChangeSpec := { name := "chainLooks", fn := fun _ => fun
  | [d1, d2, d3, d4, d5] => { results := [.lit (.bool false)], args := [d1, d2, d3, d4, d5] }
  | _ => none }
def ChainLooksWrongFalsely : Prop := chainLooksRow.holds Try.pinned (OpenSpec.ofChange chainLooksWrong)

/-- 'tendrillaw14.ChainRing': WHATEVER THE INPUT: true; the input reads as it did. -/
def chainRingSpec : ChangeSpec := { name := "chainRing", fn := fun _ => fun
  | [d1, d2, d3, d4, d5] => { results := [.lit (.bool true)], args := [d1, d2, d3, d4, d5] }
  | _ => none }
def chainRingRow : OpenClaim := { program := "ythnbleblmpnfhaa", sum := "9518283e0751659cdf97559a779f025eaa0dae8d5d59cbbc4bcc286a016be283", func := "tendril/tendrillaw14.ChainRing", spec := "chainRing", unfollowed := true, recurses := true, apart := false }
def ChainRingSaid : Prop := chainRingRow.holds Try.pinned (OpenSpec.ofChange chainRingSpec)

/-- ITS FALSE NEIGHBOUR: 'it returns false'. Refute it at one input. -/
def chainRingWrong : ChangeSpec := { name := "chainRing", fn := fun _ => fun
  | [d1, d2, d3, d4, d5] => { results := [.lit (.bool false)], args := [d1, d2, d3, d4, d5] }
  | _ => none }
def ChainRingWrongFalsely : Prop := chainRingRow.holds Try.pinned (OpenSpec.ofChange chainRingWrong)

/-- 'tendrillaw14.ChainPuts': WHATEVER THE INPUT: true; the input reads as it did. -/
def chainPutsSpec : ChangeSpec := { name := "chainPuts", fn := fun _ => fun
  | [d1, d2, d3, d4, d5, d6] => { results := [.lit (.bool true)], args := [d1, d2, d3, d4, d5, d6] }
  | _ => none }
def chainPutsRow : OpenClaim := { program := "ythnbleblmpnfhaa", sum := "9518283e0751659cdf97559a779f025eaa0dae8d5d59cbbc4bcc286a016be283", func := "tendril/tendrillaw14.ChainPuts", spec := "chainPuts", unfollowed := true, recurses := true, apart := false }
def ChainPutsSaid : Prop := chainPutsRow.holds Try.pinned (OpenSpec.ofChange chainPutsSpec)

/-- ITS FALSE NEIGHBOUR: 'it returns false'. Refute it at one input. -/
def chainPutsWrong : ChangeSpec := { name := "chainPuts", fn := fun _ => fun
  | [d1, d2, d3, d4, d5, d6] => { results := [.lit (.bool false)], args := [d1, d2, d3, d4, d5, d6] }
  | _ => none }
def ChainPutsWrongFalsely : Prop := chainPutsRow.holds Try.pinned (OpenSpec.ofChange chainPutsWrong)

/-- 'tendrillaw14.ChainBack': WHATEVER THE INPUT: true; the input reads as it did. -/
def chainBackSpec : ChangeSpec := { name := "chainBack", fn := fun _ => fun
  | [d1, d2, d3, d4, d5, d6] => { results := [.lit (.bool true)], args := [d1, d2, d3, d4, d5, d6] }
  | _ => none }
def chainBackRow : OpenClaim := { program := "ythnbleblmpnfhaa", sum := "9518283e0751659cdf97559a779f025eaa0dae8d5d59cbbc4bcc286a016be283", func := "tendril/tendrillaw14.ChainBack", spec := "chainBack", unfollowed := true, recurses := true, apart := false }
def ChainBackSaid : Prop := chainBackRow.holds Try.pinned (OpenSpec.ofChange chainBackSpec)

/-- ITS FALSE NEIGHBOUR: 'it returns false'. Refute it at one input. -/
def chainBackWrong : ChangeSpec := { name := "chainBack", fn := fun _ => fun
  | [d1, d2, d3, d4, d5, d6] => { results := [.lit (.bool false)], args := [d1, d2, d3, d4, d5, d6] }
  | _ => none }
def ChainBackWrongFalsely : Prop := chainBackRow.holds Try.pinned (OpenSpec.ofChange chainBackWrong)

/-- 'tendrillaw14.ChainOut': WHATEVER THE INPUT: true; the input reads as it did. -/
def chainOutSpec : ChangeSpec := { name := "chainOut", fn := fun _ => fun
  | [d1, d2, d3, d4, d5, d6] => { results := [.lit (.bool true)], args := [d1, d2, d3, d4, d5, d6] }
  | _ => none }
def chainOutRow : OpenClaim := { program := "ythnbleblmpnfhaa", sum := "9518283e0751659cdf97559a779f025eaa0dae8d5d59cbbc4bcc286a016be283", func := "tendril/tendrillaw14.ChainOut", spec := "chainOut", unfollowed := true, recurses := true, apart := false }
def ChainOutSaid : Prop := chainOutRow.holds Try.pinned (OpenSpec.ofChange chainOutSpec)

/-- ITS FALSE NEIGHBOUR: 'it returns false'. Refute it at one input. -/
def chainOutWrong : ChangeSpec := { name := "chainOut", fn := fun _ => fun
  | [d1, d2, d3, d4, d5, d6] => { results := [.lit (.bool false)], args := [d1, d2, d3, d4, d5, d6] }
  | _ => none }
def ChainOutWrongFalsely : Prop := chainOutRow.holds Try.pinned (OpenSpec.ofChange chainOutWrong)

/- THE SECOND FORM. 'bulk': how many values and letters a reading holds, each counted each time it is reached (what is shared counts as often as it is met; a slice's spare places count too). A statement '..UptoSaid' is the law's where the arguments, and the package variables that the reading takes, are together of bulk at most 1048576: NARROWER than '..Said'. Prove '..Said' where nothing that the law and all that it calls make is longer than what came in: it says more and counts as full. Else prove '..UptoSaid'. A law counts once. -/
mutual
def uptoBulk {H : Type} : DataW H → Nat
  | .lit (.string bytes) => bytes.length + 1
  | .lit _ => 1
  | .nil => 1
  | .ptr d => uptoBulk d + 1
  | .slice elems spare => uptoBulkAll elems + uptoBulkAll spare + 1
  | .agg parts => uptoBulkAll parts + 1
  | .iface _ d => uptoBulk d + 1
  | .map entries => uptoBulkEntries entries + 1
  | .held _ => 1
def uptoBulkAll {H : Type} : List (DataW H) → Nat
  | [] => 0
  | d :: r => uptoBulk d + uptoBulkAll r
def uptoBulkEntries {H : Type} : List (Lit × DataW H) → Nat
  | [] => 0
  | x :: r => uptoBulkEntry x + uptoBulkEntries r
def uptoBulkEntry {H : Type} : Lit × DataW H → Nat
  | (.string bytes, d) => bytes.length + uptoBulk d + 1
  | (_, d) => uptoBulk d + 1
 end
def uptoSmall : (H : Type) → List (DataW H) → Bool := fun _ ds => decide (uptoBulkAll ds ≤ 1048576)
def OpenSpec.upto (s : _root_.Go.ChangeSpec) : _root_.Go.OpenSpec := { _root_.Go.OpenSpec.ofChange s with cond := some uptoSmall }

/-- 'tendrillaw14.ChainLooks', WHERE WHAT IT READS IS OF BULK AT MOST 1048576: true; the input reads as it did. -/
def chainLooksUptoRow : OpenClaim := { program := "ythnbleblmpnfhaa", sum := "9518283e0751659cdf97559a779f025eaa0dae8d5d59cbbc4bcc286a016be283", func := "tendril/tendrillaw14.ChainLooks", spec := "chainLooks", unfollowed := true, recurses := true, apart := false, narrowed := true }
def ChainLooksUptoSaid : Prop := chainLooksUptoRow.holds Try.pinned (OpenSpec.upto chainLooksSpec)

/-- 'tendrillaw14.ChainRing', WHERE WHAT IT READS IS OF BULK AT MOST 1048576: true; the input reads as it did. -/
def chainRingUptoRow : OpenClaim := { program := "ythnbleblmpnfhaa", sum := "9518283e0751659cdf97559a779f025eaa0dae8d5d59cbbc4bcc286a016be283", func := "tendril/tendrillaw14.ChainRing", spec := "chainRing", unfollowed := true, recurses := true, apart := false, narrowed := true }
def ChainRingUptoSaid : Prop := chainRingUptoRow.holds Try.pinned (OpenSpec.upto chainRingSpec)

/-- 'tendrillaw14.ChainPuts', WHERE WHAT IT READS IS OF BULK AT MOST 1048576: true; the input reads as it did. -/
def chainPutsUptoRow : OpenClaim := { program := "ythnbleblmpnfhaa", sum := "9518283e0751659cdf97559a779f025eaa0dae8d5d59cbbc4bcc286a016be283", func := "tendril/tendrillaw14.ChainPuts", spec := "chainPuts", unfollowed := true, recurses := true, apart := false, narrowed := true }
def ChainPutsUptoSaid : Prop := chainPutsUptoRow.holds Try.pinned (OpenSpec.upto chainPutsSpec)

/-- 'tendrillaw14.ChainBack', WHERE WHAT IT READS IS OF BULK AT MOST 1048576: true; the input reads as it did. -/
def chainBackUptoRow : OpenClaim := { program := "ythnbleblmpnfhaa", sum := "9518283e0751659cdf97559a779f025eaa0dae8d5d59cbbc4bcc286a016be283", func := "tendril/tendrillaw14.ChainBack", spec := "chainBack", unfollowed := true, recurses := true, apart := false, narrowed := true }
def ChainBackUptoSaid : Prop := chainBackUptoRow.holds Try.pinned (OpenSpec.upto chainBackSpec)

/-- 'tendrillaw14.ChainOut', WHERE WHAT IT READS IS OF BULK AT MOST 1048576: true; the input reads as it did. -/
def chainOutUptoRow : OpenClaim := { program := "ythnbleblmpnfhaa", sum := "9518283e0751659cdf97559a779f025eaa0dae8d5d59cbbc4bcc286a016be283", func := "tendril/tendrillaw14.ChainOut", spec := "chainOut", unfollowed := true, recurses := true, apart := false, narrowed := true }
def ChainOutUptoSaid : Prop := chainOutUptoRow.holds Try.pinned (OpenSpec.upto chainOutSpec)

end Rows
end Go.Proofs.Ythnbleblmpnfhaa
