/-
  No cell of these rows narrows 'for every input' (looked for: loops, veiled, ifaces, maps, wideKeys, modest, calm, conditions, laid).
  DERIVED. THE GIVEN ROWS OF THIS SEAT. 6 by the template 'for every input the law returns true; each argument reads behind the call as it read before'; 0 by the template 'total and deterministic' (their statements: YtcoiboghdmmdcabTotals.lean).
  GIVEN WITH THE SEED: the statements are not yours to turn. If you find one false, say at which input.
  Laid BY PROGRAM, IN A SANDBOX (cutbox-rows.mjs): the forced cells as the released guide's own fill.sh prints them over the translation 174b1611e09c6aed… (all of the seat's roots in one cut). By AI agents, Wed Nov 11 2026. No macro, syntax, notation, axiom, sorry.
-/
import Derived.Test.YtcoiboghdmmdcabChecked
import GoSem.Claim
import GoSem.ClaimJoined
import GoSem.ClaimMapViews
import Derived.JoinedTies
import Derived.KernelRfl
namespace Go.Proofs.Ytcoiboghdmmdcab
/- THE CELL 'sum', in the pinned program and in every row, IS THE sha256 OF THE DUMP (.gsa) THAT YtcoiboghdmmdcabProg.lean LOADS. Nothing in Lean hashes anything: it is a label: what it is worth is what the hold of that sum in a sandbox is worth. -/
noncomputable def Try.pinned : Pinned := { name := "ytcoiboghdmmdcab", sum := "174b1611e09c6aed6dd7f4ef2af7b39ed43ff151ad7799280f645abb7fc38d4d", checked := Try.checked }
namespace Rows
def none {H : Type} : Left H := { results := [], args := [] }

/-- 'tendrillaw06.EraStuck': WHATEVER THE INPUT: true; the input reads as it did. -/
def eraStuckSpec : ChangeSpec := { name := "eraStuck", fn := fun _ => fun
  | [d1, d2] => { results := [.lit (.bool true)], args := [d1, d2] }
  | _ => none }
def eraStuckRow : OpenClaim := { program := "ytcoiboghdmmdcab", sum := "174b1611e09c6aed6dd7f4ef2af7b39ed43ff151ad7799280f645abb7fc38d4d", func := "tendril/tendrillaw06.EraStuck", spec := "eraStuck", unfollowed := true, recurses := true, apart := false }
def EraStuckSaid : Prop := eraStuckRow.holds Try.pinned (OpenSpec.ofChange eraStuckSpec)

/-- ITS FALSE NEIGHBOUR: 'it returns false'. Refute it at one input. -/
def eraStuckWrong : ChangeSpec := { name := "eraStuck", fn := fun _ => fun
  | [d1, d2] => { results := [.lit (.bool false)], args := [d1, d2] }
  | _ => none }
def EraStuckWrongFalsely : Prop := eraStuckRow.holds Try.pinned (OpenSpec.ofChange eraStuckWrong)

/-- 'tendrillaw06.EraMakes': WHATEVER THE INPUT: true; the input reads as it did. -/
def eraMakesSpec : ChangeSpec := { name := "eraMakes", fn := fun _ => fun
  | [d1, d2] => { results := [.lit (.bool true)], args := [d1, d2] }
  | _ => none }
def eraMakesRow : OpenClaim := { program := "ytcoiboghdmmdcab", sum := "174b1611e09c6aed6dd7f4ef2af7b39ed43ff151ad7799280f645abb7fc38d4d", func := "tendril/tendrillaw06.EraMakes", spec := "eraMakes", unfollowed := true, recurses := true, apart := false }
def EraMakesSaid : Prop := eraMakesRow.holds Try.pinned (OpenSpec.ofChange eraMakesSpec)

/-- ITS FALSE NEIGHBOUR: 'it returns false'. Refute it at one input. -/
def eraMakesWrong : ChangeSpec := { name := "eraMakes", fn := fun _ => fun
  | [d1, d2] => { results := [.lit (.bool false)], args := [d1, d2] }
  | _ => none }
def EraMakesWrongFalsely : Prop := eraMakesRow.holds Try.pinned (OpenSpec.ofChange eraMakesWrong)

/-- 'tendrillaw06.EraGoes': WHATEVER THE INPUT: true; the input reads as it did. -/
def eraGoesSpec : ChangeSpec := { name := "eraGoes", fn := fun _ => fun
  | [d] => { results := [.lit (.bool true)], args := [d] }
  | _ => none }
def eraGoesRow : OpenClaim := { program := "ytcoiboghdmmdcab", sum := "174b1611e09c6aed6dd7f4ef2af7b39ed43ff151ad7799280f645abb7fc38d4d", func := "tendril/tendrillaw06.EraGoes", spec := "eraGoes", unfollowed := true, recurses := true, apart := false }
def EraGoesSaid : Prop := eraGoesRow.holds Try.pinned (OpenSpec.ofChange eraGoesSpec)

/-- ITS FALSE NEIGHBOUR: 'it returns false'. Refute it at one input. -/
def eraGoesWrong : ChangeSpec := { name := "eraGoes", fn := fun _ => fun
  | [d] => { results := [.lit (.bool false)], args := [d] }
  | _ => none }
def EraGoesWrongFalsely : Prop := eraGoesRow.holds Try.pinned (OpenSpec.ofChange eraGoesWrong)

/-- 'tendrillaw06.EraDoes': WHATEVER THE INPUT: true; the input reads as it did. -/
def eraDoesSpec : ChangeSpec := { name := "eraDoes", fn := fun _ => fun
  | [d1, d2] => { results := [.lit (.bool true)], args := [d1, d2] }
  | _ => none }
def eraDoesRow : OpenClaim := { program := "ytcoiboghdmmdcab", sum := "174b1611e09c6aed6dd7f4ef2af7b39ed43ff151ad7799280f645abb7fc38d4d", func := "tendril/tendrillaw06.EraDoes", spec := "eraDoes", unfollowed := true, recurses := true, apart := false }
def EraDoesSaid : Prop := eraDoesRow.holds Try.pinned (OpenSpec.ofChange eraDoesSpec)

/-- ITS FALSE NEIGHBOUR: 'it returns false'. Refute it at one input. -/
def eraDoesWrong : ChangeSpec := { name := "eraDoes", fn := fun _ => fun
  | [d1, d2] => { results := [.lit (.bool false)], args := [d1, d2] }
  | _ => none }
def EraDoesWrongFalsely : Prop := eraDoesRow.holds Try.pinned (OpenSpec.ofChange eraDoesWrong)

/-- 'tendrillaw06.EraApart': WHATEVER THE INPUT: true; the input reads as it did. -/
def eraApartSpec : ChangeSpec := { name := "eraApart", fn := fun _ => fun
  | [d1, d2] => { results := [.lit (.bool true)], args := [d1, d2] }
  | _ => none }
def eraApartRow : OpenClaim := { program := "ytcoiboghdmmdcab", sum := "174b1611e09c6aed6dd7f4ef2af7b39ed43ff151ad7799280f645abb7fc38d4d", func := "tendril/tendrillaw06.EraApart", spec := "eraApart", unfollowed := true, recurses := true, apart := false }
def EraApartSaid : Prop := eraApartRow.holds Try.pinned (OpenSpec.ofChange eraApartSpec)

/-- ITS FALSE NEIGHBOUR: 'it returns false'. Refute it at one input. -/
def eraApartWrong : ChangeSpec := { name := "eraApart", fn := fun _ => fun
  | [d1, d2] => { results := [.lit (.bool false)], args := [d1, d2] }
  | _ => none }
def EraApartWrongFalsely : Prop := eraApartRow.holds Try.pinned (OpenSpec.ofChange eraApartWrong)

/-- 'tendrillaw06.EraSafe': WHATEVER THE INPUT: true; the input reads as it did. -/
def eraSafeSpec : ChangeSpec := { name := "eraSafe", fn := fun _ => fun
  | [d1, d2] => { results := [.lit (.bool true)], args := [d1, d2] }
  | _ => none }
def eraSafeRow : OpenClaim := { program := "ytcoiboghdmmdcab", sum := "174b1611e09c6aed6dd7f4ef2af7b39ed43ff151ad7799280f645abb7fc38d4d", func := "tendril/tendrillaw06.EraSafe", spec := "eraSafe", unfollowed := true, recurses := true, apart := false }
def EraSafeSaid : Prop := eraSafeRow.holds Try.pinned (OpenSpec.ofChange eraSafeSpec)

/-- ITS FALSE NEIGHBOUR: 'it returns false'. Refute it at one input. -/
def eraSafeWrong : ChangeSpec := { name := "eraSafe", fn := fun _ => fun
  | [d1, d2] => { results := [.lit (.bool false)], args := [d1, d2] }
  | _ => none }
def EraSafeWrongFalsely : Prop := eraSafeRow.holds Try.pinned (OpenSpec.ofChange eraSafeWrong)

/- THE SECOND FORM. 'bulk': how many values and letters a reading holds, each counted each time it is reached (what is shared counts as often as it is met; a slice's spare places count too). A statement '..UptoSaid' is the law's where the arguments, and the package variables that the reading takes, are together of bulk at most 1048576: NARROWER than '..Said'. Prove '..Said' where nothing that the law and all that it calls make is longer than what came in: it says more and counts as full. Else prove '..UptoSaid'. A law counts once. -/
mutual
def uptoBulk {H : Type} : DataW H → Nat
  | .lit (.string bytes) => bytes.length + 1
  | .lit _ => 1
  | .nil => 1
  | .ptr d => uptoBulk d + 1
  | .slice elems spare => uptoBulkAll elems + uptoBulkAll spare + 1
  | .agg parts => uptoBulkAll parts + 1
  | .iface _ d => uptoBulk d + 1
  | .map entries => uptoBulkEntries entries + 1
  | .held _ => 1
def uptoBulkAll {H : Type} : List (DataW H) → Nat
  | [] => 0
  | d :: r => uptoBulk d + uptoBulkAll r
def uptoBulkEntries {H : Type} : List (Lit × DataW H) → Nat
  | [] => 0
  | x :: r => uptoBulkEntry x + uptoBulkEntries r
def uptoBulkEntry {H : Type} : Lit × DataW H → Nat
  | (.string bytes, d) => bytes.length + uptoBulk d + 1
  | (_, d) => uptoBulk d + 1
 end
def uptoSmall : (H : Type) → List (DataW H) → Bool := fun _ ds => decide (uptoBulkAll ds ≤ 1048576)
def OpenSpec.upto (s : _root_.Go.ChangeSpec) : _root_.Go.OpenSpec := { _root_.Go.OpenSpec.ofChange s with cond := some uptoSmall }

/-- 'tendrillaw06.EraStuck', WHERE WHAT IT READS IS OF BULK AT MOST 1048576: true; the input reads as it did. -/
def eraStuckUptoRow : OpenClaim := { program := "ytcoiboghdmmdcab", sum := "174b1611e09c6aed6dd7f4ef2af7b39ed43ff151ad7799280f645abb7fc38d4d", func := "tendril/tendrillaw06.EraStuck", spec := "eraStuck", unfollowed := true, recurses := true, apart := false, narrowed := true }
def EraStuckUptoSaid : Prop := eraStuckUptoRow.holds Try.pinned (OpenSpec.upto eraStuckSpec)

/-- 'tendrillaw06.EraMakes', WHERE WHAT IT READS IS OF BULK AT MOST 1048576: true; the input reads as it did. -/
def eraMakesUptoRow : OpenClaim := { program := "ytcoiboghdmmdcab", sum := "174b1611e09c6aed6dd7f4ef2af7b39ed43ff151ad7799280f645abb7fc38d4d", func := "tendril/tendrillaw06.EraMakes", spec := "eraMakes", unfollowed := true, recurses := true, apart := false, narrowed := true }
def EraMakesUptoSaid : Prop := eraMakesUptoRow.holds Try.pinned (OpenSpec.upto eraMakesSpec)

/-- 'tendrillaw06.EraGoes', WHERE WHAT IT READS IS OF BULK AT MOST 1048576: true; the input reads as it did. -/
def eraGoesUptoRow : OpenClaim := { program := "ytcoiboghdmmdcab", sum := "174b1611e09c6aed6dd7f4ef2af7b39ed43ff151ad7799280f645abb7fc38d4d", func := "tendril/tendrillaw06.EraGoes", spec := "eraGoes", unfollowed := true, recurses := true, apart := false, narrowed := true }
def EraGoesUptoSaid : Prop := eraGoesUptoRow.holds Try.pinned (OpenSpec.upto eraGoesSpec)

/-- 'tendrillaw06.EraDoes', WHERE WHAT IT READS IS OF BULK AT MOST 1048576: true; the input reads as it did. -/
def eraDoesUptoRow : OpenClaim := { program := "ytcoiboghdmmdcab", sum := "174b1611e09c6aed6dd7f4ef2af7b39ed43ff151ad7799280f645abb7fc38d4d", func := "tendril/tendrillaw06.EraDoes", spec := "eraDoes", unfollowed := true, recurses := true, apart := false, narrowed := true }
def EraDoesUptoSaid : Prop := eraDoesUptoRow.holds Try.pinned (OpenSpec.upto eraDoesSpec)

/-- 'tendrillaw06.EraApart', WHERE WHAT IT READS IS OF BULK AT MOST 1048576: true; the input reads as it did. -/
def eraApartUptoRow : OpenClaim := { program := "ytcoiboghdmmdcab", sum := "174b1611e09c6aed6dd7f4ef2af7b39ed43ff151ad7799280f645abb7fc38d4d", func := "tendril/tendrillaw06.EraApart", spec := "eraApart", unfollowed := true, recurses := true, apart := false, narrowed := true }
def EraApartUptoSaid : Prop := eraApartUptoRow.holds Try.pinned (OpenSpec.upto eraApartSpec)

/-- 'tendrillaw06.EraSafe', WHERE WHAT IT READS IS OF BULK AT MOST 1048576: true; the input reads as it did. -/
def eraSafeUptoRow : OpenClaim := { program := "ytcoiboghdmmdcab", sum := "174b1611e09c6aed6dd7f4ef2af7b39ed43ff151ad7799280f645abb7fc38d4d", func := "tendril/tendrillaw06.EraSafe", spec := "eraSafe", unfollowed := true, recurses := true, apart := false, narrowed := true }
def EraSafeUptoSaid : Prop := eraSafeUptoRow.holds Try.pinned (OpenSpec.upto eraSafeSpec)

end Rows
end Go.Proofs.Ytcoiboghdmmdcab
