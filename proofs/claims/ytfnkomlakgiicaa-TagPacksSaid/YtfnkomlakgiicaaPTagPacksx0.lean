-- PRINTED BY print.sh 35421559b90ae4d0a3588c463048766b98c2df88dd9212a6774a882060cdf62d: not written by this session
import Derived.Test.YtfnkomlakgiicaaProg
import Derived.Below
import Derived.Deep.Draws
import Derived.Deep.AppendLies
import Derived.Maps.AppendAt
import Derived.OwnWalk
import Derived.Laws.BytesArg
import Derived.Laws.MakeOwn
import Derived.Laws.OwnMore
import Derived.Deep.OwnRows
import Derived.Tactics
import Derived.Lib.ConvBytes
import Derived.Laws.Slices
import Derived.WalkKit
import Derived.KernelRfl
import Derived.RowKit3
import Derived.Deep.LoopGhost
import Derived.Deep.QuietTactic
import Derived.BigQuiet
import Derived.WideLaws
import Derived.Deep.DeepCutAuto
import Derived.Deep.CutBlock
import Derived.Deep.RegionHeld3
import Derived.Laws.Rows
import Derived.Lib.AppendStr
import Derived.ArgAppend
import Derived.Laws.IdiomCopy
import Derived.OrdersHeld
import Derived.Laws.BitsLemmas
import Derived.RowKit
import Derived.Test.YtfnkomlakgiicaaWWords
import Derived.Test.YtfnkomlakgiicaaWLast
import Derived.Test.YtfnkomlakgiicaaWTab
import Derived.Test.YtfnkomlakgiicaaWFour
import Derived.Test.YtfnkomlakgiicaaWQPut
import Derived.Test.YtfnkomlakgiicaaWApart
import Derived.Test.YtfnkomlakgiicaaWArr
import Derived.Test.YtfnkomlakgiicaaWZeros
import Derived.Test.YtfnkomlakgiicaaWFoot
import Derived.Test.YtfnkomlakgiicaaWKept
import Derived.Test.YtfnkomlakgiicaaWShare
import Derived.Test.YtfnkomlakgiicaaWN
import Derived.Test.YtfnkomlakgiicaaWFootNe
import Derived.Test.YtfnkomlakgiicaaWAt
import Derived.Test.YtfnkomlakgiicaaWEqStruct
import Derived.Test.YtfnkomlakgiicaaWRepsOne
import Derived.Test.YtfnkomlakgiicaaWInv
import Derived.Test.YtfnkomlakgiicaaWInvWords
import Derived.Test.YtfnkomlakgiicaaWGuard
import Derived.Test.YtfnkomlakgiicaaWNEv
import Derived.Test.YtfnkomlakgiicaaWMore
namespace Go.Proofs.Ytfnkomlakgiicaa.PTagPacks
open Go.RowKit Go.Proofs.YtfnkomlakgiicaaW.PrintWords Go.Proofs.YtfnkomlakgiicaaW.PrintLast Go.Proofs.YtfnkomlakgiicaaW.PrintMore
attribute [local go_sem] max2_int min2_int max_two min_two max_three min_three max_four min_four   -- for this text's walks alone
set_option linter.unusedVariables false
set_option linter.unusedSimpArgs false



def errW : Option Int → Value
  | none => .nilIface
  | some c => .iface 0 (.int .i64 c)
theorem errW_none : errW none = .nilIface := rfl
theorem errW_some (c : Int) : errW (some c) = .iface 0 (.int .i64 c) := rfl

-- the values' own types

end Go.Proofs.Ytfnkomlakgiicaa.PTagPacks
