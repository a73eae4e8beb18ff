-- written by this session's program wip/reprint.sh (a turned copy of the kit's print): the session's own text
import Derived.Test.YtdacblackoaphaaProg
import Derived.Below
import Derived.Deep.Draws
import Derived.Deep.AppendLies
import Derived.Maps.AppendAt
import Derived.OwnWalk
import Derived.Laws.BytesArg
import Derived.Laws.MakeOwn
import Derived.Laws.OwnMore
import Derived.Deep.OwnRows
import Derived.Tactics
import Derived.Lib.ConvBytes
import Derived.Laws.Slices
import Derived.WalkKit
import Derived.KernelRfl
import Derived.RowKit3
import Derived.Deep.LoopGhost
import Derived.Deep.QuietTactic
import Derived.BigQuiet
import Derived.WideLaws
import Derived.Deep.DeepCutAuto
import Derived.Deep.CutBlock
import Derived.Deep.RegionHeld3
import Derived.Laws.Rows
import Derived.Lib.AppendStr
import Derived.ArgAppend
import Derived.Laws.IdiomCopy
import Derived.OrdersHeld
import Derived.Laws.BitsLemmas
import Derived.RowKit
import Derived.Test.YtdacblackoaphaaHconv
import Derived.Test.YtdacblackoaphaaWWords
import Derived.Test.YtdacblackoaphaaWLast
import Derived.Test.YtdacblackoaphaaWTab
import Derived.Test.YtdacblackoaphaaWFour
import Derived.Test.YtdacblackoaphaaWQPut
import Derived.Test.YtdacblackoaphaaWApart
import Derived.Test.YtdacblackoaphaaWArr
import Derived.Test.YtdacblackoaphaaWZeros
import Derived.Test.YtdacblackoaphaaWFoot
import Derived.Test.YtdacblackoaphaaWKept
import Derived.Test.YtdacblackoaphaaWShare
import Derived.Test.YtdacblackoaphaaWN
import Derived.Test.YtdacblackoaphaaWFootNe
import Derived.Test.YtdacblackoaphaaWAt
import Derived.Test.YtdacblackoaphaaWEqStruct
import Derived.Test.YtdacblackoaphaaWRepsOne
import Derived.Test.YtdacblackoaphaaWInv
import Derived.Test.YtdacblackoaphaaWInvWords
import Derived.Test.YtdacblackoaphaaWGuard
import Derived.Test.YtdacblackoaphaaWNEv
import Derived.Test.YtdacblackoaphaaWMore
namespace Go.Proofs.Ytdacblackoaphaa.PNumberRunes
open Go.RowKit Go.Proofs.YtdacblackoaphaaW.PrintWords Go.Proofs.YtdacblackoaphaaW.PrintLast Go.Proofs.YtdacblackoaphaaW.PrintMore Go.Proofs.Ytdacblackoaphaa.H
attribute [local go_sem] max2_int min2_int max_two min_two max_three min_three max_four min_four   -- for this text's walks alone
set_option linter.unusedVariables false
set_option linter.unusedSimpArgs false



def errW : Option Int → Value
  | none => .nilIface
  | some c => .iface 0 (.int .i64 c)
theorem errW_none : errW none = .nilIface := rfl
theorem errW_some (c : Int) : errW (some c) = .iface 0 (.int .i64 c) := rfl

theorem info5 : (Try.prog.info? 5).map (fun i => (i.zero, i.size, i.bytes)) = some (some (.int .u8 0), 1, 1) := by kernel_rfl
-- the values' own types

end Go.Proofs.Ytdacblackoaphaa.PNumberRunes
