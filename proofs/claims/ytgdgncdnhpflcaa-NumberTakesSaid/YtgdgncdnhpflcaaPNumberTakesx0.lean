-- written by this session's program wip/reprint.sh (a turned copy of the kit's print): the session's own text
import Derived.Test.YtgdgncdnhpflcaaProg
import Derived.Below
import Derived.Deep.Draws
import Derived.Deep.AppendLies
import Derived.Maps.AppendAt
import Derived.OwnWalk
import Derived.Laws.BytesArg
import Derived.Laws.MakeOwn
import Derived.Laws.OwnMore
import Derived.Deep.OwnRows
import Derived.Tactics
import Derived.Lib.ConvBytes
import Derived.Laws.Slices
import Derived.WalkKit
import Derived.KernelRfl
import Derived.RowKit3
import Derived.Deep.LoopGhost
import Derived.Deep.QuietTactic
import Derived.BigQuiet
import Derived.WideLaws
import Derived.Deep.DeepCutAuto
import Derived.Deep.CutBlock
import Derived.Deep.RegionHeld3
import Derived.Laws.Rows
import Derived.Lib.AppendStr
import Derived.ArgAppend
import Derived.Laws.IdiomCopy
import Derived.OrdersHeld
import Derived.Laws.BitsLemmas
import Derived.RowKit
import Derived.Test.YtgdgncdnhpflcaaHconv
import Derived.Test.YtgdgncdnhpflcaaWWords
import Derived.Test.YtgdgncdnhpflcaaWLast
import Derived.Test.YtgdgncdnhpflcaaWTab
import Derived.Test.YtgdgncdnhpflcaaWFour
import Derived.Test.YtgdgncdnhpflcaaWQPut
import Derived.Test.YtgdgncdnhpflcaaWApart
import Derived.Test.YtgdgncdnhpflcaaWArr
import Derived.Test.YtgdgncdnhpflcaaWZeros
import Derived.Test.YtgdgncdnhpflcaaWFoot
import Derived.Test.YtgdgncdnhpflcaaWKept
import Derived.Test.YtgdgncdnhpflcaaWShare
import Derived.Test.YtgdgncdnhpflcaaWN
import Derived.Test.YtgdgncdnhpflcaaWFootNe
import Derived.Test.YtgdgncdnhpflcaaWAt
import Derived.Test.YtgdgncdnhpflcaaWEqStruct
import Derived.Test.YtgdgncdnhpflcaaWRepsOne
import Derived.Test.YtgdgncdnhpflcaaWInv
import Derived.Test.YtgdgncdnhpflcaaWInvWords
import Derived.Test.YtgdgncdnhpflcaaWGuard
import Derived.Test.YtgdgncdnhpflcaaWNEv
import Derived.Test.YtgdgncdnhpflcaaWMore
namespace Go.Proofs.Ytgdgncdnhpflcaa.PNumberTakes
open Go.RowKit Go.Proofs.YtgdgncdnhpflcaaW.PrintWords Go.Proofs.YtgdgncdnhpflcaaW.PrintLast Go.Proofs.YtgdgncdnhpflcaaW.PrintMore Go.Proofs.Ytgdgncdnhpflcaa.H
attribute [local go_sem] max2_int min2_int max_two min_two max_three min_three max_four min_four   -- for this text's walks alone
set_option linter.unusedVariables false
set_option linter.unusedSimpArgs false



def errW : Option Int → Value
  | none => .nilIface
  | some c => .iface 0 (.int .i64 c)
theorem errW_none : errW none = .nilIface := rfl
theorem errW_some (c : Int) : errW (some c) = .iface 0 (.int .i64 c) := rfl

theorem info5 : (Try.prog.info? 5).map (fun i => (i.zero, i.size, i.bytes)) = some (some (.int .u8 0), 1, 1) := by kernel_rfl
-- the values' own types

end Go.Proofs.Ytgdgncdnhpflcaa.PNumberTakes
