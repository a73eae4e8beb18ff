-- written by this session's program wip/reprint.sh (a turned copy of the kit's print): the session's own text
import Derived.Test.YtbohlcccdcilkaaProg
import Derived.Below
import Derived.Deep.Draws
import Derived.Deep.AppendLies
import Derived.Maps.AppendAt
import Derived.OwnWalk
import Derived.Laws.BytesArg
import Derived.Laws.MakeOwn
import Derived.Laws.OwnMore
import Derived.Deep.OwnRows
import Derived.Tactics
import Derived.Lib.ConvBytes
import Derived.Laws.Slices
import Derived.WalkKit
import Derived.KernelRfl
import Derived.RowKit3
import Derived.Deep.LoopGhost
import Derived.Deep.QuietTactic
import Derived.BigQuiet
import Derived.WideLaws
import Derived.Deep.DeepCutAuto
import Derived.Deep.CutBlock
import Derived.Deep.RegionHeld3
import Derived.Laws.Rows
import Derived.Lib.AppendStr
import Derived.ArgAppend
import Derived.Laws.IdiomCopy
import Derived.OrdersHeld
import Derived.Laws.BitsLemmas
import Derived.RowKit
import Derived.Test.YtbohlcccdcilkaaHconv
import Derived.Test.YtbohlcccdcilkaaHpre
import Derived.Test.YtbohlcccdcilkaaHput
import Derived.Test.YtbohlcccdcilkaaHpre2
import Derived.Test.YtbohlcccdcilkaaHtake2
import Derived.Test.YtbohlcccdcilkaaWWords
import Derived.Test.YtbohlcccdcilkaaWLast
import Derived.Test.YtbohlcccdcilkaaWTab
import Derived.Test.YtbohlcccdcilkaaWFour
import Derived.Test.YtbohlcccdcilkaaWQPut
import Derived.Test.YtbohlcccdcilkaaWApart
import Derived.Test.YtbohlcccdcilkaaWArr
import Derived.Test.YtbohlcccdcilkaaWZeros
import Derived.Test.YtbohlcccdcilkaaWFoot
import Derived.Test.YtbohlcccdcilkaaWKept
import Derived.Test.YtbohlcccdcilkaaWShare
import Derived.Test.YtbohlcccdcilkaaWN
import Derived.Test.YtbohlcccdcilkaaWFootNe
import Derived.Test.YtbohlcccdcilkaaWAt
import Derived.Test.YtbohlcccdcilkaaWEqStruct
import Derived.Test.YtbohlcccdcilkaaWRepsOne
import Derived.Test.YtbohlcccdcilkaaWInv
import Derived.Test.YtbohlcccdcilkaaWInvWords
import Derived.Test.YtbohlcccdcilkaaWGuard
import Derived.Test.YtbohlcccdcilkaaWNEv
import Derived.Test.YtbohlcccdcilkaaWMore
namespace Go.Proofs.Ytbohlcccdcilkaa.PHeadCuts
open Go.RowKit Go.Proofs.YtbohlcccdcilkaaW.PrintWords Go.Proofs.YtbohlcccdcilkaaW.PrintLast Go.Proofs.YtbohlcccdcilkaaW.PrintMore Go.Proofs.Ytbohlcccdcilkaa.H
attribute [local go_sem] max2_int min2_int max_two min_two max_three min_three max_four min_four   -- for this text's walks alone
set_option linter.unusedVariables false
set_option linter.unusedSimpArgs false



def errW : Option Int → Value
  | none => .nilIface
  | some c => .iface 0 (.int .i64 c)
theorem errW_none : errW none = .nilIface := rfl
theorem errW_some (c : Int) : errW (some c) = .iface 0 (.int .i64 c) := rfl

theorem info5 : (Try.prog.info? 5).map (fun i => (i.zero, i.size, i.bytes)) = some (some (.int .u8 0), 1, 1) := by kernel_rfl
-- the values' own types

end Go.Proofs.Ytbohlcccdcilkaa.PHeadCuts
