/- The chapter's example of metadata in the form in which the print calls functions. -/
import Derived.Test.YtpeejdmbnlhjmaaProg
import Derived.Below
import Derived.Deep.Draws
import Derived.Deep.AppendLies
import Derived.Maps.AppendAt
import Derived.OwnWalk
import Derived.Laws.BytesArg
import Derived.Laws.MakeOwn
import Derived.Laws.OwnMore
import Derived.Deep.OwnRows
import Derived.Tactics
import Derived.Lib.ConvBytes
import Derived.Laws.Slices
import Derived.WalkKit
import Derived.KernelRfl
import Derived.RowKit3
import Derived.Deep.LoopGhost
import Derived.Deep.QuietTactic
import Derived.BigQuiet
import Derived.WideLaws
import Derived.Deep.DeepCutAuto
import Derived.Deep.CutBlock
import Derived.Deep.RegionHeld3
import Derived.Laws.Rows
import Derived.Lib.AppendStr
import Derived.ArgAppend
import Derived.Laws.IdiomCopy
import Derived.OrdersHeld
import Derived.Laws.BitsLemmas
import Derived.RowKit
import Derived.Test.YtpeejdmbnlhjmaaWWords
import Derived.Test.YtpeejdmbnlhjmaaWLast
import Derived.Test.YtpeejdmbnlhjmaaWTab
import Derived.Test.YtpeejdmbnlhjmaaWFour
import Derived.Test.YtpeejdmbnlhjmaaWQPut
import Derived.Test.YtpeejdmbnlhjmaaWApart
import Derived.Test.YtpeejdmbnlhjmaaWArr
import Derived.Test.YtpeejdmbnlhjmaaWZeros
import Derived.Test.YtpeejdmbnlhjmaaWFoot
import Derived.Test.YtpeejdmbnlhjmaaWKept
import Derived.Test.YtpeejdmbnlhjmaaWShare
import Derived.Test.YtpeejdmbnlhjmaaWN
import Derived.Test.YtpeejdmbnlhjmaaWFootNe
import Derived.Test.YtpeejdmbnlhjmaaWAt
import Derived.Test.YtpeejdmbnlhjmaaWEqStruct
import Derived.Test.YtpeejdmbnlhjmaaWRepsOne
import Derived.Test.YtpeejdmbnlhjmaaWInv
import Derived.Test.YtpeejdmbnlhjmaaWInvWords
import Derived.Test.YtpeejdmbnlhjmaaWGuard
import Derived.Test.YtpeejdmbnlhjmaaWNEv
import Derived.Test.YtpeejdmbnlhjmaaWMore
import Derived.Test.YtpeejdmbnlhjmaaMawake
namespace Go.Proofs.Ytpeejdmbnlhjmaa.H
open Go.RowKit Go.Proofs.YtpeejdmbnlhjmaaW.PrintWords Go.Proofs.YtpeejdmbnlhjmaaW.PrintLast Go.Proofs.YtpeejdmbnlhjmaaW.PrintMore
attribute [local go_sem] max2_int min2_int max_two min_two max_three min_three max_four min_four   -- for this text's walks alone
set_option linter.unusedVariables false
set_option linter.unusedSimpArgs false
def serinettelaw18_awake.f : Option Bool := some true
theorem serinettelaw18_awake.calls (r : Bool) (w : World) (h : serinettelaw18_awake.f = some r) : Calls Try.prog 16 #[] w fun e w' => e = .returned (.bool r) ∧ Below w.heap.size w w' := by
  obtain rfl := Option.some.inj h
  exact awake18_calls w
end Go.Proofs.Ytpeejdmbnlhjmaa.H
