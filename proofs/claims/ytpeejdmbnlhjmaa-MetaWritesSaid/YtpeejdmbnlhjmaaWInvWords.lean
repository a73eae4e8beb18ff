-- the words that this session's claims reach, struck down by its program wip/trim.py: the session's own text
import Derived.Test.YtpeejdmbnlhjmaaWInv
import Derived.Test.YtpeejdmbnlhjmaaWFootNe
namespace Go.Proofs.YtpeejdmbnlhjmaaW.PrintWords
open Go.RowKit
end Go.Proofs.YtpeejdmbnlhjmaaW.PrintWords
namespace Go.Proofs.YtpeejdmbnlhjmaaW.PrintLast
section
variable {ops : Array Oper} {a : Act} {o og : Oper} {g : Nat} {t : Tmp} {u : Bool}
end
end Go.Proofs.YtpeejdmbnlhjmaaW.PrintLast
