-- the words that this session's claims reach, struck down by its program wip/trim.py: the session's own text
import Derived.Test.YtdacblackoaphaaWInv
import Derived.Test.YtdacblackoaphaaWFootNe
namespace Go.Proofs.YtdacblackoaphaaW.PrintWords
open Go.RowKit
end Go.Proofs.YtdacblackoaphaaW.PrintWords
namespace Go.Proofs.YtdacblackoaphaaW.PrintLast
section
variable {ops : Array Oper} {a : Act} {o og : Oper} {g : Nat} {t : Tmp} {u : Bool}
end
end Go.Proofs.YtdacblackoaphaaW.PrintLast
