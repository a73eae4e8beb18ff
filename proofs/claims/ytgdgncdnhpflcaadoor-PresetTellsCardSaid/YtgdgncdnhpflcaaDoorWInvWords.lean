-- the words that this session's claims reach, struck down by its program wip/trim.py: the session's own text
import Derived.Test.YtgdgncdnhpflcaaDoorWInv
import Derived.Test.YtgdgncdnhpflcaaDoorWFootNe
namespace Go.Proofs.YtgdgncdnhpflcaaDoorW.PrintWords
open Go.RowKit
end Go.Proofs.YtgdgncdnhpflcaaDoorW.PrintWords
namespace Go.Proofs.YtgdgncdnhpflcaaDoorW.PrintLast
section
variable {ops : Array Oper} {a : Act} {o og : Oper} {g : Nat} {t : Tmp} {u : Bool}
end
end Go.Proofs.YtgdgncdnhpflcaaDoorW.PrintLast
