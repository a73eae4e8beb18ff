-- the words that this session's claims reach, struck down by its program wip/trim.py: the session's own text
import Derived.Test.YtpeejdmbnlhjmaaWWords
import Derived.Laws.StructEq
namespace Go.Proofs.YtpeejdmbnlhjmaaW.PrintWords
open Go.RowKit
section
variable {P : Program} {d : Nat} {xs ys : Array Value} {f : Field} {fs : List Field} {a b : Value} {r s : Bool} {w : World}
end
end Go.Proofs.YtpeejdmbnlhjmaaW.PrintWords
