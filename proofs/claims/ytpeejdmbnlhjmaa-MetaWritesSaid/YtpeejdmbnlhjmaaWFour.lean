-- the words that this session's claims reach, struck down by its program wip/trim.py: the session's own text
import Derived.Test.YtpeejdmbnlhjmaaWTab
namespace Go.Proofs.YtpeejdmbnlhjmaaW.PrintLast
section
variable {P : Program} {ops : Array Oper} {Q : Exit → Act → World → Prop} {md : Region.Mode} {S : World → Prop} {ds : List Nat} {T : Bool × List (List Nat × List Nat)}
end
end Go.Proofs.YtpeejdmbnlhjmaaW.PrintLast
