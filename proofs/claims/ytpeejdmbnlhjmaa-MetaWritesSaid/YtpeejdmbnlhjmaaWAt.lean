-- the words that this session's claims reach, struck down by its program wip/trim.py: the session's own text
import Derived.Test.YtpeejdmbnlhjmaaWFootNe
namespace Go.Proofs.YtpeejdmbnlhjmaaW.PrintWords
open Go.RowKit
section
variable {w w' u : World} {m B g : Nat} {o : Obj} {row : Option Nat} {S : Nat → Prop} {a : Addr} {v : Value}
end
namespace Kd
section
variable {α : Type} {d : Kd α} {e base n m : Nat} {ok : Nat → Prop} {w w' : World} {v : Value} {A : Option Addr} {xs : List α}
end
end Kd
end Go.Proofs.YtpeejdmbnlhjmaaW.PrintWords
