-- the words that this session's claims reach, struck down by its program wip/trim.py: the session's own text
import Derived.Test.YtpeejdmbnlhjmaaWN
namespace Go.Proofs.YtpeejdmbnlhjmaaW.PrintWords
open Go.RowKit
namespace Kd
section
variable {α : Type} {d : Kd α} {W : World} {g n : Nat} {S ok : Nat → Prop} {A : Option Addr} {ad : Addr} {xs : List α}
end
end Kd
end Go.Proofs.YtpeejdmbnlhjmaaW.PrintWords
