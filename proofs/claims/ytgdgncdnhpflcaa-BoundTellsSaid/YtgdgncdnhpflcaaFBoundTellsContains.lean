import Derived.Test.YtgdgncdnhpflcaaPBoundTellsx6
import Derived.Test.YtgdgncdnhpflcaaLEv
import Derived.Test.YtgdgncdnhpflcaaFBoundTellsIndex
namespace Go.Proofs.Ytgdgncdnhpflcaa.FBoundTells
open Go.RowKit Go.Proofs.YtgdgncdnhpflcaaW.PrintWords Go.Proofs.YtgdgncdnhpflcaaW.PrintLast Go.Proofs.Ytgdgncdnhpflcaa.PBoundTells Go.Proofs.Ytgdgncdnhpflcaa.L
set_option linter.unusedVariables false
set_option linter.unusedSimpArgs false
theorem contains_ev (l : List Int) (a : Int) (hl : l.length ≤ 9223372036854775806) : Ev (fun k => slices_Contains_int_int.f k l a) (decide (a ∈ l)) := by
  unfold slices_Contains_int_int.f
  refine evB (index_ev l a hl) ?_
  refine evR (Ev.now _) ?_
  rw [decide_eq_decide]
  exact where_rng a l 0 (by omega)
end Go.Proofs.Ytgdgncdnhpflcaa.FBoundTells
