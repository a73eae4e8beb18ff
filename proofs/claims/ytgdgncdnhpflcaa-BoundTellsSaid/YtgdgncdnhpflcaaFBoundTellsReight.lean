import Derived.Test.YtgdgncdnhpflcaaPBoundTellsx6
import Derived.Test.YtgdgncdnhpflcaaLEv
import Derived.Test.YtgdgncdnhpflcaaLBits
import Derived.Test.YtgdgncdnhpflcaaFBoundTellsRbits
import Derived.Test.YtgdgncdnhpflcaaFBoundTellsRgo
namespace Go.Proofs.Ytgdgncdnhpflcaa.FBoundTells
open Go.RowKit Go.Proofs.YtgdgncdnhpflcaaW.PrintWords Go.Proofs.YtgdgncdnhpflcaaW.PrintLast Go.Proofs.Ytgdgncdnhpflcaa.PBoundTells Go.Proofs.Ytgdgncdnhpflcaa.L
set_option linter.unusedVariables false
set_option linter.unusedSimpArgs false
theorem reight_ev (l : List Int) (hl : l.length ≤ 1000000000) (hr : ∀ x ∈ l, 0 ≤ x ∧ x ≤ 255) : Ev (fun k => serinetteref04_Eight.f k 0 l) (crc8 l) := by
  unfold serinetteref04_Eight.f
  refine evB (rbits_ev l hl hr) ?_
  have hb := bitsOf_length l
  have hc := crc8_rng l
  rw [wr 0 (by omega)]
  refine evB (rgo_ev 0 (bitsOf l) 8 7 (by omega) (by decide) (by omega) (by decide)) ?_
  refine evR (Ev.now _) ?_
  show crc8 l % 256 = crc8 l
  omega
end Go.Proofs.Ytgdgncdnhpflcaa.FBoundTells
