/- The statement BoundNumbers: one number more has its size more; so it is with numbers however great. For any number below 2^31. -/
import Derived.Test.YtgdgncdnhpflcaaPBoundNumbersx2
import Derived.Test.YtgdgncdnhpflcaaLEv
import Derived.Test.YtgdgncdnhpflcaaLNum
import Derived.Test.YtgdgncdnhpflcaaFBoundNumbersSize
import Derived.Test.YtgdgncdnhpflcaaFBoundNumbersBnum
import Derived.Test.YtgdgncdnhpflcaaFBoundNumbersRefsize
namespace Go.Proofs.Ytgdgncdnhpflcaa.Pure
open Go.RowKit Go.Proofs.YtgdgncdnhpflcaaW.PrintWords Go.Proofs.YtgdgncdnhpflcaaW.PrintLast Go.Proofs.Ytgdgncdnhpflcaa.PBoundNumbers Go.Proofs.Ytgdgncdnhpflcaa.L Go.Proofs.Ytgdgncdnhpflcaa.FBoundNumbers
theorem awake24 : Ev (fun k => serinettelaw24_awake.f k) true := Ev.of (k := 40) serinettelaw24_awake.mono (by decide +kernel)
theorem BoundNumbers : serinettelaw24_BoundNumbers.Pure := by
  intro a0 w0
  have hb := wf_u32 w0
  refine Ev.rounds ?_
  unfold serinettelaw24_BoundNumbers.f
  rw [tmod_pos a0 _ hb.1]
  have h0 : 0 ≤ a0 % 2147483647 ∧ a0 % 2147483647 ≤ 2147483646 := by omega
  generalize a0 % 2147483647 = n at h0
  have hs := nsize_rng n
  have hu := numsum_le n (by omega) (by omega)
  rw [wr n (by omega), wr (n + 1) (by omega), wr (6 * n) (by omega)]
  refine evB awake24 ?_
  refine evT rfl ?_
  refine evB (numbers_in (n + 1) (by omega) (by omega)) ?_
  refine evB (numbers_in n (by omega) (by omega)) ?_
  refine evB (rsize_in n (by omega) (by omega)) ?_
  rw [wr (numsum n + nsize n) (by omega)]
  refine evT (numsum_succ n) ?_
  refine evB (numbers_in 0 (by omega) (by omega)) ?_
  refine evT numsum_zero ?_
  refine evB (numbers_in n (by omega) (by omega)) ?_
  refine evT (by omega) ?_
  refine evB (numbers_in n (by omega) (by omega)) ?_
  rw [decide_eq_true (by omega)]
  exact Ev.now _
end Go.Proofs.Ytgdgncdnhpflcaa.Pure
