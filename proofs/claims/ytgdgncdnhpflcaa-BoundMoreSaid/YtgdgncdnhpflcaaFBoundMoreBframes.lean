import Derived.Test.YtgdgncdnhpflcaaPBoundMorex2
import Derived.Test.YtgdgncdnhpflcaaLEv
import Derived.Test.YtgdgncdnhpflcaaLNum
import Derived.Test.YtgdgncdnhpflcaaLBound
import Derived.Test.YtgdgncdnhpflcaaFBoundMoreBhead
import Derived.Test.YtgdgncdnhpflcaaFBoundMoreBnum
namespace Go.Proofs.Ytgdgncdnhpflcaa.FBoundMore
open Go.RowKit Go.Proofs.YtgdgncdnhpflcaaW.PrintWords Go.Proofs.YtgdgncdnhpflcaaW.PrintLast Go.Proofs.Ytgdgncdnhpflcaa.PBoundMore Go.Proofs.Ytgdgncdnhpflcaa.L
/-- The answer of all frames for a whole number of blocks. -/
theorem frames_whole (n b c r d : Int) (hn : 0 ≤ n ∧ n ≤ 70000) (hb : 1 ≤ b ∧ b ≤ 65535) (hc : 1 ≤ c ∧ c ≤ 8) (hd : 4 ≤ d ∧ d ≤ 32) (h : 0 ≤ r) :
    Ev (fun k => bound_Frames.f k (n * b) b c r d) (n * (5 + blk b + rte r + bdy b c d) + numsum n) := by
  have := blk_rng b
  have := rte_rng r
  have := bdy_rng b c d hb hc hd
  have hu := numsum_le n (by omega) (by omega)
  unfold bound_Frames.f
  refine evF (by omega) ?_
  refine Ev.step (fun k => bound_Frames.j0.eq_2 ..) ?_
  by_cases e : n = 0
  · subst e
    rw [Int.zero_mul]
    refine evT rfl ?_
    rw [Int.zero_mul, numsum_zero]
    exact Ev.now _
  · have hp : 1 * 1 ≤ n * b := Int.mul_le_mul (by omega) (by omega) (by omega) (by omega)
    refine evF (by simp; omega) ?_
    refine evF (by omega) ?_
    refine evB (block_ev b) ?_
    refine evB (rate_ev r h) ?_
    refine evC (body_some b c d hb hc hd) ?_
    rw [tmod_pos _ _ (by omega), tdiv_pos _ _ (by omega), Int.mul_emod_left, Int.mul_ediv_cancel _ (by omega)]
    refine evF (by omega) ?_
    rw [wr n (by omega)]
    refine evB (numbers_in n (by omega) (by omega)) ?_
    have hp2 : n * (5 + blk b + rte r + bdy b c d) ≤ 70000 * 4000000 := Int.mul_le_mul (by omega) (by omega) (by omega) (by omega)
    have hp3 : 0 ≤ n * (5 + blk b + rte r + bdy b c d) := Int.mul_nonneg (by omega) (by omega)
    rw [wr (5 + blk b) (by omega), wr (5 + blk b + rte r) (by omega), wr (5 + blk b + rte r + bdy b c d) (by omega), wr (n * _) (by omega), wr _ (by omega)]
    exact Ev.now _
end Go.Proofs.Ytgdgncdnhpflcaa.FBoundMore
