/- The statement BoundMore: a total that is a block more has as many bytes more as the frame with that number. For how many blocks, a block, any channels, rate, depth. -/
import Derived.Test.YtgdgncdnhpflcaaPBoundMorex2
import Derived.Test.YtgdgncdnhpflcaaLEv
import Derived.Test.YtgdgncdnhpflcaaLNum
import Derived.Test.YtgdgncdnhpflcaaLBound
import Derived.Test.YtgdgncdnhpflcaaFBoundMoreBhead
import Derived.Test.YtgdgncdnhpflcaaFBoundMoreBnum
import Derived.Test.YtgdgncdnhpflcaaFBoundMoreBframes
namespace Go.Proofs.Ytgdgncdnhpflcaa.Pure
open Go.RowKit Go.Proofs.YtgdgncdnhpflcaaW.PrintWords Go.Proofs.YtgdgncdnhpflcaaW.PrintLast Go.Proofs.Ytgdgncdnhpflcaa.PBoundMore Go.Proofs.Ytgdgncdnhpflcaa.L Go.Proofs.Ytgdgncdnhpflcaa.FBoundMore
theorem awake24 : Ev (fun k => serinettelaw24_awake.f k) true := Ev.of (k := 40) serinettelaw24_awake.mono (by decide +kernel)
theorem BoundMore : serinettelaw24_BoundMore.Pure := by
  intro a0 a1 a2 a3 a4 w0 w1 w2 w3 w4
  have hb0 := wf_u16 w0
  have hb1 := wf_u16 w1
  have hb2 := wf_u8 w2
  have hb3 := wf_u32 w3
  have hb4 := wf_u8 w4
  refine Ev.rounds ?_
  unfold serinettelaw24_BoundMore.f
  rw [wr a1 (by omega), wr a0 (by omega), tmod_pos a1 _ (by omega), tmod_pos a2 _ (by omega), tmod_pos a3 _ (by omega), tmod_pos a4 _ (by omega)]
  have g1 : 1 ≤ 1 + a1 % 65535 ∧ 1 + a1 % 65535 ≤ 65535 := by omega
  have g2 : 1 ≤ 1 + a2 % 8 ∧ 1 + a2 % 8 ≤ 8 := by omega
  have g3 : 1 ≤ 1 + a3 % 1048575 ∧ 1 + a3 % 1048575 ≤ 1048575 := by omega
  have g4 : 4 ≤ 4 + a4 % 29 ∧ 4 + a4 % 29 ≤ 32 := by omega
  rw [wr (a2 % 8) (by omega), wr (a3 % 1048575) (by omega), wr (a4 % 29) (by omega), wr (1 + a1 % 65535) (by omega), wr (1 + a2 % 8) (by omega), wr (1 + a3 % 1048575) (by omega), wr (4 + a4 % 29) (by omega)]
  generalize 1 + a1 % 65535 = b at g1
  generalize 1 + a2 % 8 = c at g2
  generalize 1 + a3 % 1048575 = r at g3
  generalize 4 + a4 % 29 = d at g4
  have hp : 0 ≤ a0 * b ∧ a0 * b ≤ 65535 * 65535 := ⟨Int.mul_nonneg (by omega) (by omega), Int.mul_le_mul (by omega) (by omega) (by omega) (by omega)⟩
  have hp' : 0 ≤ (a0 + 1) * b ∧ (a0 + 1) * b ≤ 65536 * 65535 := ⟨Int.mul_nonneg (by omega) (by omega), Int.mul_le_mul (by omega) (by omega) (by omega) (by omega)⟩
  rw [wr (a0 + 1) (by omega), wr ((a0 + 1) * b) (by omega), wr (a0 * b) (by omega)]
  refine evB awake24 ?_
  refine evT rfl ?_
  refine evB (frames_whole (a0 + 1) b c r d (by omega) g1 g2 g4 (by omega)) ?_
  refine evB (frames_whole a0 b c r d (by omega) g1 g2 g4 (by omega)) ?_
  refine evB (frame_ev b c r d a0 g1 g2 g4 (by omega) (by omega) (by omega)) ?_
  have := blk_rng b
  have := rte_rng r
  have := bdy_rng b c d g1 g2 g4
  have := nsize_rng a0
  have hu := numsum_le a0 (by omega) (by omega)
  have hn := numsum_succ a0
  have hq2 : a0 * (5 + blk b + rte r + bdy b c d) ≤ 70000 * 4000000 := Int.mul_le_mul (by omega) (by omega) (by omega) (by omega)
  have hq3 : 0 ≤ a0 * (5 + blk b + rte r + bdy b c d) := Int.mul_nonneg (by omega) (by omega)
  have hq4 : (a0 + 1) * (5 + blk b + rte r + bdy b c d) = a0 * (5 + blk b + rte r + bdy b c d) + (5 + blk b + rte r + bdy b c d) := by rw [Int.add_mul]; omega
  rw [wr (_ + _) (by omega)]
  refine evT (by omega) ?_
  have hz := frames_whole 0 b c r d (by omega) g1 g2 g4 (by omega)
  rw [Int.zero_mul] at hz
  refine evB hz ?_
  rw [Int.zero_mul, numsum_zero]
  exact Ev.now _
end Go.Proofs.Ytgdgncdnhpflcaa.Pure
