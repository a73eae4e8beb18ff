import Derived.Test.YtdacblackoaphaaPBoundFramesx14
import Derived.Test.YtdacblackoaphaaLEv
import Derived.Test.YtdacblackoaphaaLNum
import Derived.Test.YtdacblackoaphaaLBound
import Derived.Test.YtdacblackoaphaaLHead
import Derived.Test.YtdacblackoaphaaFBoundFramesNums
import Derived.Test.YtdacblackoaphaaFBoundFramesRframe
namespace Go.Proofs.Ytdacblackoaphaa.FBoundFrames
open Go.RowKit Go.Proofs.YtdacblackoaphaaW.PrintWords Go.Proofs.YtdacblackoaphaaW.PrintLast Go.Proofs.Ytdacblackoaphaa.PBoundFrames Go.Proofs.Ytdacblackoaphaa.L
set_option linter.unusedVariables false
set_option linter.unusedSimpArgs false
/-- All frames: w whole blocks, and a rest. -/
def framesN (w s b c r d : Int) : Int :=
  w * (5 + blk b + rte r + bdy b c d) + (if s > 0 then 5 + blk s + rte r + bdy s c d else 0) + numsum (if s > 0 then w + 1 else w)
theorem rframes_l0 (t w s b c r d : Int) (ht : t = w * b + s) (hs : 0 ≤ s ∧ s < b) (hw : 0 ≤ w ∧ w ≤ 2000) (hb : 1 ≤ b ∧ b ≤ 100) (hc : 1 ≤ c ∧ c ≤ 8) (hr : 1 ≤ r ∧ r ≤ 1048575) (hd : 4 ≤ d ∧ d ≤ 32) (n' : Nat) : ∀ (n : Int), 0 ≤ n → n + n' = w →
    Ev (fun k => serinetteref24_Frames.l0 k t b c r d (n * (5 + blk b + rte r + bdy b c d) + numsum n) n (n * b)) (framesN w s b c r d) := by
  have := blk_rng b
  have := blk_rng s
  have := rte_rng r
  have hB := bdy_rng b c d (by omega) hc hd
  have hwb : 0 ≤ w * b ∧ w * b ≤ 2000 * 100 := ⟨Int.mul_nonneg (by omega) (by omega), Int.mul_le_mul (by omega) (by omega) (by omega) (by omega)⟩
  have hwH : ∀ n : Int, 0 ≤ n → n ≤ w → 0 ≤ n * (5 + blk b + rte r + bdy b c d) ∧ n * (5 + blk b + rte r + bdy b c d) ≤ 2000 * 4000000 := fun n h0 h1 => ⟨Int.mul_nonneg (by omega) (by omega), Int.mul_le_mul (by omega) (by omega) (by omega) (by omega)⟩
  induction n' with
  | zero =>
    intro n h0 hn
    obtain rfl : n = w := by omega
    have hu := numsum_le n (by omega) (by omega)
    have hH := hwH n h0 (by omega)
    unfold framesN
    by_cases z : s > 0
    · have hS := bdy_rng s c d (by omega) hc hd
      have hz := nsize_rng n
      have hsu := numsum_succ n
      refine Ev.step (fun k => serinetteref24_Frames.l0.eq_2 ..) (evT (by omega) ?_)
      rw [wr (t - n * b) (by omega), show mn b (t - n * b) = s by rw [mn_eq]; omega]
      refine evB (rframe_ev s c r d n (by omega) hc hr hd (by omega)) ?_
      rw [if_pos z, if_pos z, wr (n + 1) (by omega), wr (n * b + b) (by omega), wr _ (by omega)]
      exact Ev.step (fun k => serinetteref24_Frames.l0.eq_2 ..) (evF (by omega) (evR (Ev.now _) (by omega)))
    · rw [if_neg z, if_neg z]
      exact Ev.step (fun k => serinetteref24_Frames.l0.eq_2 ..) (evF (by omega) (evR (Ev.now _) (by omega)))
  | succ n' ih =>
    intro n h0 hn
    have hu := numsum_le n (by omega) (by omega)
    have hH := hwH n h0 (by omega)
    have hz := nsize_rng n
    have hsu := numsum_succ n
    have e1 : (n + 1) * b = n * b + b := by rw [Int.add_mul, Int.one_mul]
    have e2 : (n + 1) * (5 + blk b + rte r + bdy b c d) = n * (5 + blk b + rte r + bdy b c d) + (5 + blk b + rte r + bdy b c d) := by rw [Int.add_mul, Int.one_mul]
    have h2 : (n + 1) * b ≤ w * b := Int.mul_le_mul_of_nonneg_right (by omega) (by omega)
    have h3 : 0 ≤ n * b := Int.mul_nonneg h0 (by omega)
    refine Ev.step (fun k => serinetteref24_Frames.l0.eq_2 ..) (evT (by omega) ?_)
    rw [wr (t - n * b) (by omega), show mn b (t - n * b) = b by rw [mn_eq]; omega]
    refine evB (rframe_ev b c r d n (by omega) hc hr hd (by omega)) ?_
    rw [wr (n + 1) (by omega), wr (n * b + b) (by omega), wr (n * _ + numsum n + _) (by omega)]
    have := ih (n + 1) (by omega) (by omega)
    rw [e1, e2, hsu] at this
    rw [show n * (5 + blk b + rte r + bdy b c d) + numsum n + (5 + nsize n + blk b + rte r + bdy b c d) = n * (5 + blk b + rte r + bdy b c d) + (5 + blk b + rte r + bdy b c d) + (numsum n + nsize n) by omega]
    exact this
theorem rframes_ev (t w s b c r d : Int) (ht : t = w * b + s) (hs : 0 ≤ s ∧ s < b) (hw : 0 ≤ w ∧ w ≤ 2000) (hb : 1 ≤ b ∧ b ≤ 100) (hc : 1 ≤ c ∧ c ≤ 8) (hr : 1 ≤ r ∧ r ≤ 1048575) (hd : 4 ≤ d ∧ d ≤ 32) :
    Ev (fun k => serinetteref24_Frames.f k t b c r d) (framesN w s b c r d) := by
  unfold serinetteref24_Frames.f
  have := rframes_l0 t w s b c r d ht hs hw hb hc hr hd w.toNat 0 (by omega) (by omega)
  rw [Int.zero_mul, Int.zero_mul, numsum_zero] at this
  exact this
theorem bframes_ev (t w s b c r d : Int) (ht : t = w * b + s) (hs : 0 ≤ s ∧ s < b) (hw : 0 ≤ w ∧ w ≤ 2000) (hb : 1 ≤ b ∧ b ≤ 100) (hc : 1 ≤ c ∧ c ≤ 8) (hr : 1 ≤ r ∧ r ≤ 1048575) (hd : 4 ≤ d ∧ d ≤ 32) :
    Ev (fun k => bound_Frames.f k t b c r d) (framesN w s b c r d) := by
  have := blk_rng b
  have := blk_rng s
  have := rte_rng r
  have hB := bdy_rng b c d (by omega) hc hd
  have hwb : 0 ≤ w * b ∧ w * b ≤ 2000 * 100 := ⟨Int.mul_nonneg (by omega) (by omega), Int.mul_le_mul (by omega) (by omega) (by omega) (by omega)⟩
  have hH : 0 ≤ w * (5 + blk b + rte r + bdy b c d) ∧ w * (5 + blk b + rte r + bdy b c d) ≤ 2000 * 4000000 := ⟨Int.mul_nonneg (by omega) (by omega), Int.mul_le_mul (by omega) (by omega) (by omega) (by omega)⟩
  have hdm : t / b = w ∧ t % b = s := by
    rw [Int.ediv_emod_unique (by omega)]
    exact ⟨by rw [Int.mul_comm]; omega, hs.1, hs.2⟩
  unfold bound_Frames.f
  refine evF (by omega) (Ev.step (fun k => bound_Frames.j0.eq_2 ..) ?_)
  unfold framesN
  by_cases e : t < 1
  · have hw0 : w = 0 := by
      by_cases c0 : w = 0
      · exact c0
      · have h2 : 1 * b ≤ w * b := Int.mul_le_mul_of_nonneg_right (by omega) (by omega)
        omega
    have hs0 : s = 0 := by subst hw0; omega
    rw [decide_eq_true e]
    refine evT rfl ?_
    subst hw0 hs0
    rw [if_neg (by omega), if_neg (by omega), numsum_zero, Int.zero_mul]
    exact Ev.now _
  · rw [decide_eq_false e]
    refine evF (by simp) (evF (by omega) ?_)
    refine evB (block_ev b) (evB (rate_ev r (by omega)) (evC (body_some b c d (by omega) hc hd) ?_))
    rw [tmod_pos _ _ (by omega), tdiv_pos _ _ (by omega), hdm.1, hdm.2, wr w (by omega), wr (5 + blk b) (by omega), wr (5 + blk b + rte r) (by omega), wr (5 + blk b + rte r + bdy b c d) (by omega), wr (w * _) (by omega)]
    by_cases z : s > 0
    · have hS := bdy_rng s c d (by omega) hc hd
      have hu := numsum_le (w + 1) (by omega) (by omega)
      rw [if_pos z, if_pos z]
      refine evT z (evB (block_ev s) (evB (rate_ev r (by omega)) (evC (body_some s c d (by omega) hc hd) ?_)))
      rw [wr (w + 1) (by omega)]
      refine evB (numbers_in (w + 1) (by omega) (by omega)) ?_
      rw [wr (5 + blk s) (by omega), wr (5 + blk s + rte r) (by omega), wr (5 + blk s + rte r + bdy s c d) (by omega), wr (_ + (5 + blk s + rte r + bdy s c d)) (by omega), wr _ (by omega)]
      exact Ev.now _
    · have hu := numsum_le w (by omega) (by omega)
      rw [if_neg z, if_neg z]
      refine evF z (evB (numbers_in w (by omega) (by omega)) ?_)
      rw [wr _ (by omega)]
      exact evR (Ev.now _) (by omega)
end Go.Proofs.Ytdacblackoaphaa.FBoundFrames
