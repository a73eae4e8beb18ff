/- The statement BoundFrames: how many bytes all frames of a total of samples have at most, and how many stand ahead of them, is as the document says. For any total, block, channels, rate, depth and options. -/
import Derived.Test.YtdacblackoaphaaPBoundFramesx14
import Derived.Test.YtdacblackoaphaaLEv
import Derived.Test.YtdacblackoaphaaLNum
import Derived.Test.YtdacblackoaphaaLBound
import Derived.Test.YtdacblackoaphaaLHead
import Derived.Test.YtdacblackoaphaaFBoundFramesNums
import Derived.Test.YtdacblackoaphaaFBoundFramesRframe
import Derived.Test.YtdacblackoaphaaFBoundFramesFew
import Derived.Test.YtdacblackoaphaaFBoundFramesAhead
import Derived.Test.YtdacblackoaphaaFBoundFramesAheads
import Derived.Test.YtdacblackoaphaaFBoundFramesRframes
namespace Go.Proofs.Ytdacblackoaphaa.Pure
open Go.RowKit Go.Proofs.YtdacblackoaphaaW.PrintWords Go.Proofs.YtdacblackoaphaaW.PrintLast Go.Proofs.Ytdacblackoaphaa.PBoundFrames Go.Proofs.Ytdacblackoaphaa.L Go.Proofs.Ytdacblackoaphaa.FBoundFrames
set_option linter.unusedVariables false
set_option linter.unusedSimpArgs false
theorem awake24 : Ev (fun k => serinettelaw24_awake.f k) true := Ev.of (k := 40) serinettelaw24_awake.mono (by decide +kernel)
theorem law_l0 (t w s b c r d : Int) (ht : t = w * b + s) (hs : 0 ≤ s ∧ s < b) (hw : 0 ≤ w ∧ w ≤ 2000) (ht2 : t ≤ 2000) (hb : 1 ≤ b ∧ b ≤ 100) (hc : 1 ≤ c ∧ c ≤ 8) (hr : 1 ≤ r ∧ r ≤ 1048575) (hd : 4 ≤ d ∧ d ≤ 32)
    (m : ByteArray) (l : List ByteArray) (e p : Int) (hm : m.size ≤ 50) (hl : l.length ≤ 10) (h : ∀ x ∈ l, x.size ≤ 50) (hp : p ≤ 300) (he : e ≤ 16777215) (n' : Nat) : ∀ (n : Int), 0 ≤ n → n + n' = (if s > 0 then w + 1 else w) →
    Ev (fun k => serinettelaw24_BoundFrames.l0 k true t b c r d n (n * b) m l e p) true := by
  have hwb : 0 ≤ w * b ∧ w * b ≤ 2000 * 100 := ⟨Int.mul_nonneg (by omega) (by omega), Int.mul_le_mul (by omega) (by omega) (by omega) (by omega)⟩
  have hw2 : w * 1 ≤ w * b := Int.mul_le_mul_of_nonneg_left (by omega) (by omega)
  induction n' with
  | zero =>
    intro n h0 hn
    have hn2 : 0 ≤ n ∧ n ≤ 2000 := by split at hn <;> omega
    have hnb : t ≤ n * b := by
      split at hn
      · obtain rfl : n = w + 1 := by omega
        rw [Int.add_mul, Int.one_mul]; omega
      · obtain rfl : n = w := by omega
        omega
    have hdiv : (t + b - 1) / b = n := by
      have : (t + b - 1) / b = n ∧ (t + b - 1) % b = (if s > 0 then s - 1 else b - 1) := by
        rw [Int.ediv_emod_unique (by omega), Int.mul_comm]
        split at hn
        · rename_i z
          rw [if_pos z]
          obtain rfl : n = w + 1 := by omega
          rw [Int.add_mul, Int.one_mul]
          omega
        · rename_i z
          rw [if_neg z]
          obtain rfl : n = w := by omega
          omega
      exact this.1
    refine Ev.step (fun k => serinettelaw24_BoundFrames.l0.eq_2 ..) (evF (by omega) ?_)
    obtain ⟨x, hx, rfl⟩ := rahead_ev m l n e p hm hl h hp hn2
    refine evB hx (evB (rframes_ev t w s b c r d ht hs hw hb hc hr hd) (evT rfl ?_))
    refine evB (bahead_ev m l n e p hm hl h hp he hn2) (evT rfl (evB (bframes_ev t w s b c r d ht hs hw hb hc hr hd) (evT rfl ?_)))
    have hst : Ev (fun k => bound_Stream.f k t b c r d m l e p) (wrap64 (aheadN m l n e p + framesN w s b c r d)) := by
      unfold bound_Stream.f
      refine evT (by omega) (evF (by omega) ?_)
      rw [wr (t + b) (by omega), wr (t + b - 1) (by omega), tdiv_pos _ _ (by omega), hdiv, wr n (by omega)]
      exact evB (bahead_ev m l n e p hm hl h hp he hn2) (evB (bframes_ev t w s b c r d ht hs hw hb hc hr hd) (Ev.now _))
    refine evB hst ?_
    rw [beq_self_eq_true]
    exact Ev.now _
  | succ n' ih =>
    intro n h0 hn
    have hnb : n * b < t ∧ 0 ≤ n * b := by
      refine ⟨?_, Int.mul_nonneg h0 (by omega)⟩
      split at hn
      · have : n * b ≤ w * b := Int.mul_le_mul_of_nonneg_right (by omega) (by omega)
        omega
      · have : (n + 1) * b ≤ w * b := Int.mul_le_mul_of_nonneg_right (by omega) (by omega)
        rw [Int.add_mul, Int.one_mul] at this
        omega
    have hn2 : n ≤ 2000 := by split at hn <;> omega
    refine Ev.step (fun k => serinettelaw24_BoundFrames.l0.eq_2 ..) (evT hnb.1 ?_)
    rw [wr (n + 1) (by omega), wr (n * b + b) (by omega)]
    have := ih (n + 1) (by omega) (by omega)
    rw [Int.add_mul, Int.one_mul] at this
    exact this
theorem BoundFrames : serinettelaw24_BoundFrames.Pure := by
  intro a0 a1 a2 a3 a4 m l e p w0 w1 w2 w3 w4 wm wl wx we wp
  have hb0 := wf_u16 w0
  have hb1 := wf_u8 w1
  have hb2 := wf_u8 w2
  have hb3 := wf_u32 w3
  have hb4 := wf_u8 w4
  have hm63 : maxLen = 9223372036854775807 := by decide
  refine Ev.rounds ?_
  unfold serinettelaw24_BoundFrames.f
  rw [wr a0 (by omega), tmod_pos a0 _ (by omega), tmod_pos a1 _ (by omega), tmod_pos a2 _ (by omega), tmod_pos a3 _ (by omega), tmod_pos a4 _ (by omega)]
  have g0 : 0 ≤ a0 % 2001 ∧ a0 % 2001 ≤ 2000 := by omega
  have g1 : 1 ≤ 1 + a1 % 100 ∧ 1 + a1 % 100 ≤ 100 := by omega
  have g2 : 1 ≤ 1 + a2 % 8 ∧ 1 + a2 % 8 ≤ 8 := by omega
  have g3 : 1 ≤ 1 + a3 % 1048575 ∧ 1 + a3 % 1048575 ≤ 1048575 := by omega
  have g4 : 4 ≤ 4 + a4 % 29 ∧ 4 + a4 % 29 ≤ 32 := by omega
  rw [wr (a1 % 100) (by omega), wr (a2 % 8) (by omega), wr (a3 % 1048575) (by omega), wr (a4 % 29) (by omega), wr (1 + a1 % 100) (by omega), wr (1 + a2 % 8) (by omega), wr (1 + a3 % 1048575) (by omega), wr (4 + a4 % 29) (by omega)]
  generalize a0 % 2001 = t at g0
  generalize 1 + a1 % 100 = b at g1
  generalize 1 + a2 % 8 = c at g2
  generalize 1 + a3 % 1048575 = r at g3
  generalize 4 + a4 % 29 = d at g4
  refine evB awake24 ?_
  obtain ⟨q, hq, _⟩ := right_ev m l (by omega) (by omega) (fun x hx => by have := wx x hx; omega)
  refine evB hq ?_
  obtain ⟨f, hf, hfew⟩ := few_ev m l e p (by omega)
  refine evB hf ?_
  have out : Ev (fun k => serinettelaw24_BoundFrames.j0 k true t b c r d true m l e p) true := Ev.step (fun k => serinettelaw24_BoundFrames.j0.eq_2 ..) (evT rfl (Ev.now _))
  refine evIte (fun _ => evIte (fun hft => evIte (fun _ => out) (fun _ => evIte (fun _ => out) (fun c1 => evIte (fun _ => out) (fun c2 => ?_)))) (fun _ => out)) (fun _ => out)
  obtain ⟨hm, hl, hx, hp⟩ := hfew hft
  by_cases c3 : p > 300
  · rw [decide_eq_true c3]; exact out
  · rw [decide_eq_false c3]
    refine Ev.step (fun k => serinettelaw24_BoundFrames.j0.eq_2 ..) (evF (by simp) ?_)
    have hd := Int.mul_ediv_add_emod t b
    have h0 := Int.emod_nonneg t (show b ≠ 0 by omega)
    have h1 := Int.emod_lt_of_pos t (show 0 < b by omega)
    have h2 := Int.ediv_nonneg (show 0 ≤ t by omega) (show 0 ≤ b by omega)
    have h3 := Int.ediv_le_self (a := t) b (by omega)
    have := law_l0 t (t / b) (t % b) b c r d (by rw [Int.mul_comm]; omega) ⟨h0, h1⟩ (by omega) (by omega) g1 g2 g3 g4 m l e p hm hl hx (by omega) (by omega) (if t % b > 0 then t / b + 1 else t / b).toNat 0 (by omega) (by split <;> omega)
    rw [Int.zero_mul] at this
    exact this
end Go.Proofs.Ytdacblackoaphaa.Pure
