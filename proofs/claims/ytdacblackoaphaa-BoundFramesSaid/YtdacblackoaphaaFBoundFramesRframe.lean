import Derived.Test.YtdacblackoaphaaPBoundFramesx14
import Derived.Test.YtdacblackoaphaaLEv
import Derived.Test.YtdacblackoaphaaLNum
import Derived.Test.YtdacblackoaphaaLBound
import Derived.Test.YtdacblackoaphaaLHead
import Derived.Test.YtdacblackoaphaaFBoundFramesPut
namespace Go.Proofs.Ytdacblackoaphaa.FBoundFrames
open Go.RowKit Go.Proofs.YtdacblackoaphaaW.PrintWords Go.Proofs.YtdacblackoaphaaW.PrintLast Go.Proofs.Ytdacblackoaphaa.PBoundFrames Go.Proofs.Ytdacblackoaphaa.L
set_option linter.unusedVariables false
set_option linter.unusedSimpArgs false
theorem code_block (b : Int) (h : 1 ≤ b) : ((blockMore b).length : Int) = blk b := by
  have e : codeOf b hBlocks ≠ 0 ↔ b ∈ blockList := by
    unfold codeOf blockList
    rw [if_pos (by omega)]
    simp only [hBlocks, List.drop_succ_cons, List.drop_zero, codeAt, List.mem_cons, List.not_mem_nil, or_false]
    repeat' split
    all_goals omega
  unfold blockMore blk
  by_cases c : b ∈ blockList
  · rw [if_pos (e.2 c), if_pos c]; rfl
  · rw [if_neg (fun x => c (e.1 x)), if_neg c]
    split <;> rfl
theorem code_rate (r : Int) (h : 1 ≤ r) : ((rateMore r).length : Int) = rte r := by
  have e : (codeOf r hRates ≠ 0 ∨ r ≤ 0) ↔ r ∈ rateList := by
    unfold codeOf rateList
    rw [if_pos (by omega)]
    simp only [hRates, List.drop_succ_cons, List.drop_zero, codeAt, List.mem_cons, List.not_mem_nil, or_false]
    repeat' split
    all_goals omega
  unfold rateMore rte
  by_cases c : r ∈ rateList
  · rw [if_pos (e.2 c), if_pos c]; rfl
  · rw [if_neg (fun x => c (e.1 x)), if_neg c]
    by_cases c1 : r % 1000 = 0 ∧ r ≤ 255000
    · rw [if_pos c1, if_pos c1]; rfl
    rw [if_neg c1, if_neg c1]
    by_cases c2 : r ≤ 65535
    · rw [if_pos c2, if_pos (Or.inl c2)]; rfl
    rw [if_neg c2]
    by_cases c3 : r % 10 = 0 ∧ r ≤ 655350
    · rw [if_pos c3, if_pos (Or.inr c3)]; rfl
    · rw [if_neg c3, if_neg (by omega)]; rfl
theorem rhead_ev (b r n : Int) (hb : 1 ≤ b ∧ b ≤ 65535) (hr : 1 ≤ r ∧ r ≤ 1048575) (hn : 0 ≤ n ∧ n ≤ 2147483647) :
    Ev (fun k => serinetteref24_Head.f k b r n) (5 + nsize n + blk b + rte r) := by
  unfold serinetteref24_Head.f
  have hc : headCheck b r 0 0 n false = 0 := by unfold headCheck; rw [if_neg (by omega), if_neg (by omega), if_neg (by omega), if_neg (by omega), if_neg (by omega)]
  refine evB (rput_ok b r 0 0 n false hc hb (by omega) (by omega) (by omega)) ?_
  refine evR (Ev.now _) ?_
  have := headBody_len b r 0 0 n false
  have := code_block b (by omega)
  have := code_rate r (by omega)
  simp only [headBytes, List.length_append, List.length_cons, List.length_nil]
  omega
theorem rframe_loop (b r n : Int) (hb : 1 ≤ b ∧ b ≤ 65535) (hr : 1 ≤ r ∧ r ≤ 1048575) (hn : 0 ≤ n ∧ n ≤ 2147483647) (d : Nat) : ∀ (x : Int), 0 ≤ x ∧ x ≤ 17000000 → d = ((x + 7) / 8 * 8 - x).toNat →
    Ev (fun k => serinetteref24_Frame.l0 k b r n x) (5 + nsize n + blk b + rte r + ((x + 7) / 8 + 2)) := by
  have := nsize_rng n
  have := blk_rng b
  have := rte_rng r
  induction d with
  | zero =>
    intro x hx hd
    refine Ev.step (fun k => serinetteref24_Frame.l0.eq_2 ..) ?_
    rw [tmod_pos _ _ hx.1, tdiv_pos _ _ hx.1]
    refine evT (by omega) ?_
    refine evB (rhead_ev b r n hb hr hn) ?_
    rw [wr (x / 8) (by omega), wr (5 + nsize n + blk b + rte r + x / 8) (by omega), wr _ (by omega)]
    refine evR (Ev.now _) ?_
    omega
  | succ d ih =>
    intro x hx hd
    refine Ev.step (fun k => serinetteref24_Frame.l0.eq_2 ..) ?_
    rw [tmod_pos _ _ hx.1]
    refine evF (by omega) ?_
    rw [wr _ (by omega)]
    refine evR (ih (x + 1) (by omega) (by omega)) ?_
    omega
theorem rframe_ev (b c r d n : Int) (hb : 1 ≤ b ∧ b ≤ 65535) (hc : 1 ≤ c ∧ c ≤ 8) (hr : 1 ≤ r ∧ r ≤ 1048575) (hd : 4 ≤ d ∧ d ≤ 32) (hn : 0 ≤ n ∧ n ≤ 2147483647) :
    Ev (fun k => serinetteref24_Frame.f k b c r d n) (5 + nsize n + blk b + rte r + bdy b c d) := by
  have h := bdy_bits b c d hb hc hd
  unfold serinetteref24_Frame.f
  rw [wr (d * b) (by omega), wr (8 + d * b) (by omega), wr (c * (8 + d * b)) (by omega)]
  exact rframe_loop b r n hb hr hn _ _ (by omega) rfl
end Go.Proofs.Ytdacblackoaphaa.FBoundFrames
