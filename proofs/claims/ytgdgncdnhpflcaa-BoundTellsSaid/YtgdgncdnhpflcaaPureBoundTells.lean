/- The statement BoundTells: how many bytes any header has, and any frame at most, and the first numbers together, is as the document says. For any block, channels, rate, depth and number; up to three thousand numbers. -/
import Derived.Test.YtgdgncdnhpflcaaPBoundTellsx6
import Derived.Test.YtgdgncdnhpflcaaLEv
import Derived.Test.YtgdgncdnhpflcaaLNum
import Derived.Test.YtgdgncdnhpflcaaLBound
import Derived.Test.YtgdgncdnhpflcaaLHead
import Derived.Test.YtgdgncdnhpflcaaFBoundTellsBhead
import Derived.Test.YtgdgncdnhpflcaaFBoundTellsBnum
import Derived.Test.YtgdgncdnhpflcaaFBoundTellsRput
namespace Go.Proofs.Ytgdgncdnhpflcaa.Pure
open Go.RowKit Go.Proofs.YtgdgncdnhpflcaaW.PrintWords Go.Proofs.YtgdgncdnhpflcaaW.PrintLast Go.Proofs.Ytgdgncdnhpflcaa.PBoundTells Go.Proofs.Ytgdgncdnhpflcaa.L Go.Proofs.Ytgdgncdnhpflcaa.FBoundTells
set_option linter.unusedVariables false
set_option linter.unusedSimpArgs false
theorem awake24 : Ev (fun k => serinettelaw24_awake.f k) true := Ev.of (k := 40) serinettelaw24_awake.mono (by decide +kernel)
theorem code_block (b : Int) (h : 1 ≤ b) : ((blockMore b).length : Int) = blk b := by
  have e : codeOf b hBlocks ≠ 0 ↔ b ∈ blockList := by
    unfold codeOf blockList
    rw [if_pos (by omega)]
    simp only [hBlocks, List.drop_succ_cons, List.drop_zero, codeAt, List.mem_cons, List.not_mem_nil, or_false]
    repeat' split
    all_goals omega
  unfold blockMore blk
  by_cases c : b ∈ blockList
  · rw [if_pos (e.2 c), if_pos c]; rfl
  · rw [if_neg (fun x => c (e.1 x)), if_neg c]
    split <;> rfl
theorem code_rate (r : Int) (h : 1 ≤ r) : ((rateMore r).length : Int) = rte r := by
  have e : (codeOf r hRates ≠ 0 ∨ r ≤ 0) ↔ r ∈ rateList := by
    unfold codeOf rateList
    rw [if_pos (by omega)]
    simp only [hRates, List.drop_succ_cons, List.drop_zero, codeAt, List.mem_cons, List.not_mem_nil, or_false]
    repeat' split
    all_goals omega
  unfold rateMore rte
  by_cases c : r ∈ rateList
  · rw [if_pos (e.2 c), if_pos c]; rfl
  · rw [if_neg (fun x => c (e.1 x)), if_neg c]
    by_cases c1 : r % 1000 = 0 ∧ r ≤ 255000
    · rw [if_pos c1, if_pos c1]; rfl
    rw [if_neg c1, if_neg c1]
    by_cases c2 : r ≤ 65535
    · rw [if_pos c2, if_pos (Or.inl c2)]; rfl
    rw [if_neg c2]
    by_cases c3 : r % 10 = 0 ∧ r ≤ 655350
    · rw [if_pos c3, if_pos (Or.inr c3)]; rfl
    · rw [if_neg c3, if_neg (by omega)]; rfl
theorem rhead_ev (b r n : Int) (hb : 1 ≤ b ∧ b ≤ 65535) (hr : 1 ≤ r ∧ r ≤ 1048575) (hn : 0 ≤ n ∧ n ≤ 2147483647) :
    Ev (fun k => serinetteref24_Head.f k b r n) (5 + nsize n + blk b + rte r) := by
  unfold serinetteref24_Head.f
  have hc : headCheck b r 0 0 n false = 0 := by unfold headCheck; rw [if_neg (by omega), if_neg (by omega), if_neg (by omega), if_neg (by omega), if_neg (by omega)]
  refine evB (rput_ok b r 0 0 n false hc hb (by omega) (by omega) (by omega)) ?_
  refine evR (Ev.now _) ?_
  have := headBody_len b r 0 0 n false
  have := code_block b (by omega)
  have := code_rate r (by omega)
  simp only [headBytes, List.length_append, List.length_cons, List.length_nil]
  omega
theorem rframe_loop (b r n : Int) (hb : 1 ≤ b ∧ b ≤ 65535) (hr : 1 ≤ r ∧ r ≤ 1048575) (hn : 0 ≤ n ∧ n ≤ 2147483647) (d : Nat) : ∀ (x : Int), 0 ≤ x ∧ x ≤ 17000000 → d = ((x + 7) / 8 * 8 - x).toNat →
    Ev (fun k => serinetteref24_Frame.l0 k b r n x) (5 + nsize n + blk b + rte r + ((x + 7) / 8 + 2)) := by
  have := nsize_rng n
  have := blk_rng b
  have := rte_rng r
  induction d with
  | zero =>
    intro x hx hd
    refine Ev.step (fun k => serinetteref24_Frame.l0.eq_2 ..) ?_
    rw [tmod_pos _ _ hx.1, tdiv_pos _ _ hx.1]
    refine evT (by omega) ?_
    refine evB (rhead_ev b r n hb hr hn) ?_
    rw [wr (x / 8) (by omega), wr (5 + nsize n + blk b + rte r + x / 8) (by omega), wr _ (by omega)]
    refine evR (Ev.now _) ?_
    omega
  | succ d ih =>
    intro x hx hd
    refine Ev.step (fun k => serinetteref24_Frame.l0.eq_2 ..) ?_
    rw [tmod_pos _ _ hx.1]
    refine evF (by omega) ?_
    rw [wr _ (by omega)]
    refine evR (ih (x + 1) (by omega) (by omega)) ?_
    omega
theorem rframe_ev (b c r d n : Int) (hb : 1 ≤ b ∧ b ≤ 65535) (hc : 1 ≤ c ∧ c ≤ 8) (hr : 1 ≤ r ∧ r ≤ 1048575) (hd : 4 ≤ d ∧ d ≤ 32) (hn : 0 ≤ n ∧ n ≤ 2147483647) :
    Ev (fun k => serinetteref24_Frame.f k b c r d n) (5 + nsize n + blk b + rte r + bdy b c d) := by
  have h := bdy_bits b c d hb hc hd
  unfold serinetteref24_Frame.f
  rw [wr (d * b) (by omega), wr (8 + d * b) (by omega), wr (c * (8 + d * b)) (by omega)]
  exact rframe_loop b r n hb hr hn _ _ (by omega) rfl
theorem rnumbers_loop (m : Int) (hm : 0 ≤ m ∧ m ≤ 68719476736) (d : Nat) : ∀ (i : Int), 0 ≤ i → i + d = m → Ev (fun k => serinetteref24_Numbers.l0 k m (numsum i) i) (numsum m) := by
  induction d with
  | zero =>
    intro i h0 hi
    refine Ev.step (fun k => serinetteref24_Numbers.l0.eq_2 ..) ?_
    refine evF (by omega) ?_
    rw [show i = m by omega]
    exact Ev.now _
  | succ d ih =>
    intro i h0 hi
    have hz := nsize_rng i
    have hs := numsum_succ i
    have hu : 0 ≤ numsum i ∧ numsum i ≤ 7 * i := by unfold numsum; omega
    refine Ev.step (fun k => serinetteref24_Numbers.l0.eq_2 ..) ?_
    refine evT (by omega) ?_
    refine evB (rsize_in i (by omega) (by omega)) ?_
    rw [wr (numsum i + nsize i) (by omega), wr (i + 1) (by omega), ← hs]
    exact ih (i + 1) (by omega) (by omega)
theorem rnumbers_ev (m : Int) (hm : 0 ≤ m ∧ m ≤ 68719476736) : Ev (fun k => serinetteref24_Numbers.f k m) (numsum m) := by
  unfold serinetteref24_Numbers.f
  have := rnumbers_loop m hm m.toNat 0 (by omega) (by omega)
  rw [numsum_zero] at this
  exact this
theorem BoundTells : serinettelaw24_BoundTells.Pure := by
  intro a0 a1 a2 a3 a4 a5 w0 w1 w2 w3 w4 w5
  have hb0 := wf_u16 w0
  have hb1 := wf_u8 w1
  have hb2 := wf_u32 w2
  have hb3 := wf_u8 w3
  have hb4 := wf_u32 w4
  have hb5 := wf_u16 w5
  refine Ev.rounds ?_
  unfold serinettelaw24_BoundTells.f
  rw [wr a0 (by omega), wr a5 (by omega), tmod_pos a0 _ (by omega), tmod_pos a1 _ (by omega), tmod_pos a2 _ (by omega), tmod_pos a3 _ (by omega), tmod_pos a4 _ (by omega), tmod_pos a5 _ (by omega)]
  have g0 : 1 ≤ 1 + a0 % 65535 ∧ 1 + a0 % 65535 ≤ 65535 := by omega
  have g1 : 1 ≤ 1 + a1 % 8 ∧ 1 + a1 % 8 ≤ 8 := by omega
  have g2 : 1 ≤ 1 + a2 % 1048575 ∧ 1 + a2 % 1048575 ≤ 1048575 := by omega
  have g3 : 4 ≤ 4 + a3 % 29 ∧ 4 + a3 % 29 ≤ 32 := by omega
  have g4 : 0 ≤ a4 % 2147483648 ∧ a4 % 2147483648 ≤ 2147483647 := by omega
  have g5 : 0 ≤ a5 % 3001 ∧ a5 % 3001 ≤ 3000 := by omega
  rw [wr (a1 % 8) (by omega), wr (a2 % 1048575) (by omega), wr (a3 % 29) (by omega), wr (a4 % 2147483648) (by omega), wr (1 + a0 % 65535) (by omega), wr (1 + a1 % 8) (by omega), wr (1 + a2 % 1048575) (by omega), wr (4 + a3 % 29) (by omega)]
  generalize 1 + a0 % 65535 = b at g0
  generalize 1 + a1 % 8 = c at g1
  generalize 1 + a2 % 1048575 = r at g2
  generalize 4 + a3 % 29 = d at g3
  generalize a4 % 2147483648 = n at g4
  generalize a5 % 3001 = m at g5
  refine evB awake24 ?_
  refine evT rfl ?_
  refine evB (head_ev b r n (by omega) (by omega) (by omega)) ?_
  refine evB (rhead_ev b r n g0 g2 g4) ?_
  refine evT rfl ?_
  refine evB (frame_ev b c r d n g0 g1 g3 (by omega) (by omega) (by omega)) ?_
  refine evB (rframe_ev b c r d n g0 g1 g2 g3 g4) ?_
  refine evT rfl ?_
  refine evB (numbers_in m (by omega) (by omega)) ?_
  refine evB (rnumbers_ev m (by omega)) ?_
  rw [beq_self_eq_true]
  exact Ev.now _
end Go.Proofs.Ytgdgncdnhpflcaa.Pure
