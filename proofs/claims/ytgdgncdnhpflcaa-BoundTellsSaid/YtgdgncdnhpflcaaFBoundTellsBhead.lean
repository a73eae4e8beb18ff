import Derived.Test.YtgdgncdnhpflcaaPBoundTellsx6
import Derived.Test.YtgdgncdnhpflcaaLEv
import Derived.Test.YtgdgncdnhpflcaaLNum
import Derived.Test.YtgdgncdnhpflcaaLBound
import Derived.Test.YtgdgncdnhpflcaaFBoundTellsSize
import Derived.Test.YtgdgncdnhpflcaaFBoundTellsContains
namespace Go.Proofs.Ytgdgncdnhpflcaa.FBoundTells
open Go.RowKit Go.Proofs.YtgdgncdnhpflcaaW.PrintWords Go.Proofs.YtgdgncdnhpflcaaW.PrintLast Go.Proofs.Ytgdgncdnhpflcaa.PBoundTells Go.Proofs.Ytgdgncdnhpflcaa.L
set_option linter.unusedVariables false
set_option linter.unusedSimpArgs false
theorem block_ev (n : Int) : Ev (fun k => bound_block.f k n) (blk n) := by
  unfold bound_block.f
  refine evC rfl ?_
  refine evB (contains_ev _ n (by decide)) ?_
  unfold blk
  by_cases e : n ∈ blockList
  · rw [if_pos e]
    exact evT (decide_eq_true e) (Ev.now _)
  · rw [if_neg e]
    refine evF (fun h => e (of_decide_eq_true h)) ?_
    exact evI (Ev.now _) (Ev.now _)
theorem rate_ev (n : Int) (h : 0 ≤ n) : Ev (fun k => bound_rate.f k n) (rte n) := by
  unfold bound_rate.f
  refine evC rfl ?_
  refine evB (contains_ev _ n (by decide)) ?_
  rw [tmod_pos n 1000 h]
  unfold rte
  by_cases e : n ∈ rateList
  · rw [if_pos e]
    exact evT (decide_eq_true e) (Ev.now _)
  · rw [if_neg e]
    refine evF (fun h => e (of_decide_eq_true h)) ?_
    have hj : Ev (fun k => bound_rate.j0 k n false) (if n ≤ 65535 ∨ (n % 10 = 0 ∧ n ≤ 655350) then 2 else 0) := by
      refine Ev.step (fun k => bound_rate.j0.eq_2 ..) ?_
      refine evF (by simp) ?_
      rw [tmod_pos n 10 h]
      by_cases c1 : n ≤ 65535
      · rw [if_pos (Or.inl c1)]; exact evT c1 (Ev.now _)
      · refine evF c1 ?_
        by_cases c2 : n % 10 = 0
        · refine evT c2 ?_
          by_cases c3 : n ≤ 655350
          · rw [if_pos (Or.inr ⟨c2, c3⟩)]; exact evT c3 (Ev.now _)
          · refine evF c3 ?_
            rw [if_neg (show ¬ (n ≤ 65535 ∨ (n % 10 = 0 ∧ n ≤ 655350)) by omega)]; exact Ev.now _
        · refine evF c2 ?_
          rw [if_neg (show ¬ (n ≤ 65535 ∨ (n % 10 = 0 ∧ n ≤ 655350)) by omega)]; exact Ev.now _
    by_cases c1 : n % 1000 = 0
    · refine evT c1 ?_
      by_cases c2 : n ≤ 255000
      · rw [if_pos ⟨c1, c2⟩, decide_eq_true c2]
        refine Ev.step (fun k => bound_rate.j0.eq_2 ..) ?_
        exact evT rfl (Ev.now _)
      · rw [if_neg (by omega), decide_eq_false c2]
        exact hj
    · rw [if_neg (by omega)]
      exact evF c1 hj
theorem head_ev (b r n : Int) (h : 0 ≤ r) (h0 : 0 ≤ n) (h1 : n ≤ 68719476735) : Ev (fun k => bound_Head.f k b r n) (5 + nsize n + blk b + rte r) := by
  unfold bound_Head.f
  have := nsize_rng n
  have := blk_rng b
  have := rte_rng r
  refine evB (size_in n h0 h1) ?_
  refine evB (block_ev b) ?_
  refine evB (rate_ev r h) ?_
  rw [wr (5 + nsize n) (by omega), wr (5 + nsize n + blk b) (by omega), wr _ (by omega)]
  exact Ev.now _
theorem body_some (b c d : Int) (hb : 1 ≤ b ∧ b ≤ 65535) (hc : 1 ≤ c ∧ c ≤ 8) (hd : 4 ≤ d ∧ d ≤ 32) : bound_body.f b c d = some (bdy b c d) := by
  have h := bdy_bits b c d hb hc hd
  unfold bound_body.f bound_full.f bdy
  rw [wr (d * b) (by omega), wr (8 + d * b) (by omega), wr (c * (8 + d * b)) (by omega), wr (c * (8 + d * b) + 8) (by omega), wr (c * (8 + d * b) + 8 - 1) (by omega)]
  rw [tdiv_pos _ _ (by omega), wr ((c * (8 + d * b) + 8 - 1) / 8) (by omega), Option.bind_some, wr _ (by omega)]
  congr 2
  omega
theorem frame_ev (b c r d n : Int) (hb : 1 ≤ b ∧ b ≤ 65535) (hc : 1 ≤ c ∧ c ≤ 8) (hd : 4 ≤ d ∧ d ≤ 32) (h : 0 ≤ r) (h0 : 0 ≤ n) (h1 : n ≤ 68719476735) :
    Ev (fun k => bound_Frame.f k b c r d n) (5 + nsize n + blk b + rte r + bdy b c d) := by
  have := nsize_rng n
  have := blk_rng b
  have := rte_rng r
  have := bdy_rng b c d hb hc hd
  unfold bound_Frame.f
  refine evB (head_ev b r n h h0 h1) ?_
  refine evC (body_some b c d hb hc hd) ?_
  rw [wr _ (by omega)]
  exact Ev.now _
end Go.Proofs.Ytgdgncdnhpflcaa.FBoundTells
