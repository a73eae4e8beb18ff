/- Facts, put together from several texts. -/
import Derived.Test.YtdacblackoaphaaPBoundFramesx14
import Derived.Test.YtdacblackoaphaaLEv
import Derived.Test.YtdacblackoaphaaLNum
import Derived.Test.YtdacblackoaphaaLBound
namespace Go.Proofs.Ytdacblackoaphaa.FBoundFrames
open Go.RowKit Go.Proofs.YtdacblackoaphaaW.PrintWords Go.Proofs.YtdacblackoaphaaW.PrintLast Go.Proofs.Ytdacblackoaphaa.PBoundFrames Go.Proofs.Ytdacblackoaphaa.L
set_option linter.unusedVariables false
set_option linter.unusedSimpArgs false
theorem room_one : number_room.f 1 = some 7 := rfl
theorem room_more (s : Int) (h : 2 ≤ s) (h' : s ≤ 7) : number_room.f s = some (5 * s + 1) := by
  unfold number_room.f
  rw [if_neg (by omega), wr (5 * s) (by omega), wr _ (by omega)]
theorem shr_nat (n : Int) (t : Int) (p : Int) (h : p = 2 ^ (min t.toNat 64)) : shr .i64 n t = n / p := by rw [h]; rfl
theorem size_loop (n : Int) (s t p r : Int) (ht : number_room.f s = some t) (h0 : 0 ≤ t) (hp : p = 2 ^ (min t.toNat 64)) (hs : 1 ≤ s ∧ s ≤ 7)
    (h : 0 < n / p → Ev (fun k => number_Size.l0 k n (s + 1)) r) (h' : ¬ 0 < n / p → r = s) : Ev (fun k => number_Size.l0 k n s) r := by
  refine Ev.step (fun k => number_Size.l0.eq_2 ..) ?_
  refine evC ht ?_
  refine evT h0 ?_
  rw [shr_nat n t p hp]
  by_cases e : 0 < n / p
  · refine evT e ?_
    rw [wr _ (by omega)]
    exact h e
  · rw [h' e]
    exact evF e (Ev.now _)
theorem size_in (n : Int) (h0 : 0 ≤ n) (h1 : n ≤ 68719476735) : Ev (fun k => number_Size.f k n) (nsize n) := by
  unfold number_Size.f
  refine evF (by omega) ?_
  refine Ev.step (fun k => number_Size.j0.eq_2 ..) ?_
  refine evF (by simp; omega) ?_
  refine size_loop n 1 7 128 _ (by decide +kernel) (by omega) rfl (by omega) (fun c1 => ?_) (fun c => by unfold nsize; rw [if_pos (by omega)])
  refine size_loop n 2 11 2048 _ (by decide +kernel) (by omega) rfl (by omega) (fun c2 => ?_) (fun c => by unfold nsize; rw [if_neg (by omega), if_pos (by omega)])
  refine size_loop n 3 16 65536 _ (by decide +kernel) (by omega) rfl (by omega) (fun c3 => ?_) (fun c => by unfold nsize; rw [if_neg (by omega), if_neg (by omega), if_pos (by omega)])
  refine size_loop n 4 21 2097152 _ (by decide +kernel) (by omega) rfl (by omega) (fun c4 => ?_) (fun c => by unfold nsize; rw [if_neg (by omega), if_neg (by omega), if_neg (by omega), if_pos (by omega)])
  refine size_loop n 5 26 67108864 _ (by decide +kernel) (by omega) rfl (by omega) (fun c5 => ?_) (fun c => by unfold nsize; rw [if_neg (by omega), if_neg (by omega), if_neg (by omega), if_neg (by omega), if_pos (by omega)])
  refine size_loop n 6 31 2147483648 _ (by decide +kernel) (by omega) rfl (by omega) (fun c6 => ?_) (fun c => by unfold nsize; rw [if_neg (by omega), if_neg (by omega), if_neg (by omega), if_neg (by omega), if_neg (by omega), if_pos (by omega)])
  refine size_loop n 7 36 68719476736 _ (by decide +kernel) (by omega) rfl (by omega) (fun c7 => ?_) (fun c => by unfold nsize; rw [if_neg (by omega), if_neg (by omega), if_neg (by omega), if_neg (by omega), if_neg (by omega), if_neg (by omega)])
  omega
end Go.Proofs.Ytdacblackoaphaa.FBoundFrames
namespace Go.Proofs.Ytdacblackoaphaa.FBoundFrames
open Go.RowKit Go.Proofs.YtdacblackoaphaaW.PrintWords Go.Proofs.YtdacblackoaphaaW.PrintLast Go.Proofs.Ytdacblackoaphaa.PBoundFrames Go.Proofs.Ytdacblackoaphaa.L
set_option linter.unusedVariables false
set_option linter.unusedSimpArgs false
theorem index_loop (l : List Int) (a : Int) (hl : l.length ≤ 9223372036854775806) (d : Nat) : ∀ (i : Nat), i + d = l.length →
    Ev (fun k => slices_Index_int_int.l0 k l a (l.length : Int) (i : Int)) (where_ a (l.drop i) i) := by
  induction d with
  | zero =>
    intro i hi
    refine Ev.step (fun k => slices_Index_int_int.l0.eq_2 ..) ?_
    refine evF (by omega) ?_
    rw [List.drop_eq_nil_of_le (by omega)]
    exact Ev.now _
  | succ d ih =>
    intro i hi
    have hlt : i < l.length := by omega
    refine Ev.step (fun k => slices_Index_int_int.l0.eq_2 ..) ?_
    refine evT (by omega) ?_
    refine evT (by omega) ?_
    refine evT (by omega) ?_
    rw [rd_nat l i hlt, drop_cons_rd l i hlt]
    unfold where_
    refine evIte (fun e => ?_) (fun e => ?_)
    · rw [if_pos e]; exact Ev.now _
    · rw [if_neg e, wr _ (by omega)]
      exact ih (i + 1) (by omega)
theorem index_ev (l : List Int) (a : Int) (hl : l.length ≤ 9223372036854775806) : Ev (fun k => slices_Index_int_int.f k l a) (where_ a l 0) := by
  unfold slices_Index_int_int.f
  exact index_loop l a hl l.length 0 (by omega)
end Go.Proofs.Ytdacblackoaphaa.FBoundFrames
namespace Go.Proofs.Ytdacblackoaphaa.FBoundFrames
open Go.RowKit Go.Proofs.YtdacblackoaphaaW.PrintWords Go.Proofs.YtdacblackoaphaaW.PrintLast Go.Proofs.Ytdacblackoaphaa.PBoundFrames Go.Proofs.Ytdacblackoaphaa.L
set_option linter.unusedVariables false
set_option linter.unusedSimpArgs false
theorem contains_ev (l : List Int) (a : Int) (hl : l.length ≤ 9223372036854775806) : Ev (fun k => slices_Contains_int_int.f k l a) (decide (a ∈ l)) := by
  unfold slices_Contains_int_int.f
  refine evB (index_ev l a hl) ?_
  refine evR (Ev.now _) ?_
  rw [decide_eq_decide]
  exact where_rng a l 0 (by omega)
end Go.Proofs.Ytdacblackoaphaa.FBoundFrames
namespace Go.Proofs.Ytdacblackoaphaa.FBoundFrames
open Go.RowKit Go.Proofs.YtdacblackoaphaaW.PrintWords Go.Proofs.YtdacblackoaphaaW.PrintLast Go.Proofs.Ytdacblackoaphaa.PBoundFrames Go.Proofs.Ytdacblackoaphaa.L
set_option linter.unusedVariables false
set_option linter.unusedSimpArgs false
theorem block_ev (n : Int) : Ev (fun k => bound_block.f k n) (blk n) := by
  unfold bound_block.f
  refine evC rfl ?_
  refine evB (contains_ev _ n (by decide)) ?_
  unfold blk
  by_cases e : n ∈ blockList
  · rw [if_pos e]
    exact evT (decide_eq_true e) (Ev.now _)
  · rw [if_neg e]
    refine evF (fun h => e (of_decide_eq_true h)) ?_
    exact evI (Ev.now _) (Ev.now _)
theorem rate_ev (n : Int) (h : 0 ≤ n) : Ev (fun k => bound_rate.f k n) (rte n) := by
  unfold bound_rate.f
  refine evC rfl ?_
  refine evB (contains_ev _ n (by decide)) ?_
  rw [tmod_pos n 1000 h]
  unfold rte
  by_cases e : n ∈ rateList
  · rw [if_pos e]
    exact evT (decide_eq_true e) (Ev.now _)
  · rw [if_neg e]
    refine evF (fun h => e (of_decide_eq_true h)) ?_
    have hj : Ev (fun k => bound_rate.j0 k n false) (if n ≤ 65535 ∨ (n % 10 = 0 ∧ n ≤ 655350) then 2 else 0) := by
      refine Ev.step (fun k => bound_rate.j0.eq_2 ..) ?_
      refine evF (by simp) ?_
      rw [tmod_pos n 10 h]
      by_cases c1 : n ≤ 65535
      · rw [if_pos (Or.inl c1)]; exact evT c1 (Ev.now _)
      · refine evF c1 ?_
        by_cases c2 : n % 10 = 0
        · refine evT c2 ?_
          by_cases c3 : n ≤ 655350
          · rw [if_pos (Or.inr ⟨c2, c3⟩)]; exact evT c3 (Ev.now _)
          · refine evF c3 ?_
            rw [if_neg (show ¬ (n ≤ 65535 ∨ (n % 10 = 0 ∧ n ≤ 655350)) by omega)]; exact Ev.now _
        · refine evF c2 ?_
          rw [if_neg (show ¬ (n ≤ 65535 ∨ (n % 10 = 0 ∧ n ≤ 655350)) by omega)]; exact Ev.now _
    by_cases c1 : n % 1000 = 0
    · refine evT c1 ?_
      by_cases c2 : n ≤ 255000
      · rw [if_pos ⟨c1, c2⟩, decide_eq_true c2]
        refine Ev.step (fun k => bound_rate.j0.eq_2 ..) ?_
        exact evT rfl (Ev.now _)
      · rw [if_neg (by omega), decide_eq_false c2]
        exact hj
    · rw [if_neg (by omega)]
      exact evF c1 hj
theorem head_ev (b r n : Int) (h : 0 ≤ r) (h0 : 0 ≤ n) (h1 : n ≤ 68719476735) : Ev (fun k => bound_Head.f k b r n) (5 + nsize n + blk b + rte r) := by
  unfold bound_Head.f
  have := nsize_rng n
  have := blk_rng b
  have := rte_rng r
  refine evB (size_in n h0 h1) ?_
  refine evB (block_ev b) ?_
  refine evB (rate_ev r h) ?_
  rw [wr (5 + nsize n) (by omega), wr (5 + nsize n + blk b) (by omega), wr _ (by omega)]
  exact Ev.now _
theorem body_some (b c d : Int) (hb : 1 ≤ b ∧ b ≤ 65535) (hc : 1 ≤ c ∧ c ≤ 8) (hd : 4 ≤ d ∧ d ≤ 32) : bound_body.f b c d = some (bdy b c d) := by
  have h := bdy_bits b c d hb hc hd
  unfold bound_body.f bound_full.f bdy
  rw [wr (d * b) (by omega), wr (8 + d * b) (by omega), wr (c * (8 + d * b)) (by omega), wr (c * (8 + d * b) + 8) (by omega), wr (c * (8 + d * b) + 8 - 1) (by omega)]
  rw [tdiv_pos _ _ (by omega), wr ((c * (8 + d * b) + 8 - 1) / 8) (by omega), Option.bind_some, wr _ (by omega)]
  congr 2
  omega
theorem frame_ev (b c r d n : Int) (hb : 1 ≤ b ∧ b ≤ 65535) (hc : 1 ≤ c ∧ c ≤ 8) (hd : 4 ≤ d ∧ d ≤ 32) (h : 0 ≤ r) (h0 : 0 ≤ n) (h1 : n ≤ 68719476735) :
    Ev (fun k => bound_Frame.f k b c r d n) (5 + nsize n + blk b + rte r + bdy b c d) := by
  have := nsize_rng n
  have := blk_rng b
  have := rte_rng r
  have := bdy_rng b c d hb hc hd
  unfold bound_Frame.f
  refine evB (head_ev b r n h h0 h1) ?_
  refine evC (body_some b c d hb hc hd) ?_
  rw [wr _ (by omega)]
  exact Ev.now _
end Go.Proofs.Ytdacblackoaphaa.FBoundFrames
namespace Go.Proofs.Ytdacblackoaphaa.FBoundFrames
open Go.RowKit Go.Proofs.YtdacblackoaphaaW.PrintWords Go.Proofs.YtdacblackoaphaaW.PrintLast Go.Proofs.Ytdacblackoaphaa.PBoundFrames Go.Proofs.Ytdacblackoaphaa.L
set_option linter.unusedVariables false
set_option linter.unusedSimpArgs false
theorem limit_at (i v : Int) (h : bound_limit.f i = some v) : bound_limit.f i = some v := h
theorem numbers_round (m s f i t : Int) (r : Int) (hi : i < 7) (h0 : 0 ≤ i) (hl : bound_limit.f (i + 1) = some t) (hm : 0 ≤ m ∧ m ≤ 68719476736) (hf : 0 ≤ f ∧ f ≤ 68719476736) (hs : 0 ≤ s ∧ s ≤ 3000000000000)
    (h : Ev (fun k => bound_Numbers.l0 k m (s + (max f (min m t) - f) * (i + 1)) (max f (min m t)) (i + 1)) r) : Ev (fun k => bound_Numbers.l0 k m s f i) r := by
  refine Ev.step (fun k => bound_Numbers.l0.eq_2 ..) ?_
  refine evT hi ?_
  rw [wr (i + 1) (by omega)]
  refine evC hl ?_
  rw [mx_eq, mn_eq]
  have hd : 0 ≤ max f (min m t) - f ∧ max f (min m t) - f ≤ 68719476736 := by omega
  have hp : 0 ≤ (max f (min m t) - f) * (i + 1) ∧ (max f (min m t) - f) * (i + 1) ≤ 68719476736 * 7 :=
    ⟨Int.mul_nonneg hd.1 (by omega), Int.mul_le_mul hd.2 (by omega) (by omega) (by omega)⟩
  rw [wr (max f (min m t) - f) (by omega), wr ((max f (min m t) - f) * (i + 1)) (by omega), wr (s + _) (by omega)]
  exact h
theorem numbers_in (m : Int) (h0 : 0 ≤ m) (h1 : m ≤ 68719476736) : Ev (fun k => bound_Numbers.f k m) (numsum m) := by
  unfold bound_Numbers.f
  refine numbers_round m _ _ _ 128 _ (by omega) (by omega) (by decide +kernel) (by omega) (by omega) (by omega) ?_
  refine numbers_round m _ _ _ 2048 _ (by omega) (by omega) (by decide +kernel) (by omega) (by omega) (by omega) ?_
  refine numbers_round m _ _ _ 65536 _ (by omega) (by omega) (by decide +kernel) (by omega) (by omega) (by omega) ?_
  refine numbers_round m _ _ _ 2097152 _ (by omega) (by omega) (by decide +kernel) (by omega) (by omega) (by omega) ?_
  refine numbers_round m _ _ _ 67108864 _ (by omega) (by omega) (by decide +kernel) (by omega) (by omega) (by omega) ?_
  refine numbers_round m _ _ _ 2147483648 _ (by omega) (by omega) (by decide +kernel) (by omega) (by omega) (by omega) ?_
  refine numbers_round m _ _ _ 68719476736 _ (by omega) (by omega) (by decide +kernel) (by omega) (by omega) (by omega) ?_
  refine Ev.step (fun k => bound_Numbers.l0.eq_2 ..) ?_
  refine evF (by omega) ?_
  refine evR (Ev.now _) ?_
  unfold numsum
  omega
end Go.Proofs.Ytdacblackoaphaa.FBoundFrames
