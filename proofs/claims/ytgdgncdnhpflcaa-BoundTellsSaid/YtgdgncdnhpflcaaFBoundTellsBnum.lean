import Derived.Test.YtgdgncdnhpflcaaPBoundTellsx6
import Derived.Test.YtgdgncdnhpflcaaLEv
import Derived.Test.YtgdgncdnhpflcaaLNum
import Derived.Test.YtgdgncdnhpflcaaFBoundTellsSize
namespace Go.Proofs.Ytgdgncdnhpflcaa.FBoundTells
open Go.RowKit Go.Proofs.YtgdgncdnhpflcaaW.PrintWords Go.Proofs.YtgdgncdnhpflcaaW.PrintLast Go.Proofs.Ytgdgncdnhpflcaa.PBoundTells Go.Proofs.Ytgdgncdnhpflcaa.L
set_option linter.unusedVariables false
set_option linter.unusedSimpArgs false
theorem limit_at (i v : Int) (h : bound_limit.f i = some v) : bound_limit.f i = some v := h
theorem numbers_round (m s f i t : Int) (r : Int) (hi : i < 7) (h0 : 0 ≤ i) (hl : bound_limit.f (i + 1) = some t) (hm : 0 ≤ m ∧ m ≤ 68719476736) (hf : 0 ≤ f ∧ f ≤ 68719476736) (hs : 0 ≤ s ∧ s ≤ 3000000000000)
    (h : Ev (fun k => bound_Numbers.l0 k m (s + (max f (min m t) - f) * (i + 1)) (max f (min m t)) (i + 1)) r) : Ev (fun k => bound_Numbers.l0 k m s f i) r := by
  refine Ev.step (fun k => bound_Numbers.l0.eq_2 ..) ?_
  refine evT hi ?_
  rw [wr (i + 1) (by omega)]
  refine evC hl ?_
  rw [mx_eq, mn_eq]
  have hd : 0 ≤ max f (min m t) - f ∧ max f (min m t) - f ≤ 68719476736 := by omega
  have hp : 0 ≤ (max f (min m t) - f) * (i + 1) ∧ (max f (min m t) - f) * (i + 1) ≤ 68719476736 * 7 :=
    ⟨Int.mul_nonneg hd.1 (by omega), Int.mul_le_mul hd.2 (by omega) (by omega) (by omega)⟩
  rw [wr (max f (min m t) - f) (by omega), wr ((max f (min m t) - f) * (i + 1)) (by omega), wr (s + _) (by omega)]
  exact h
theorem numbers_in (m : Int) (h0 : 0 ≤ m) (h1 : m ≤ 68719476736) : Ev (fun k => bound_Numbers.f k m) (numsum m) := by
  unfold bound_Numbers.f
  refine numbers_round m _ _ _ 128 _ (by omega) (by omega) (by decide +kernel) (by omega) (by omega) (by omega) ?_
  refine numbers_round m _ _ _ 2048 _ (by omega) (by omega) (by decide +kernel) (by omega) (by omega) (by omega) ?_
  refine numbers_round m _ _ _ 65536 _ (by omega) (by omega) (by decide +kernel) (by omega) (by omega) (by omega) ?_
  refine numbers_round m _ _ _ 2097152 _ (by omega) (by omega) (by decide +kernel) (by omega) (by omega) (by omega) ?_
  refine numbers_round m _ _ _ 67108864 _ (by omega) (by omega) (by decide +kernel) (by omega) (by omega) (by omega) ?_
  refine numbers_round m _ _ _ 2147483648 _ (by omega) (by omega) (by decide +kernel) (by omega) (by omega) (by omega) ?_
  refine numbers_round m _ _ _ 68719476736 _ (by omega) (by omega) (by decide +kernel) (by omega) (by omega) (by omega) ?_
  refine Ev.step (fun k => bound_Numbers.l0.eq_2 ..) ?_
  refine evF (by omega) ?_
  refine evR (Ev.now _) ?_
  unfold numsum
  omega
end Go.Proofs.Ytgdgncdnhpflcaa.FBoundTells
