import Derived.Test.YtgdgncdnhpflcaaPStereoBackx2
import Derived.Test.YtgdgncdnhpflcaaLEv
import Derived.Test.YtgdgncdnhpflcaaLDepth
namespace Go.Proofs.Ytgdgncdnhpflcaa.FStereoBack
open Go.RowKit Go.Proofs.YtgdgncdnhpflcaaW.PrintWords Go.Proofs.YtgdgncdnhpflcaaW.PrintLast Go.Proofs.Ytgdgncdnhpflcaa.PStereoBack Go.Proofs.Ytgdgncdnhpflcaa.L
set_option linter.unusedVariables false
set_option linter.unusedSimpArgs false
theorem in_some (n d : Int) (hd : 1 ≤ d ∧ d ≤ 62) : pcm_In.f n d = some (decide (inDepth n d)) := by
  have hp := pow_range (d - 1).toNat (by omega)
  have hi : (n / 2 ^ (d - 1).toNat = 0 ∨ n / 2 ^ (d - 1).toNat = -1) ↔ inDepth n d := div_in n (2 ^ (d - 1).toNat) hp.1
  unfold pcm_In.f
  rw [if_neg (by omega), if_neg (by omega), wr _ (by omega), if_pos (by omega), shr_at n (d - 1) (by omega)]
  by_cases c : n / 2 ^ (d - 1).toNat = 0
  · rw [if_pos c, decide_eq_true (hi.1 (Or.inl c))]
  · rw [if_neg c]
    by_cases c2 : n / 2 ^ (d - 1).toNat = -1
    · rw [decide_eq_true (hi.1 (Or.inr c2)), c2]; rfl
    · rw [decide_eq_false (fun h => (hi.2 h).elim c c2)]
      congr 1
      simpa using c2
end Go.Proofs.Ytgdgncdnhpflcaa.FStereoBack
