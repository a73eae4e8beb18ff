import Derived.Test.YtgdgncdnhpflcaaPNumberTellsx5
import Derived.Test.YtgdgncdnhpflcaaLEv
import Derived.Test.YtgdgncdnhpflcaaLNum
import Derived.Test.YtgdgncdnhpflcaaLEnc
import Derived.Test.YtgdgncdnhpflcaaFNumberTellsRefsize
namespace Go.Proofs.Ytgdgncdnhpflcaa.FNumberTells
open Go.RowKit Go.Proofs.YtgdgncdnhpflcaaW.PrintWords Go.Proofs.YtgdgncdnhpflcaaW.PrintLast Go.Proofs.Ytgdgncdnhpflcaa.PNumberTells Go.Proofs.Ytgdgncdnhpflcaa.L
set_option linter.unusedVariables false
set_option linter.unusedSimpArgs false
theorem rlead (s : Int) (h : 1 ≤ s ∧ s ≤ 7) : serinetteref03_Lead.f s = some (lead s) := by
  have : s = 1 ∨ s = 2 ∨ s = 3 ∨ s = 4 ∨ s = 5 ∨ s = 6 ∨ s = 7 := by omega
  rcases this with rfl | rfl | rfl | rfl | rfl | rfl | rfl <;> decide +kernel
theorem renc_loop (s : Int) (hs : 1 ≤ s ∧ s ≤ 7) (j : Nat) : ∀ (n : Int) (out : List Int) (i : Int), 0 ≤ n ∧ n ≤ 68719476735 → i + j = s → 1 ≤ i → out.length + j ≤ 7 →
    Ev (fun k => serinetteref03_Encode.l0 k n s out i) ((lead s + n / 64 ^ j) % 256 :: (encTail j n ++ out), 0) := by
  have hl : 0 ≤ lead s ∧ lead s ≤ 254 := by unfold lead; omega
  induction j with
  | zero =>
    intro n out i hn hi h1 ho
    refine Ev.step (fun k => serinetteref03_Encode.l0.eq_2 ..) ?_
    refine evF (by omega) ?_
    refine evC (rlead s hs) ?_
    refine evC rfl ?_
    refine evT (by simp; omega) ?_
    rw [wr _ (by omega)]
    simp only [Int.pow_zero, Int.ediv_one, encTail, List.nil_append, List.cons_append]
    exact Ev.now _
  | succ j ih =>
    intro n out i hn hi h1 ho
    refine Ev.step (fun k => serinetteref03_Encode.l0.eq_2 ..) ?_
    refine evT (by omega) ?_
    refine evC rfl ?_
    refine evT (by simp; omega) ?_
    rw [tmod_pos _ _ (by omega), tdiv_pos _ _ (by omega), wr (128 + n % 64) (by omega), wr (n / 64) (by omega), wr (i + 1) (by omega)]
    have := ih (n / 64) ([(128 + n % 64) % 256] ++ out) (i + 1) (by omega) (by omega) (by omega) (by simp; omega)
    refine evR this ?_
    have e : n / 64 / 64 ^ j = n / 64 ^ (j + 1) := by
      rw [Int.pow_succ, Int.mul_comm (64 ^ j) 64, Int.ediv_ediv_of_nonneg (by omega)]
    rw [e, show (128 + n % 64) % 256 = 128 + n % 64 by omega]
    simp [encTail]
theorem renc_in (n : Int) (h0 : 0 ≤ n) (h1 : n ≤ 68719476735) : Ev (fun k => serinetteref03_Encode.f k n) (encBytes n, 0) := by
  have hs := nsize_rng n
  have hh := encHead_rng n h0 h1
  unfold serinetteref03_Encode.f
  refine evB (rsize_in n h0 h1) ?_
  refine evF (by omega) ?_
  refine evR (renc_loop (nsize n) hs ((nsize n).toNat - 1) n [] 1 ⟨h0, h1⟩ (by omega) (by omega) (by simp; omega)) ?_
  rw [List.append_nil]
  unfold encBytes
  rw [show (lead (nsize n) + n / 64 ^ ((nsize n).toNat - 1)) = encHead n from rfl, show encHead n % 256 = encHead n by omega]
end Go.Proofs.Ytgdgncdnhpflcaa.FNumberTells
