import Derived.Test.YtdacblackoaphaaPNumberRunesx3
import Derived.Laws.BitsLemmas
import Derived.Test.YtdacblackoaphaaLEv
import Derived.Test.YtdacblackoaphaaLNum
import Derived.Test.YtdacblackoaphaaLEnc
import Derived.Test.YtdacblackoaphaaLBits
import Derived.Test.YtdacblackoaphaaLMask
import Derived.Test.YtdacblackoaphaaLDec
import Derived.Test.YtdacblackoaphaaFNumberRunesSize
import Derived.Test.YtdacblackoaphaaFNumberRunesEncode
namespace Go.Proofs.Ytdacblackoaphaa.FNumberRunes
open Go.RowKit Go.Proofs.YtdacblackoaphaaW.PrintWords Go.Proofs.YtdacblackoaphaaW.PrintLast Go.Proofs.Ytdacblackoaphaa.PNumberRunes Go.Proofs.Ytdacblackoaphaa.H Go.Proofs.Ytdacblackoaphaa.L
set_option linter.unusedVariables false
set_option linter.unusedSimpArgs false
theorem sized_all : ∀ b : Fin 256, number_sized.f 20 (b.val : Int) = some (sizedOf (b.val : Int)) := by decide +kernel
theorem sized_ev (b : Int) (h : 0 ≤ b ∧ b ≤ 255) : Ev (fun k => number_sized.f k b) (sizedOf b) := by
  have := sized_all ⟨b.toNat, by omega⟩
  rw [show ((b.toNat : Nat) : Int) = b from Int.toNat_of_nonneg h.1] at this
  exact Ev.of (fun k => number_sized.mono b k) this
theorem low_all : ∀ b : Fin 256, sizedOf (b.val : Int) = 0 ∨ wrap64 (Go.bits .andNot .u8 (b.val : Int) (lead (sizedOf (b.val : Int)))) = (b.val : Int) - lead (sizedOf (b.val : Int)) := by decide +kernel
theorem low_at (b : Int) (h : 0 ≤ b ∧ b ≤ 255) (hs : sizedOf b ≠ 0) : wrap64 (Go.bits .andNot .u8 b (lead (sizedOf b))) = b - lead (sizedOf b) := by
  have := low_all ⟨b.toNat, by omega⟩
  rw [show ((b.toNat : Nat) : Int) = b from Int.toNat_of_nonneg h.1] at this
  exact this.resolve_left hs
theorem tail_all : ∀ b : Fin 256, (Go.bits .and .u8 (b.val : Int) 192 = 128 ↔ 128 ≤ (b.val : Int) ∧ (b.val : Int) ≤ 191) ∧ (128 ≤ (b.val : Int) → (b.val : Int) ≤ 191 → wrap64 (Go.bits .and .u8 (b.val : Int) 63) = (b.val : Int) - 128) := by decide +kernel
theorem tail_at (b : Int) (h : 0 ≤ b ∧ b ≤ 255) : (Go.bits .and .u8 b 192 = 128 ↔ 128 ≤ b ∧ b ≤ 191) ∧ (128 ≤ b → b ≤ 191 → wrap64 (Go.bits .and .u8 b 63) = b - 128) := by
  have := tail_all ⟨b.toNat, by omega⟩
  rw [show ((b.toNat : Nat) : Int) = b from Int.toNat_of_nonneg h.1] at this
  exact this
theorem join64 (n y : Int) (hn : 0 ≤ n ∧ n ≤ 68719476736) (hy : 0 ≤ y ∧ y < 64) : Go.bits .or .i64 (wrap64 (n * 64)) y = 64 * n + y := by
  rw [wr _ (by omega), bits_join .i64 63 (by decide) wraps_i64 6 (n * 64) y (by omega) (by omega) (by omega) hy.1 (by omega) (by omega)]
  omega
theorem dec_loop (l : List Int) (hr : ∀ x ∈ l, 0 ≤ x ∧ x ≤ 255) (s : Int) (hs : 1 ≤ s ∧ s ≤ 7) (hl : l.length ≤ 1000000000) (j : Nat) : ∀ (n : Int) (i : Nat), (i : Int) + j = s → 0 ≤ n → (n + 1) * 64 ^ j ≤ 68719476736 →
    Ev (fun k => number_Decode.l0 k l n s i) (decEnd s (decT j (l.drop i) n)) := by
  induction j with
  | zero =>
    intro n i hi h0 h1
    rw [Int.pow_zero] at h1
    refine Ev.step (fun k => number_Decode.l0.eq_2 ..) ?_
    refine evF (by omega) ?_
    refine evB (size_in n h0 (by omega)) ?_
    show Ev _ (decEnd s (0, n))
    rw [decEnd_zero]
    exact evI (Ev.now _) (Ev.now _)
  | succ j ih =>
    intro n i hi h0 h1
    have hp : (1 : Int) ≤ 64 ^ j := by have := Int.pow_pos (n := 64) (m := j) (by omega); omega
    have h2 : (n + 1) * 64 * 1 ≤ (n + 1) * 64 * 64 ^ j := Int.mul_le_mul_of_nonneg_left hp (by omega)
    have h3 : (n + 1) * 64 * 64 ^ j = (n + 1) * 64 ^ (j + 1) := by rw [Int.pow_succ, Int.mul_assoc, Int.mul_comm 64]
    refine Ev.step (fun k => number_Decode.l0.eq_2 ..) ?_
    refine evT (by omega) ?_
    by_cases c : (i : Int) ≥ (l.length : Int)
    · refine evT c ?_
      rw [List.drop_eq_nil_of_le (by omega)]
      exact Ev.now _
    refine evF c ?_
    have hlt : i < l.length := by omega
    have hx := hr l[i] (List.getElem_mem hlt)
    have ht := tail_at l[i] hx
    refine evT (by omega) ?_
    refine evT (by omega) ?_
    rw [rd_nat l i hlt, drop_cons_rd l i hlt]
    unfold decT
    by_cases c2 : 128 ≤ l[i] ∧ l[i] ≤ 191
    · refine evT (ht.1.2 c2) ?_
      rw [if_neg (by omega), ht.2 c2.1 c2.2, join64 n (l[i] - 128) (by omega) (by omega), wr _ (by omega)]
      refine ih (64 * n + (l[i] - 128)) (i + 1) (by omega) (by omega) ?_
      have h4 : (64 * n + (l[i] - 128) + 1) * 64 ^ j ≤ ((n + 1) * 64) * 64 ^ j := Int.mul_le_mul_of_nonneg_right (by omega) (by omega)
      omega
    · refine evF (fun h => c2 (ht.1.1 h)) ?_
      rw [if_pos (by omega)]
      exact Ev.now _
theorem dec_ev (l : List Int) (hr : ∀ x ∈ l, 0 ≤ x ∧ x ≤ 255) (hl : l.length ≤ 1000000000) : Ev (fun k => number_Decode.f k l) (dec l) := by
  unfold number_Decode.f
  cases l with
  | nil => exact evT rfl (Ev.now _)
  | cons b t =>
    have hb := hr b (by simp)
    have hs := sizedOf_rng b
    refine evF (by simp <;> omega) ?_
    refine evT (by simp <;> omega) ?_
    rw [show rd (b :: t) 0 = b from rfl]
    refine evB (sized_ev b hb) ?_
    by_cases c : sizedOf b = 0
    · refine evT c ?_
      rw [dec_none b t c]
      exact Ev.now _
    refine evF c ?_
    refine evC (first_at (sizedOf b) (by omega)) ?_
    rw [low_at b hb c, dec_cons b t c]
    have hf := first_low b hb c
    exact dec_loop (b :: t) hr (sizedOf b) (by omega) hl ((sizedOf b).toNat - 1) (b - lead (sizedOf b)) 1 (by omega) hf.1 hf.2
end Go.Proofs.Ytdacblackoaphaa.FNumberRunes
