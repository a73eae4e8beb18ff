import Derived.Test.YtdacblackoaphaaWMore
import Derived.Test.YtdacblackoaphaaWLast
import Derived.Test.YtdacblackoaphaaLEv
import Derived.Test.YtdacblackoaphaaLNum
import Derived.Test.YtdacblackoaphaaLEnc
namespace Go.Proofs.Ytdacblackoaphaa.L
open Go.RowKit Go.Proofs.YtdacblackoaphaaW.PrintWords Go.Proofs.YtdacblackoaphaaW.PrintLast
set_option linter.unusedVariables false
set_option linter.unusedSimpArgs false
/-- How many bytes a first one asks for; 0, if it is none. -/
def sizedOf (b : Int) : Int := if b < 128 then 1 else if b < 192 then 0 else if b < 224 then 2 else if b < 240 then 3 else if b < 248 then 4 else if b < 252 then 5 else if b < 254 then 6 else if b < 255 then 7 else 0
/-- What stands behind a first byte, so many bytes: an error, or the number. -/
def decT : Nat → List Int → Int → Int × Int
  | 0, _, n => (0, n)
  | _ + 1, [], _ => (2, 0)
  | j + 1, x :: l, n => if x < 128 ∨ x > 191 then (5, 0) else decT j l (64 * n + (x - 128))
/-- The number that bytes begin with, its size, or what is wrong. -/
def dec : List Int → Int × Int × Int
  | [] => (0, 0, 2)
  | b :: t => if sizedOf b = 0 then (0, 0, 5) else if (decT ((sizedOf b).toNat - 1) t (b - lead (sizedOf b))).1 ≠ 0 then (0, 0, (decT ((sizedOf b).toNat - 1) t (b - lead (sizedOf b))).1)
    else if nsize (decT ((sizedOf b).toNat - 1) t (b - lead (sizedOf b))).2 ≠ sizedOf b then (0, 0, 5) else ((decT ((sizedOf b).toNat - 1) t (b - lead (sizedOf b))).2, sizedOf b, 0)
/-- The end of a decoding. -/
def decEnd (s : Int) (r : Int × Int) : Int × Int × Int := if r.1 ≠ 0 then (0, 0, r.1) else if nsize r.2 ≠ s then (0, 0, 5) else (r.2, s, 0)
theorem dec_at (b : Int) (t : List Int) : dec (b :: t) = if sizedOf b = 0 then (0, 0, 5) else decEnd (sizedOf b) (decT ((sizedOf b).toNat - 1) t (b - lead (sizedOf b))) := rfl
theorem dec_cons (b : Int) (t : List Int) (hs : sizedOf b ≠ 0) : dec (b :: t) = decEnd (sizedOf b) (decT ((sizedOf b).toNat - 1) t (b - lead (sizedOf b))) := by
  rw [dec_at, if_neg hs]
theorem dec_none (b : Int) (t : List Int) (hs : sizedOf b = 0) : dec (b :: t) = (0, 0, 5) := by
  rw [dec_at, if_pos hs]
theorem decEnd_zero (s n : Int) : decEnd s (0, n) = if nsize n = s then (n, s, 0) else (0, 0, 5) := by
  unfold decEnd
  by_cases c : nsize n = s <;> simp [c]
theorem sizedOf_rng (b : Int) : 0 ≤ sizedOf b ∧ sizedOf b ≤ 7 := by unfold sizedOf; omega
theorem first_low (b : Int) (h : 0 ≤ b ∧ b ≤ 255) (hs : sizedOf b ≠ 0) : 0 ≤ b - lead (sizedOf b) ∧ (b - lead (sizedOf b) + 1) * 64 ^ ((sizedOf b).toNat - 1) ≤ 68719476736 := by
  unfold sizedOf at hs ⊢
  by_cases c1 : b < 128
  · rw [if_pos c1]; show 0 ≤ b - 0 ∧ (b - 0 + 1) * 1 ≤ _; omega
  rw [if_neg c1] at hs ⊢
  by_cases c2 : b < 192
  · rw [if_pos c2] at hs; exact absurd rfl hs
  rw [if_neg c2] at hs ⊢
  by_cases c3 : b < 224
  · rw [if_pos c3]; show 0 ≤ b - 192 ∧ (b - 192 + 1) * 64 ≤ _; omega
  rw [if_neg c3] at hs ⊢
  by_cases c4 : b < 240
  · rw [if_pos c4]; show 0 ≤ b - 224 ∧ (b - 224 + 1) * 4096 ≤ _; omega
  rw [if_neg c4] at hs ⊢
  by_cases c5 : b < 248
  · rw [if_pos c5]; show 0 ≤ b - 240 ∧ (b - 240 + 1) * 262144 ≤ _; omega
  rw [if_neg c5] at hs ⊢
  by_cases c6 : b < 252
  · rw [if_pos c6]; show 0 ≤ b - 248 ∧ (b - 248 + 1) * 16777216 ≤ _; omega
  rw [if_neg c6] at hs ⊢
  by_cases c7 : b < 254
  · rw [if_pos c7]; show 0 ≤ b - 252 ∧ (b - 252 + 1) * 1073741824 ≤ _; omega
  rw [if_neg c7] at hs ⊢
  by_cases c8 : b < 255
  · rw [if_pos c8]; show 0 ≤ b - 254 ∧ (b - 254 + 1) * 68719476736 ≤ _; omega
  rw [if_neg c8] at hs
  exact absurd rfl hs
theorem decT_rng : ∀ (j : Nat) (l : List Int) (n : Int), 0 ≤ n → (n + 1) * 64 ^ j ≤ 68719476736 → 0 ≤ (decT j l n).2 ∧ (decT j l n).2 ≤ 68719476735
  | 0, _, n, h0, h => by rw [Int.pow_zero] at h; simp only [decT]; omega
  | _ + 1, [], _, _, _ => by simp [decT]
  | j + 1, x :: l, n, h0, h => by
    unfold decT
    split
    · simp
    · refine decT_rng j l _ (by omega) ?_
      rw [Int.pow_succ] at h
      have h1 : (64 * n + (x - 128) + 1) * 64 ^ j ≤ ((n + 1) * 64) * 64 ^ j := Int.mul_le_mul_of_nonneg_right (by omega) (Int.pow_nonneg (by omega))
      have h2 : ((n + 1) * 64) * 64 ^ j = (n + 1) * (64 ^ j * 64) := by rw [Int.mul_assoc, Int.mul_comm 64]
      omega
theorem decT_err : ∀ (j : Nat) (l : List Int) (n : Int), (decT j l n).1 = 0 ∨ (decT j l n).1 = 2 ∨ (decT j l n).1 = 5
  | 0, _, _ => by simp [decT]
  | _ + 1, [], _ => by simp [decT]
  | j + 1, x :: l, n => by
    unfold decT
    split
    · simp
    · exact decT_err j l _
end Go.Proofs.Ytdacblackoaphaa.L
