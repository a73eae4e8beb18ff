import Derived.Lib.Strings
import Derived.Laws.RangeAny
import Derived.Test.YtpeejdmbnlhjmaaWMore
import Derived.Test.YtpeejdmbnlhjmaaWLast
import Derived.Test.YtpeejdmbnlhjmaaLEv
import Derived.Test.YtpeejdmbnlhjmaaLNum
namespace Go.Proofs.Ytpeejdmbnlhjmaa.L
open Go.RowKit Go.Proofs.YtpeejdmbnlhjmaaW.PrintWords Go.Proofs.YtpeejdmbnlhjmaaW.PrintLast
set_option linter.unusedVariables false
set_option linter.unusedSimpArgs false
/-- What bytes begin with: a rune and its size; size 0: none. b0: the first byte, m: how many there are. -/
def runV (m b0 b1 b2 b3 : Nat) : Nat × Nat :=
  if b0 < 128 then (b0, 1)
  else if 194 ≤ b0 ∧ b0 ≤ 223 then (if 2 ≤ m ∧ (128 ≤ b1 ∧ b1 ≤ 191) then ((b0 - 192) * 64 + (b1 - 128), 2) else (0, 0))
  else if 224 ≤ b0 ∧ b0 ≤ 239 then (if 3 ≤ m ∧ (128 ≤ b1 ∧ b1 ≤ 191) ∧ (128 ≤ b2 ∧ b2 ≤ 191) ∧ 2048 ≤ ((b0 - 224) * 64 + (b1 - 128)) * 64 + (b2 - 128) ∧ (((b0 - 224) * 64 + (b1 - 128)) * 64 + (b2 - 128) < 55296 ∨ 57343 < ((b0 - 224) * 64 + (b1 - 128)) * 64 + (b2 - 128)) then (((b0 - 224) * 64 + (b1 - 128)) * 64 + (b2 - 128), 3) else (0, 0))
  else if 240 ≤ b0 ∧ b0 ≤ 244 then (if 4 ≤ m ∧ (128 ≤ b1 ∧ b1 ≤ 191) ∧ (128 ≤ b2 ∧ b2 ≤ 191) ∧ (128 ≤ b3 ∧ b3 ≤ 191) ∧ 65536 ≤ (((b0 - 240) * 64 + (b1 - 128)) * 64 + (b2 - 128)) * 64 + (b3 - 128) ∧ (((b0 - 240) * 64 + (b1 - 128)) * 64 + (b2 - 128)) * 64 + (b3 - 128) ≤ 1114111 then ((((b0 - 240) * 64 + (b1 - 128)) * 64 + (b2 - 128)) * 64 + (b3 - 128), 4) else (0, 0))
  else (0, 0)
def runeN (s : ByteArray) (p : Nat) : Nat × Nat := runV (s.size - p) (s.get! (p + 0)).toNat (s.get! (p + 1)).toNat (s.get! (p + 2)).toNat (s.get! (p + 3)).toNat
theorem valid_iff (c : Nat) : Utf8.valid (c : Int) = true ↔ c < 55296 ∨ 57343 < c ∧ c ≤ 1114111 := by
  unfold Utf8.valid
  simp only [Bool.or_eq_true, Bool.and_eq_true, decide_eq_true_eq]
  omega
theorem dec_good {s : ByteArray} {p : Nat} {v : Nat × Nat} (hr : runeN s p = v) (hz : v.2 ≠ 0) (hd : Utf8.decode s p = v) : Utf8.decode s p = if (runeN s p).2 = 0 then (65533, 1) else runeN s p := by
  rw [hr, if_neg hz, hd]
theorem dec_bad {s : ByteArray} {p : Nat} (hr : runeN s p = (0, 0)) (hd : Utf8.decode s p = (65533, 1)) : Utf8.decode s p = if (runeN s p).2 = 0 then (65533, 1) else runeN s p := by
  rw [hr, hd]
  rfl
theorem dec_run (s : ByteArray) (p : Nat) : Utf8.decode s p = if (runeN s p).2 = 0 then (65533, 1) else runeN s p := by
  have h0 := (s.get! (p + 0)).toNat_lt
  have h1 := (s.get! (p + 1)).toNat_lt
  have h2 := (s.get! (p + 2)).toNat_lt
  have h3 := (s.get! (p + 3)).toNat_lt
  by_cases c0 : (s.get! (p + 0)).toNat < 128
  · exact dec_good (v := ((s.get! (p + 0)).toNat, 1)) (by unfold runeN runV; rw [if_pos c0]) (Nat.succ_ne_zero _) (by unfold Utf8.decode; dsimp only; rw [if_pos c0])
  by_cases c2 : 194 ≤ (s.get! (p + 0)).toNat ∧ (s.get! (p + 0)).toNat ≤ 223
  · by_cases d : 2 ≤ s.size - p ∧ (128 ≤ (s.get! (p + 1)).toNat ∧ (s.get! (p + 1)).toNat ≤ 191)
    · refine dec_good (v := (((s.get! (p + 0)).toNat - 192) * 64 + ((s.get! (p + 1)).toNat - 128), 2)) (by unfold runeN runV; rw [if_neg c0, if_pos c2, if_pos d]) (Nat.succ_ne_zero _) ?_
      unfold Utf8.decode
      dsimp only
      rw [if_neg c0, if_pos (by simp only [Bool.and_eq_true, decide_eq_true_eq, beq_iff_eq]; omega), if_pos (by omega), Prod.mk.injEq]
      exact ⟨by omega, rfl⟩
    · refine dec_bad (by unfold runeN runV; rw [if_neg c0, if_pos c2, if_neg d]) ?_
      unfold Utf8.decode
      dsimp only
      rw [if_neg c0, if_neg (by simp only [Bool.and_eq_true, decide_eq_true_eq, beq_iff_eq]; omega), if_neg (by simp only [Bool.and_eq_true, decide_eq_true_eq, beq_iff_eq]; omega), if_neg (by simp only [Bool.and_eq_true, decide_eq_true_eq, beq_iff_eq]; omega)]
      rfl
  by_cases c3 : 224 ≤ (s.get! (p + 0)).toNat ∧ (s.get! (p + 0)).toNat ≤ 239
  · by_cases e : 3 ≤ s.size - p ∧ (128 ≤ (s.get! (p + 1)).toNat ∧ (s.get! (p + 1)).toNat ≤ 191) ∧ (128 ≤ (s.get! (p + 2)).toNat ∧ (s.get! (p + 2)).toNat ≤ 191)
    · have en : (s.get! (p + 0)).toNat % 16 * 4096 + (s.get! (p + 1)).toNat % 64 * 64 + (s.get! (p + 2)).toNat % 64 = (((s.get! (p + 0)).toNat - 224) * 64 + ((s.get! (p + 1)).toNat - 128)) * 64 + ((s.get! (p + 2)).toNat - 128) := by omega
      have vn := valid_iff ((((s.get! (p + 0)).toNat - 224) * 64 + ((s.get! (p + 1)).toNat - 128)) * 64 + ((s.get! (p + 2)).toNat - 128))
      by_cases d : 2048 ≤ (((s.get! (p + 0)).toNat - 224) * 64 + ((s.get! (p + 1)).toNat - 128)) * 64 + ((s.get! (p + 2)).toNat - 128) ∧ ((((s.get! (p + 0)).toNat - 224) * 64 + ((s.get! (p + 1)).toNat - 128)) * 64 + ((s.get! (p + 2)).toNat - 128) < 55296 ∨ 57343 < (((s.get! (p + 0)).toNat - 224) * 64 + ((s.get! (p + 1)).toNat - 128)) * 64 + ((s.get! (p + 2)).toNat - 128))
      · refine dec_good (v := ((((s.get! (p + 0)).toNat - 224) * 64 + ((s.get! (p + 1)).toNat - 128)) * 64 + ((s.get! (p + 2)).toNat - 128), 3)) (by unfold runeN runV; rw [if_neg c0, if_neg c2, if_pos c3, if_pos ⟨e.1, e.2.1, e.2.2, d.1, d.2⟩]) (Nat.succ_ne_zero _) ?_
        unfold Utf8.decode
        dsimp only
        rw [if_neg c0, if_neg (by simp only [Bool.and_eq_true, decide_eq_true_eq, beq_iff_eq]; omega), if_pos (by simp only [Bool.and_eq_true, decide_eq_true_eq, beq_iff_eq]; omega), en, if_pos (by simp only [Bool.and_eq_true, decide_eq_true_eq, vn]; omega)]
      · refine dec_bad (by unfold runeN runV; rw [if_neg c0, if_neg c2, if_pos c3, if_neg (fun q => d ⟨q.2.2.2.1, q.2.2.2.2⟩)]) ?_
        unfold Utf8.decode
        dsimp only
        rw [if_neg c0, if_neg (by simp only [Bool.and_eq_true, decide_eq_true_eq, beq_iff_eq]; omega), if_pos (by simp only [Bool.and_eq_true, decide_eq_true_eq, beq_iff_eq]; omega), en, if_neg (by simp only [Bool.and_eq_true, decide_eq_true_eq, vn]; omega)]
        rfl
    · refine dec_bad (by unfold runeN runV; rw [if_neg c0, if_neg c2, if_pos c3, if_neg (fun q => e ⟨q.1, q.2.1, q.2.2.1⟩)]) ?_
      unfold Utf8.decode
      dsimp only
      rw [if_neg c0, if_neg (by simp only [Bool.and_eq_true, decide_eq_true_eq, beq_iff_eq]; omega), if_neg (by simp only [Bool.and_eq_true, decide_eq_true_eq, beq_iff_eq]; omega), if_neg (by simp only [Bool.and_eq_true, decide_eq_true_eq, beq_iff_eq]; omega)]
      rfl
  by_cases c4 : 240 ≤ (s.get! (p + 0)).toNat ∧ (s.get! (p + 0)).toNat ≤ 244
  · by_cases e : 4 ≤ s.size - p ∧ (128 ≤ (s.get! (p + 1)).toNat ∧ (s.get! (p + 1)).toNat ≤ 191) ∧ (128 ≤ (s.get! (p + 2)).toNat ∧ (s.get! (p + 2)).toNat ≤ 191) ∧ (128 ≤ (s.get! (p + 3)).toNat ∧ (s.get! (p + 3)).toNat ≤ 191)
    · have en : (s.get! (p + 0)).toNat % 8 * 262144 + (s.get! (p + 1)).toNat % 64 * 4096 + (s.get! (p + 2)).toNat % 64 * 64 + (s.get! (p + 3)).toNat % 64 = ((((s.get! (p + 0)).toNat - 240) * 64 + ((s.get! (p + 1)).toNat - 128)) * 64 + ((s.get! (p + 2)).toNat - 128)) * 64 + ((s.get! (p + 3)).toNat - 128) := by omega
      have vn := valid_iff (((((s.get! (p + 0)).toNat - 240) * 64 + ((s.get! (p + 1)).toNat - 128)) * 64 + ((s.get! (p + 2)).toNat - 128)) * 64 + ((s.get! (p + 3)).toNat - 128))
      by_cases d : 65536 ≤ ((((s.get! (p + 0)).toNat - 240) * 64 + ((s.get! (p + 1)).toNat - 128)) * 64 + ((s.get! (p + 2)).toNat - 128)) * 64 + ((s.get! (p + 3)).toNat - 128) ∧ ((((s.get! (p + 0)).toNat - 240) * 64 + ((s.get! (p + 1)).toNat - 128)) * 64 + ((s.get! (p + 2)).toNat - 128)) * 64 + ((s.get! (p + 3)).toNat - 128) ≤ 1114111
      · refine dec_good (v := (((((s.get! (p + 0)).toNat - 240) * 64 + ((s.get! (p + 1)).toNat - 128)) * 64 + ((s.get! (p + 2)).toNat - 128)) * 64 + ((s.get! (p + 3)).toNat - 128), 4)) (by unfold runeN runV; rw [if_neg c0, if_neg c2, if_neg c3, if_pos c4, if_pos ⟨e.1, e.2.1, e.2.2.1, e.2.2.2, d.1, d.2⟩]) (Nat.succ_ne_zero _) ?_
        unfold Utf8.decode
        dsimp only
        rw [if_neg c0, if_neg (by simp only [Bool.and_eq_true, decide_eq_true_eq, beq_iff_eq]; omega), if_neg (by simp only [Bool.and_eq_true, decide_eq_true_eq, beq_iff_eq]; omega), if_pos (by simp only [Bool.and_eq_true, decide_eq_true_eq, beq_iff_eq]; omega), en, if_pos (by simp only [Bool.and_eq_true, decide_eq_true_eq, vn]; omega)]
      · refine dec_bad (by unfold runeN runV; rw [if_neg c0, if_neg c2, if_neg c3, if_pos c4, if_neg (fun q => d ⟨q.2.2.2.2.1, q.2.2.2.2.2⟩)]) ?_
        unfold Utf8.decode
        dsimp only
        rw [if_neg c0, if_neg (by simp only [Bool.and_eq_true, decide_eq_true_eq, beq_iff_eq]; omega), if_neg (by simp only [Bool.and_eq_true, decide_eq_true_eq, beq_iff_eq]; omega), if_pos (by simp only [Bool.and_eq_true, decide_eq_true_eq, beq_iff_eq]; omega), en, if_neg (by simp only [Bool.and_eq_true, decide_eq_true_eq, vn]; omega)]
        rfl
    · refine dec_bad (by unfold runeN runV; rw [if_neg c0, if_neg c2, if_neg c3, if_pos c4, if_neg (fun q => e ⟨q.1, q.2.1, q.2.2.1, q.2.2.2.1⟩)]) ?_
      unfold Utf8.decode
      dsimp only
      rw [if_neg c0, if_neg (by simp only [Bool.and_eq_true, decide_eq_true_eq, beq_iff_eq]; omega), if_neg (by simp only [Bool.and_eq_true, decide_eq_true_eq, beq_iff_eq]; omega), if_neg (by simp only [Bool.and_eq_true, decide_eq_true_eq, beq_iff_eq]; omega)]
      rfl
  refine dec_bad (by unfold runeN runV; rw [if_neg c0, if_neg c2, if_neg c3, if_neg c4]) ?_
  unfold Utf8.decode
  dsimp only
  rw [if_neg c0]
  by_cases q2 : (s.get! (p + 0)).toNat / 32 = 6
  · by_cases w : (p + 1 < s.size) ∧ (s.get! (p + 1)).toNat / 64 = 2
    · rw [if_pos (by simp only [Bool.and_eq_true, decide_eq_true_eq, beq_iff_eq]; omega), if_neg (by omega)]
      rfl
    · rw [if_neg (by simp only [Bool.and_eq_true, decide_eq_true_eq, beq_iff_eq]; omega), if_neg (by simp only [Bool.and_eq_true, decide_eq_true_eq, beq_iff_eq]; omega), if_neg (by simp only [Bool.and_eq_true, decide_eq_true_eq, beq_iff_eq]; omega)]
      rfl
  · rw [if_neg (by simp only [Bool.and_eq_true, decide_eq_true_eq, beq_iff_eq]; omega), if_neg (by simp only [Bool.and_eq_true, decide_eq_true_eq, beq_iff_eq]; omega)]
    by_cases w : (s.get! (p + 0)).toNat / 8 = 30 ∧ (p + 1 < s.size) ∧ (s.get! (p + 1)).toNat / 64 = 2 ∧ (p + 2 < s.size) ∧ (s.get! (p + 2)).toNat / 64 = 2 ∧ (p + 3 < s.size) ∧ (s.get! (p + 3)).toNat / 64 = 2
    · have vn := valid_iff ((s.get! (p + 0)).toNat % 8 * 262144 + (s.get! (p + 1)).toNat % 64 * 4096 + (s.get! (p + 2)).toNat % 64 * 64 + (s.get! (p + 3)).toNat % 64)
      rw [if_pos (by simp only [Bool.and_eq_true, decide_eq_true_eq, beq_iff_eq]; omega), if_neg (by simp only [Bool.and_eq_true, decide_eq_true_eq, vn]; omega)]
      rfl
    · rw [if_neg (by simp only [Bool.and_eq_true, decide_eq_true_eq, beq_iff_eq]; omega)]
      rfl
end Go.Proofs.Ytpeejdmbnlhjmaa.L
