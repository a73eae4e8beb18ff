import Derived.Laws.BitsLemmas
import Derived.Test.YtdacblackoaphaaWMore
import Derived.Test.YtdacblackoaphaaWLast
import Derived.Test.YtdacblackoaphaaLEv
import Derived.Test.YtdacblackoaphaaLBits
namespace Go.Proofs.Ytdacblackoaphaa.L
open Go.RowKit Go.Proofs.YtdacblackoaphaaW.PrintWords Go.Proofs.YtdacblackoaphaaW.PrintLast
set_option linter.unusedVariables false
set_option linter.unusedSimpArgs false
theorem i64_mask (x : Int) (i : Nat) (hi : i ≤ 62) : Go.bits .and .i64 x (2 ^ i - 1) = x % 2 ^ i := by
  have hp : 0 < 2 ^ i := Nat.two_pow_pos i
  have hle : 2 ^ i ≤ 2 ^ 62 := Nat.pow_le_pow_right (by decide) hi
  have h62 : (2 : Nat) ^ 62 = 4611686018427387904 := rfl
  have hc : ((2 : Int) ^ i - 1) = ((2 ^ i - 1 : Nat) : Int) := by rw [Int.natCast_sub hp]; norm_cast
  have hd : (2 ^ i) ∣ (2 : Nat) ^ 64 := Nat.pow_dvd_pow 2 (by omega)
  have hm : (2 ^ i - 1) % 2 ^ 64 = 2 ^ i - 1 := Nat.mod_eq_of_lt (by omega)
  have hx : 0 ≤ x % 18446744073709551616 := Int.emod_nonneg _ (by decide)
  have e1 : (BitVec.ofInt 64 x).toNat = (x % 18446744073709551616).toNat := rfl
  have e2 : ((BitVec.ofInt 64 x).toNat &&& (2 ^ i - 1)) = (x % 18446744073709551616).toNat % 2 ^ i := by rw [e1, Nat.and_two_pow_sub_one_eq_mod]
  have e3 : (((x % 18446744073709551616).toNat % 2 ^ i : Nat) : Int) = x % 2 ^ i := by
    rw [Int.natCast_emod, Int.toNat_of_nonneg hx]
    have h64 : ((2 ^ 64 : Nat) : Int) = 18446744073709551616 := rfl
    have : ((2 ^ i : Nat) : Int) ∣ (18446744073709551616 : Int) := by rw [← h64]; exact Int.natCast_dvd_natCast.2 hd
    rw [Int.emod_emod_of_dvd _ this, Int.natCast_pow]
    rfl
  have hpi : (0 : Int) < 2 ^ i := by have h := Int.ofNat_lt.2 hp; rw [Int.natCast_pow] at h; exact h
  have hlt : x % 2 ^ i < 2 ^ i := Int.emod_lt_of_pos _ hpi
  have hge : 0 ≤ x % 2 ^ i := Int.emod_nonneg _ (by omega)
  have hub : (2 : Int) ^ i ≤ 4611686018427387904 := by
    have h := Int.ofNat_le.2 hle
    rw [h62, Int.natCast_pow] at h
    exact h
  rw [hc]
  simp only [Go.bits, BitVec.ofInt_natCast, BitVec.toNat_and, BitVec.toNat_ofNat]
  show IntKind.i64.wrap (((BitVec.ofInt 64 x).toNat &&& (2 ^ i - 1) % 2 ^ 64 : Nat) : Int) = _
  rw [hm, e2, e3]
  exact wraps_i64 _ hge (by omega)
theorem i64_and1 (x : Int) : Go.bits .and .i64 x 1 = x % 2 := i64_mask x 1 (by decide)
end Go.Proofs.Ytdacblackoaphaa.L
