/- Facts, put together from several texts. -/
import Derived.Laws.BitsLemmas
import Derived.Test.YtbohlcccdcilkaaWMore
import Derived.Test.YtbohlcccdcilkaaWLast
import Derived.Test.YtbohlcccdcilkaaLEv
import Derived.Test.YtbohlcccdcilkaaLBits
import Derived.Test.YtbohlcccdcilkaaLNum
import Derived.Test.YtbohlcccdcilkaaLEnc
namespace Go.Proofs.Ytbohlcccdcilkaa.L
open Go.RowKit Go.Proofs.YtbohlcccdcilkaaW.PrintWords Go.Proofs.YtbohlcccdcilkaaW.PrintLast
set_option linter.unusedVariables false
set_option linter.unusedSimpArgs false
theorem i64_mask (x : Int) (i : Nat) (hi : i ≤ 62) : Go.bits .and .i64 x (2 ^ i - 1) = x % 2 ^ i := by
  have hp : 0 < 2 ^ i := Nat.two_pow_pos i
  have hle : 2 ^ i ≤ 2 ^ 62 := Nat.pow_le_pow_right (by decide) hi
  have h62 : (2 : Nat) ^ 62 = 4611686018427387904 := rfl
  have hc : ((2 : Int) ^ i - 1) = ((2 ^ i - 1 : Nat) : Int) := by rw [Int.natCast_sub hp]; norm_cast
  have hd : (2 ^ i) ∣ (2 : Nat) ^ 64 := Nat.pow_dvd_pow 2 (by omega)
  have hm : (2 ^ i - 1) % 2 ^ 64 = 2 ^ i - 1 := Nat.mod_eq_of_lt (by omega)
  have hx : 0 ≤ x % 18446744073709551616 := Int.emod_nonneg _ (by decide)
  have e1 : (BitVec.ofInt 64 x).toNat = (x % 18446744073709551616).toNat := rfl
  have e2 : ((BitVec.ofInt 64 x).toNat &&& (2 ^ i - 1)) = (x % 18446744073709551616).toNat % 2 ^ i := by rw [e1, Nat.and_two_pow_sub_one_eq_mod]
  have e3 : (((x % 18446744073709551616).toNat % 2 ^ i : Nat) : Int) = x % 2 ^ i := by
    rw [Int.natCast_emod, Int.toNat_of_nonneg hx]
    have h64 : ((2 ^ 64 : Nat) : Int) = 18446744073709551616 := rfl
    have : ((2 ^ i : Nat) : Int) ∣ (18446744073709551616 : Int) := by rw [← h64]; exact Int.natCast_dvd_natCast.2 hd
    rw [Int.emod_emod_of_dvd _ this, Int.natCast_pow]
    rfl
  have hpi : (0 : Int) < 2 ^ i := by have h := Int.ofNat_lt.2 hp; rw [Int.natCast_pow] at h; exact h
  have hlt : x % 2 ^ i < 2 ^ i := Int.emod_lt_of_pos _ hpi
  have hge : 0 ≤ x % 2 ^ i := Int.emod_nonneg _ (by omega)
  have hub : (2 : Int) ^ i ≤ 4611686018427387904 := by
    have h := Int.ofNat_le.2 hle
    rw [h62, Int.natCast_pow] at h
    exact h
  rw [hc]
  simp only [Go.bits, BitVec.ofInt_natCast, BitVec.toNat_and, BitVec.toNat_ofNat]
  show IntKind.i64.wrap (((BitVec.ofInt 64 x).toNat &&& (2 ^ i - 1) % 2 ^ 64 : Nat) : Int) = _
  rw [hm, e2, e3]
  exact wraps_i64 _ hge (by omega)
theorem i64_and1 (x : Int) : Go.bits .and .i64 x 1 = x % 2 := i64_mask x 1 (by decide)
end Go.Proofs.Ytbohlcccdcilkaa.L
namespace Go.Proofs.Ytbohlcccdcilkaa.L
open Go.RowKit Go.Proofs.YtbohlcccdcilkaaW.PrintWords Go.Proofs.YtbohlcccdcilkaaW.PrintLast
set_option linter.unusedVariables false
set_option linter.unusedSimpArgs false
theorem byte_of (c : Nat) (h : c < 256) : ((UInt8.ofNat c).toNat : Int) = c := by
  simp [UInt8.toNat_ofNat]; omega
/-- A rune's bytes in a text are those of its number. -/
theorem utf_enc (n : Int) (h0 : 0 ≤ n) (h1 : n ≤ 1114111) (hv : n < 55296 ∨ 57343 < n) : bytesOf (Utf8.encode n) = encBytes n := by
  have hval : Utf8.valid n = true := by unfold Utf8.valid; simp; omega
  have e : ((n.toNat : Nat) : Int) = n := Int.toNat_of_nonneg h0
  unfold Utf8.encode
  simp only [hval, if_true]
  by_cases c1 : n < 128
  · rw [if_pos (by omega)]
    simp only [bytesOf, encBytes, encHead_eq, nsize, if_pos c1, List.map_cons, List.map_nil]
    rw [byte_of _ (by omega), e]
    rfl
  rw [if_neg (by omega)]
  by_cases c2 : n < 2048
  · rw [if_pos (by omega)]
    simp only [bytesOf, encBytes, encHead_eq, nsize, if_neg c1, if_pos c2, List.map_cons, List.map_nil]
    rw [byte_of _ (by omega), byte_of _ (by omega)]
    show _ = [192 + n / 64, 128 + n % 64]
    rw [List.cons.injEq, List.cons.injEq]
    exact ⟨by omega, by omega, rfl⟩
  rw [if_neg (by omega)]
  by_cases c3 : n < 65536
  · rw [if_pos (by omega)]
    simp only [bytesOf, encBytes, encHead_eq, nsize, if_neg c1, if_neg c2, if_pos c3, List.map_cons, List.map_nil]
    rw [byte_of _ (by omega), byte_of _ (by omega), byte_of _ (by omega)]
    show _ = [224 + n / 4096, 128 + n / 64 % 64, 128 + n % 64]
    rw [List.cons.injEq, List.cons.injEq, List.cons.injEq]
    exact ⟨by omega, by omega, by omega, rfl⟩
  rw [if_neg (by omega)]
  have c4 : n < 2097152 := by omega
  simp only [bytesOf, encBytes, encHead_eq, nsize, if_neg c1, if_neg c2, if_neg c3, if_pos c4, List.map_cons, List.map_nil]
  rw [byte_of _ (by omega), byte_of _ (by omega), byte_of _ (by omega), byte_of _ (by omega)]
  show _ = [240 + n / 262144, 128 + n / 64 / 64 % 64, 128 + n / 64 % 64, 128 + n % 64]
  rw [List.cons.injEq, List.cons.injEq, List.cons.injEq, List.cons.injEq]
  exact ⟨by omega, by omega, by omega, by omega, rfl⟩
end Go.Proofs.Ytbohlcccdcilkaa.L
