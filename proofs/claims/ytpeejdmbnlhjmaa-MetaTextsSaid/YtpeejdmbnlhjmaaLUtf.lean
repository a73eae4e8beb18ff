import Derived.Test.YtpeejdmbnlhjmaaWMore
import Derived.Test.YtpeejdmbnlhjmaaWLast
import Derived.Test.YtpeejdmbnlhjmaaLEv
import Derived.Test.YtpeejdmbnlhjmaaLNum
import Derived.Test.YtpeejdmbnlhjmaaLEnc
namespace Go.Proofs.Ytpeejdmbnlhjmaa.L
open Go.RowKit Go.Proofs.YtpeejdmbnlhjmaaW.PrintWords Go.Proofs.YtpeejdmbnlhjmaaW.PrintLast
set_option linter.unusedVariables false
set_option linter.unusedSimpArgs false
theorem byte_of (c : Nat) (h : c < 256) : ((UInt8.ofNat c).toNat : Int) = c := by
  simp [UInt8.toNat_ofNat]; omega
/-- A rune's bytes in a text are those of its number. -/
theorem utf_enc (n : Int) (h0 : 0 ≤ n) (h1 : n ≤ 1114111) (hv : n < 55296 ∨ 57343 < n) : bytesOf (Utf8.encode n) = encBytes n := by
  have hval : Utf8.valid n = true := by unfold Utf8.valid; simp; omega
  have e : ((n.toNat : Nat) : Int) = n := Int.toNat_of_nonneg h0
  unfold Utf8.encode
  simp only [hval, if_true]
  by_cases c1 : n < 128
  · rw [if_pos (by omega)]
    simp only [bytesOf, encBytes, encHead_eq, nsize, if_pos c1, List.map_cons, List.map_nil]
    rw [byte_of _ (by omega), e]
    rfl
  rw [if_neg (by omega)]
  by_cases c2 : n < 2048
  · rw [if_pos (by omega)]
    simp only [bytesOf, encBytes, encHead_eq, nsize, if_neg c1, if_pos c2, List.map_cons, List.map_nil]
    rw [byte_of _ (by omega), byte_of _ (by omega)]
    show _ = [192 + n / 64, 128 + n % 64]
    rw [List.cons.injEq, List.cons.injEq]
    exact ⟨by omega, by omega, rfl⟩
  rw [if_neg (by omega)]
  by_cases c3 : n < 65536
  · rw [if_pos (by omega)]
    simp only [bytesOf, encBytes, encHead_eq, nsize, if_neg c1, if_neg c2, if_pos c3, List.map_cons, List.map_nil]
    rw [byte_of _ (by omega), byte_of _ (by omega), byte_of _ (by omega)]
    show _ = [224 + n / 4096, 128 + n / 64 % 64, 128 + n % 64]
    rw [List.cons.injEq, List.cons.injEq, List.cons.injEq]
    exact ⟨by omega, by omega, by omega, rfl⟩
  rw [if_neg (by omega)]
  have c4 : n < 2097152 := by omega
  simp only [bytesOf, encBytes, encHead_eq, nsize, if_neg c1, if_neg c2, if_neg c3, if_pos c4, List.map_cons, List.map_nil]
  rw [byte_of _ (by omega), byte_of _ (by omega), byte_of _ (by omega), byte_of _ (by omega)]
  show _ = [240 + n / 262144, 128 + n / 64 / 64 % 64, 128 + n / 64 % 64, 128 + n % 64]
  rw [List.cons.injEq, List.cons.injEq, List.cons.injEq, List.cons.injEq]
  exact ⟨by omega, by omega, by omega, by omega, rfl⟩
end Go.Proofs.Ytpeejdmbnlhjmaa.L
