import Derived.Test.YtgdgncdnhpflcaaWMore
import Derived.Test.YtgdgncdnhpflcaaWLast
import Derived.Test.YtgdgncdnhpflcaaLEv
import Derived.Test.YtgdgncdnhpflcaaLBits
namespace Go.Proofs.Ytgdgncdnhpflcaa.L
open Go.RowKit Go.Proofs.YtgdgncdnhpflcaaW.PrintWords Go.Proofs.YtgdgncdnhpflcaaW.PrintLast
set_option linter.unusedVariables false
set_option linter.unusedSimpArgs false
theorem pow_range (t : Nat) (h : t ≤ 62) : (1 : Int) ≤ 2 ^ t ∧ (2 : Int) ^ t ≤ 4611686018427387904 := by
  have h1 : (1 : Nat) ≤ 2 ^ t := Nat.two_pow_pos t
  have h2 : 2 ^ t ≤ 2 ^ 62 := Nat.pow_le_pow_right (by decide) h
  have h62 : (2 : Nat) ^ 62 = 4611686018427387904 := rfl
  have e : ((2 ^ t : Nat) : Int) = 2 ^ t := Int.natCast_pow 2 t
  rw [← e]
  omega
theorem shl_one (t : Int) (h : 0 ≤ t ∧ t ≤ 62) : shl .i64 1 t = 2 ^ t.toNat := by
  have := pow_range t.toNat (by omega)
  unfold shl
  rw [show min t.toNat (IntKind.i64.bits) = t.toNat by have : IntKind.i64.bits = 64 := rfl; omega, Int.one_mul]
  exact wraps_i64 _ (by omega) (by omega)
theorem shr_at (n t : Int) (h : 0 ≤ t ∧ t ≤ 64) : shr .i64 n t = n / 2 ^ t.toNat := by
  unfold shr
  rw [show min t.toNat (IntKind.i64.bits) = t.toNat by have : IntKind.i64.bits = 64 := rfl; omega]
/-- A sample is in a depth. -/
def inDepth (n d : Int) : Prop := -(2 ^ (d - 1).toNat) ≤ n ∧ n < 2 ^ (d - 1).toNat
instance (n d : Int) : Decidable (inDepth n d) := inferInstanceAs (Decidable (_ ∧ _))
theorem div_in (n p : Int) (hp : 1 ≤ p) : (n / p = 0 ∨ n / p = -1) ↔ (-p ≤ n ∧ n < p) := by
  have h1 := Int.mul_ediv_add_emod n p
  have h2 := Int.emod_nonneg n (show p ≠ 0 by omega)
  have h3 := Int.emod_lt_of_pos n (show 0 < p by omega)
  constructor
  · rintro (h | h) <;> rw [h] at h1 <;> omega
  · rintro ⟨h4, h5⟩
    by_cases c : 0 ≤ n
    · left; exact Int.ediv_eq_zero_of_lt c h5
    · right
      have : (n + p) / p = 0 := Int.ediv_eq_zero_of_lt (by omega) (by omega)
      rw [Int.add_ediv_of_dvd_right (Int.dvd_refl p), Int.ediv_self (by omega)] at this
      omega
end Go.Proofs.Ytgdgncdnhpflcaa.L
