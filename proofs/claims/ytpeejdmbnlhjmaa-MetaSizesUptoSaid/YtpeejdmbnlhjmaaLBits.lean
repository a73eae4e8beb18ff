import Derived.Laws.BitsLemmas
import Derived.Test.YtpeejdmbnlhjmaaWMore
import Derived.Test.YtpeejdmbnlhjmaaWLast
import Derived.Test.YtpeejdmbnlhjmaaLEv
namespace Go.Proofs.Ytpeejdmbnlhjmaa.L
open Go.RowKit Go.Proofs.YtpeejdmbnlhjmaaW.PrintWords Go.Proofs.YtpeejdmbnlhjmaaW.PrintLast
set_option linter.unusedVariables false
set_option linter.unusedSimpArgs false
theorem bits_xor_nat (k : IntKind) (j : Nat) (hj : j ≤ k.bits) (hk : ∀ n : Int, 0 ≤ n → n < 2 ^ j → k.wrap n = n) (a b : Nat) (ha : a < 2 ^ j) (hb : b < 2 ^ j) :
    Go.bits .xor k a b = ((a ^^^ b : Nat) : Int) := by
  have hp : 2 ^ j ≤ 2 ^ k.bits := Nat.pow_le_pow_right (by decide) hj
  have ha' : a % 2 ^ k.bits = a := Nat.mod_eq_of_lt (Nat.lt_of_lt_of_le ha hp)
  have hb' : b % 2 ^ k.bits = b := Nat.mod_eq_of_lt (Nat.lt_of_lt_of_le hb hp)
  have cast : ∀ n : Nat, n < 2 ^ j → ((n : Nat) : Int) < 2 ^ j := fun n h => by exact_mod_cast h
  simp only [Go.bits, BitVec.ofInt_natCast, BitVec.toNat_xor, BitVec.toNat_ofNat, ha', hb']
  exact hk _ (Int.natCast_nonneg _) (cast _ (Nat.xor_lt_two_pow ha hb))
theorem wraps_i64 (n : Int) (h₀ : 0 ≤ n) (h₁ : n < 2 ^ 63) : IntKind.i64.wrap n = n := by rw [IntKind.wrap_i64]; omega
theorem wraps_u64 (n : Int) (h₀ : 0 ≤ n) (h₁ : n < 2 ^ 64) : IntKind.u64.wrap n = n := by
  simp [IntKind.wrap, IntKind.bits, IntKind.signed]; omega
theorem wraps_u16 (n : Int) (h₀ : 0 ≤ n) (h₁ : n < 2 ^ 16) : IntKind.u16.wrap n = n := by
  simp [IntKind.wrap, IntKind.bits, IntKind.signed]; omega
theorem i64_xor (a b : Nat) (ha : a < 2 ^ 63) (hb : b < 2 ^ 63) : Go.bits .xor .i64 a b = ((a ^^^ b : Nat) : Int) := bits_xor_nat .i64 63 (by decide) wraps_i64 a b ha hb
/-- The lowest bits of a number, the highest of these first. -/
def dig : Nat → Int → List Bool
  | 0, _ => []
  | w + 1, n => dig w (n / 2) ++ [n % 2 == 1]
theorem dig_length : ∀ (w : Nat) (n : Int), (dig w n).length = w
  | 0, _ => rfl
  | w + 1, n => by simp [dig, dig_length w]
/-- One bit into a register of w bits. -/
def crcStep (w by_ : Nat) (c : Nat) (b : Bool) : Nat := if (decide (2 ^ w ≤ 2 * c)) != b then (2 * c % 2 ^ w) ^^^ by_ else 2 * c % 2 ^ w
def crc (w by_ : Nat) (c : Nat) (l : List Bool) : Nat := l.foldl (crcStep w by_) c
theorem crcStep_lt (w by_ c : Nat) (b : Bool) (hb : by_ < 2 ^ w) : crcStep w by_ c b < 2 ^ w := by
  unfold crcStep
  have h : 2 * c % 2 ^ w < 2 ^ w := Nat.mod_lt _ (Nat.two_pow_pos w)
  split
  · exact Nat.xor_lt_two_pow h hb
  · exact h
theorem crc_lt (w by_ : Nat) (hb : by_ < 2 ^ w) : ∀ (l : List Bool) (c : Nat), c < 2 ^ w → crc w by_ c l < 2 ^ w
  | [], c, h => h
  | b :: l, c, _ => crc_lt w by_ hb l _ (crcStep_lt w by_ c b hb)
/-- The bits of bytes. -/
def bitsOf (l : List Int) : List Bool := l.flatMap (dig 8)
theorem bitsOf_length : ∀ l : List Int, (bitsOf l).length = 8 * l.length
  | [] => rfl
  | x :: l => by
    have := bitsOf_length l
    unfold bitsOf at *
    rw [List.flatMap_cons, List.length_append, dig_length, this, List.length_cons]
    omega
/-- A check of 8 bits. -/
def crc8 (l : List Int) : Int := crc 8 7 0 (bitsOf l)
theorem crc8_rng (l : List Int) : 0 ≤ crc8 l ∧ crc8 l ≤ 255 := by
  have := crc_lt 8 7 (by decide) (bitsOf l) 0 (by decide)
  unfold crc8
  omega
end Go.Proofs.Ytpeejdmbnlhjmaa.L
