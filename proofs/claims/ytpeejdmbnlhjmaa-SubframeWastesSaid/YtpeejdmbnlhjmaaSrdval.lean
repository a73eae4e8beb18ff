/- What is taken off bytes: the number that the bits make. -/
import Derived.Test.YtpeejdmbnlhjmaaProg
import Derived.Below
import Derived.Deep.Draws
import Derived.Deep.AppendLies
import Derived.Maps.AppendAt
import Derived.OwnWalk
import Derived.Laws.BytesArg
import Derived.Laws.MakeOwn
import Derived.Laws.OwnMore
import Derived.Deep.OwnRows
import Derived.Tactics
import Derived.Lib.ConvBytes
import Derived.Laws.Slices
import Derived.WalkKit
import Derived.KernelRfl
import Derived.RowKit3
import Derived.Deep.LoopGhost
import Derived.Deep.QuietTactic
import Derived.BigQuiet
import Derived.WideLaws
import Derived.Deep.DeepCutAuto
import Derived.Deep.CutBlock
import Derived.Deep.RegionHeld3
import Derived.Laws.Rows
import Derived.Lib.AppendStr
import Derived.ArgAppend
import Derived.Laws.IdiomCopy
import Derived.OrdersHeld
import Derived.Laws.BitsLemmas
import Derived.RowKit
import Derived.Test.YtpeejdmbnlhjmaaWWords
import Derived.Test.YtpeejdmbnlhjmaaWLast
import Derived.Test.YtpeejdmbnlhjmaaWTab
import Derived.Test.YtpeejdmbnlhjmaaWFour
import Derived.Test.YtpeejdmbnlhjmaaWQPut
import Derived.Test.YtpeejdmbnlhjmaaWApart
import Derived.Test.YtpeejdmbnlhjmaaWArr
import Derived.Test.YtpeejdmbnlhjmaaWZeros
import Derived.Test.YtpeejdmbnlhjmaaWFoot
import Derived.Test.YtpeejdmbnlhjmaaWKept
import Derived.Test.YtpeejdmbnlhjmaaWShare
import Derived.Test.YtpeejdmbnlhjmaaWN
import Derived.Test.YtpeejdmbnlhjmaaWFootNe
import Derived.Test.YtpeejdmbnlhjmaaWAt
import Derived.Test.YtpeejdmbnlhjmaaWEqStruct
import Derived.Test.YtpeejdmbnlhjmaaWRepsOne
import Derived.Test.YtpeejdmbnlhjmaaWInv
import Derived.Test.YtpeejdmbnlhjmaaWInvWords
import Derived.Test.YtpeejdmbnlhjmaaWGuard
import Derived.Test.YtpeejdmbnlhjmaaWNEv
import Derived.Test.YtpeejdmbnlhjmaaWMore
import Derived.Laws.Bits64b
import Derived.Test.YtpeejdmbnlhjmaaSrd
namespace Go.Proofs.Ytpeejdmbnlhjmaa.H
open Go.RowKit Go.Proofs.YtpeejdmbnlhjmaaW.PrintWords Go.Proofs.YtpeejdmbnlhjmaaW.PrintLast Go.Proofs.YtpeejdmbnlhjmaaW.PrintMore
attribute [local go_sem] max2_int min2_int max_two min_two max_three min_three max_four min_four   -- for this text's walks alone
set_option linter.unusedVariables false
set_option linter.unusedSimpArgs false
/-- The number that bytes make, the first one highest. -/
def bigN : List Int → Nat
  | [] => 0
  | x :: l => x.toNat * 256 ^ l.length + bigN l
theorem bigN_lt : ∀ (l : List Int), (∀ x ∈ l, 0 ≤ x ∧ x ≤ 255) → bigN l < 256 ^ l.length
  | [], _ => by simp [bigN]
  | x :: l, h => by
    have h1 := h x (by simp)
    have h2 := bigN_lt l (fun y hy => h y (by simp [hy]))
    have h3 : x.toNat ≤ 255 := by omega
    have h4 : x.toNat * 256 ^ l.length ≤ 255 * 256 ^ l.length := Nat.mul_le_mul_right _ h3
    simp only [bigN, List.length_cons, Nat.pow_succ]
    omega
theorem bigN_byte : ∀ (l : List Int), (∀ x ∈ l, 0 ≤ x ∧ x ≤ 255) → ∀ (i : Nat) (h : i < l.length), l[i] = ((bigN l / 256 ^ (l.length - 1 - i) % 256 : Nat) : Int)
  | [], _, i, h => by simp at h
  | x :: l, hb, 0, _ => by
    have h1 := hb x (by simp)
    have h2 := bigN_lt l (fun y hy => hb y (by simp [hy]))
    have hp : 0 < 256 ^ l.length := Nat.pow_pos (by decide)
    simp only [bigN, List.length_cons, List.getElem_cons_zero, Nat.add_sub_cancel, Nat.sub_zero]
    rw [Nat.mul_comm, Nat.mul_add_div hp, Nat.div_eq_of_lt h2, Nat.add_zero, Nat.mod_eq_of_lt (by omega)]
    omega
  | x :: l, hb, i + 1, h => by
    have hl : i < l.length := by simpa using h
    have ih := bigN_byte l (fun y hy => hb y (by simp [hy])) i hl
    have hp : 0 < 256 ^ (l.length - 1 - i) := Nat.pow_pos (by decide)
    simp only [List.getElem_cons_succ, bigN, List.length_cons]
    rw [ih, show l.length + 1 - 1 - (i + 1) = l.length - 1 - i by omega]
    have e : x.toNat * 256 ^ l.length = 256 ^ (l.length - 1 - i) * (256 * (x.toNat * 256 ^ i)) := by
      have : 256 ^ l.length = 256 ^ (l.length - 1 - i) * 256 * 256 ^ i := by
        rw [← Nat.pow_succ, ← Nat.pow_add]
        congr 1
        omega
      rw [this]
      simp only [Nat.mul_assoc, Nat.mul_comm, Nat.mul_left_comm]
    rw [e, Nat.mul_add_div hp, Nat.mul_add_mod]
theorem and_mask8 : ∀ (x : Fin 256) (m : Fin 9), Go.bits .and .u8 (x.val : Int) ((2 ^ m.val - 1) % 256) = ((x.val % 2 ^ m.val : Nat) : Int) := by decide +kernel
theorem or_low (a p t m : Nat) (h1 : a < 2 ^ t) (hp : p < 2 ^ m) (ht : t + m ≤ 64) : Go.bits .or .u64 (IntKind.u64.wrap ((a : Int) * 2 ^ m)) (IntKind.u64.wrap (p : Int)) = ((a * 2 ^ m + p : Nat) : Int) := by
  have hpm : 2 ^ m ≤ 2 ^ 64 := Nat.pow_le_pow_right (by decide) (by omega)
  have h2 : a * 2 ^ m + 2 ^ m ≤ 2 ^ t * 2 ^ m := by
    have : (a + 1) * 2 ^ m ≤ 2 ^ t * 2 ^ m := Nat.mul_le_mul_right _ h1
    rw [Nat.add_mul, Nat.one_mul] at this
    exact this
  have h3 : 2 ^ t * 2 ^ m ≤ 2 ^ 64 := by rw [← Nat.pow_add]; exact Nat.pow_le_pow_right (by decide) ht
  have h64 : (2 : Nat) ^ 64 = 18446744073709551616 := by decide
  have w1 : IntKind.u64.wrap ((a : Int) * 2 ^ m) = ((a * 2 ^ m : Nat) : Int) := by
    have e : ((a : Int) * 2 ^ m) = ((a * 2 ^ m : Nat) : Int) := by push_cast; rfl
    rw [e, IntKind.wrap_u64]
    omega
  have w2 : IntKind.u64.wrap (p : Int) = (p : Int) := by rw [IntKind.wrap_u64]; omega
  rw [w1, w2, bits_or_u64_nat _ _ (by omega) (by omega)]
  congr 1
  rw [Nat.mul_comm]
  exact (Nat.two_pow_add_eq_or_of_lt hp a).symm
theorem mod_split (x a b : Nat) : x % 2 ^ (a + b) = (x / 2 ^ a % 2 ^ b) * 2 ^ a + x % 2 ^ a := by
  rw [Nat.pow_add, Nat.mod_mul]
  rw [Nat.add_comm, Nat.mul_comm]
theorem rPart_val (l : List Int) (hb : ∀ x ∈ l, 0 ≤ x ∧ x ≤ 255) (a left m : Nat) (hm : m = min (8 - a % 8) left) (h : a + left ≤ 8 * l.length) (h1 : 1 ≤ left) :
    rPart l (a : Int) (left : Int) = ((bigN l / 2 ^ (8 * l.length - a - m) % 2 ^ m : Nat) : Int) ∧ rMany (a : Int) (left : Int) = (m : Int) := by
  have hM : rMany (a : Int) (left : Int) = (m : Int) := by unfold rMany; omega
  refine ⟨?_, hM⟩
  unfold rPart
  rw [hM]
  have hi : a / 8 < l.length := by omega
  have hrd : rd l ((a : Int) / 8) = l[a / 8] := by
    unfold rd
    rw [show ((a : Int) / 8).toNat = a / 8 by omega]
    rw [List.getD_eq_getElem?_getD, List.getElem?_eq_getElem hi, Option.getD_some]
  rw [hrd, bigN_byte l hb (a / 8) hi]
  generalize hy : bigN l / 256 ^ (l.length - 1 - a / 8) = y
  obtain ⟨s, hs⟩ : ∃ s : Nat, s + m = 8 - a % 8 := ⟨8 - a % 8 - m, by omega⟩
  rw [show (8 - (a : Int) % 8 - (m : Int)).toNat = s by omega, Int.toNat_natCast]
  have e1 : (((y % 256 : Nat) : Int) / 2 ^ s) = ((y % 256 / 2 ^ s : Nat) : Int) := by rw [Int.natCast_ediv, Int.natCast_pow]; rfl
  rw [e1]
  have hlt : y % 256 / 2 ^ s < 256 := Nat.lt_of_le_of_lt (Nat.div_le_self _ _) (Nat.mod_lt _ (by decide))
  have := and_mask8 ⟨y % 256 / 2 ^ s, hlt⟩ ⟨m, by omega⟩
  simp only at this
  rw [this]
  congr 1
  have e2 : bigN l / 2 ^ (8 * l.length - a - m) = y / 2 ^ s := by
    rw [← hy, Nat.div_div_eq_div_mul]
    congr 1
    rw [show (256 : Nat) = 2 ^ 8 by decide, ← Nat.pow_mul, ← Nat.pow_add]
    congr 1
    omega
  rw [e2, show (256 : Nat) = 2 ^ (s + (8 - s)) by rw [show s + (8 - s) = 8 by omega]]
  rw [mod_split y s (8 - s), Nat.mul_comm, Nat.mul_add_div (Nat.pow_pos (by decide)), Nat.div_eq_of_lt (Nat.mod_lt _ (Nat.pow_pos (by decide))), Nat.add_zero]
  rw [Nat.mod_mod_of_dvd _ (Nat.pow_dvd_pow 2 (by omega))]
theorem rtake_val (l : List Int) (hb : ∀ x ∈ l, 0 ≤ x ∧ x ≤ 255) : ∀ (f a n left t : Nat), n < 2 ^ t → t + left ≤ 64 → left ≤ f → a + left ≤ 8 * l.length →
    rtake f l (a : Int) (n : Int) (left : Int) = (((n * 2 ^ left + bigN l / 2 ^ (8 * l.length - a - left) % 2 ^ left : Nat) : Int), ((a + left : Nat) : Int)) := by
  intro f
  induction f with
  | zero =>
    intro a n left t h1 h2 h3 h4
    obtain rfl : left = 0 := by omega
    unfold rtake
    simp [Nat.mod_one]
  | succ f ih =>
    intro a n left t h1 h2 h3 h4
    unfold rtake
    by_cases hz : left = 0
    · subst hz
      rw [if_pos (by omega)]
      simp [Nat.mod_one]
    · rw [if_neg (by omega)]
      obtain ⟨m, hm⟩ : ∃ m : Nat, m = min (8 - a % 8) left := ⟨_, rfl⟩
      obtain ⟨hp, hM⟩ := rPart_val l hb a left m hm h4 (by omega)
      have hml : m ≤ left := by omega
      rw [hp, hM, Int.toNat_natCast, or_low n _ t m h1 (Nat.mod_lt _ (Nat.pow_pos (by decide))) (by omega)]
      rw [show ((a : Int) + (m : Int)) = ((a + m : Nat) : Int) by omega, show ((left : Int) - (m : Int)) = ((left - m : Nat) : Int) by omega]
      rw [ih (a + m) _ (left - m) (t + m) ?_ (by omega) (by omega) (by omega)]
      · have e : 8 * l.length - (a + m) - (left - m) = 8 * l.length - a - left := by omega
        rw [e]
        obtain ⟨E, hE⟩ : ∃ E : Nat, E = 8 * l.length - a - left := ⟨_, rfl⟩
        obtain ⟨c, hc⟩ : ∃ c : Nat, left = c + m := ⟨left - m, by omega⟩
        rw [← hE, show 8 * l.length - a - m = E + c by omega, show left - m = c by omega, Nat.pow_add 2 E c, ← Nat.div_div_eq_div_mul]
        generalize bigN l / 2 ^ E = z
        subst hc
        rw [mod_split z c m, Nat.pow_add 2 c m, Nat.add_mul]
        rw [Nat.mul_assoc, Nat.mul_comm (2 ^ m) (2 ^ c), Nat.add_assoc, show a + m + c = a + (c + m) by omega]
      · rw [Nat.pow_add]
        have h5 : n * 2 ^ m + 2 ^ m ≤ 2 ^ t * 2 ^ m := by
          have : (n + 1) * 2 ^ m ≤ 2 ^ t * 2 ^ m := Nat.mul_le_mul_right _ h1
          rw [Nat.add_mul, Nat.one_mul] at this
          exact this
        have := Nat.mod_lt (bigN l / 2 ^ (8 * l.length - a - m)) (Nat.pow_pos (n := m) (show 0 < 2 by decide))
        exact Nat.lt_of_lt_of_le (Nat.add_lt_add_left this _) h5
/-- A whole take: the number that the bits make, the reader behind them. -/
theorem rtake_all (l : List Int) (hb : ∀ x ∈ l, 0 ≤ x ∧ x ≤ 255) (a left : Nat) (h : a + left ≤ 8 * l.length) (h64 : left ≤ 64) :
    rtake 64 l (a : Int) 0 (left : Int) = (((bigN l / 2 ^ (8 * l.length - a - left) % 2 ^ left : Nat) : Int), ((a + left : Nat) : Int)) := by
  have := rtake_val l hb 64 a 0 left 0 (by decide) (by omega) h64 h
  rw [Nat.zero_mul, Nat.zero_add] at this
  exact this
end Go.Proofs.Ytpeejdmbnlhjmaa.H
