/- Numbers that are taken one by one. -/
import Derived.Test.YtpeejdmbnlhjmaaProg
import Derived.Below
import Derived.Deep.Draws
import Derived.Deep.AppendLies
import Derived.Maps.AppendAt
import Derived.OwnWalk
import Derived.Laws.BytesArg
import Derived.Laws.MakeOwn
import Derived.Laws.OwnMore
import Derived.Deep.OwnRows
import Derived.Tactics
import Derived.Lib.ConvBytes
import Derived.Laws.Slices
import Derived.WalkKit
import Derived.KernelRfl
import Derived.RowKit3
import Derived.Deep.LoopGhost
import Derived.Deep.QuietTactic
import Derived.BigQuiet
import Derived.WideLaws
import Derived.Deep.DeepCutAuto
import Derived.Deep.CutBlock
import Derived.Deep.RegionHeld3
import Derived.Laws.Rows
import Derived.Lib.AppendStr
import Derived.ArgAppend
import Derived.Laws.IdiomCopy
import Derived.OrdersHeld
import Derived.Laws.BitsLemmas
import Derived.RowKit
import Derived.Test.YtpeejdmbnlhjmaaWWords
import Derived.Test.YtpeejdmbnlhjmaaWLast
import Derived.Test.YtpeejdmbnlhjmaaWTab
import Derived.Test.YtpeejdmbnlhjmaaWFour
import Derived.Test.YtpeejdmbnlhjmaaWQPut
import Derived.Test.YtpeejdmbnlhjmaaWApart
import Derived.Test.YtpeejdmbnlhjmaaWArr
import Derived.Test.YtpeejdmbnlhjmaaWZeros
import Derived.Test.YtpeejdmbnlhjmaaWFoot
import Derived.Test.YtpeejdmbnlhjmaaWKept
import Derived.Test.YtpeejdmbnlhjmaaWShare
import Derived.Test.YtpeejdmbnlhjmaaWN
import Derived.Test.YtpeejdmbnlhjmaaWFootNe
import Derived.Test.YtpeejdmbnlhjmaaWAt
import Derived.Test.YtpeejdmbnlhjmaaWEqStruct
import Derived.Test.YtpeejdmbnlhjmaaWRepsOne
import Derived.Test.YtpeejdmbnlhjmaaWInv
import Derived.Test.YtpeejdmbnlhjmaaWInvWords
import Derived.Test.YtpeejdmbnlhjmaaWGuard
import Derived.Test.YtpeejdmbnlhjmaaWNEv
import Derived.Test.YtpeejdmbnlhjmaaWMore
import Derived.Test.YtpeejdmbnlhjmaaSrdval
import Derived.Test.YtpeejdmbnlhjmaaRpre2
namespace Go.Proofs.Ytpeejdmbnlhjmaa.H
open Go.RowKit Go.Proofs.YtpeejdmbnlhjmaaW.PrintWords Go.Proofs.YtpeejdmbnlhjmaaW.PrintLast Go.Proofs.YtpeejdmbnlhjmaaW.PrintMore
attribute [local go_sem] max2_int min2_int max_two min_two max_three min_three max_four min_four   -- for this text's walks alone
set_option linter.unusedVariables false
set_option linter.unusedSimpArgs false
theorem take_some (k : Nat) (l : List Int) (hb : ∀ x ∈ l, 0 ≤ x ∧ x ≤ 255) (hl : l.length ≤ 100000000) (a n : Nat) (h : a + n ≤ 8 * l.length) (hn : n ≤ 64) :
    bits_Reader_Take.f k l (a : Int) 0 (n : Int) = some (((bigN l / 2 ^ (8 * l.length - a - n) % 2 ^ n : Nat) : Int), ((a + n : Nat) : Int), 0) := by
  unfold bits_Reader_Take.f
  rw [if_pos ⟨by omega, by omega, by omega⟩, if_pos rfl]
  have e : max 0 (min (n : Int) 64) = (n : Int) := by omega
  rw [e, if_neg (by omega), rtake_all l hb a n h hn]
theorem sgn_val (x : Int) (n : Nat) (h1 : 1 ≤ n) (h2 : n ≤ 40) (hx : -(2 ^ (n - 1) : Nat) ≤ x ∧ x < (2 ^ (n - 1) : Nat)) :
    shr .i64 (shl .i64 (wrap64 (x % (2 ^ n : Nat))) (wrap64 (64 - (n : Int)))) (wrap64 (64 - (n : Int))) = x := by
  have w1 : wrap64 (64 - (n : Int)) = ((64 - n : Nat) : Int) := by unfold wrap64; omega
  have hp : (2 : Nat) ^ n = 2 * 2 ^ (n - 1) := by
    rw [← Nat.pow_succ', show (n - 1).succ = n by omega]
  have h40 : (2 : Nat) ^ (n - 1) ≤ 2 ^ 39 := Nat.pow_le_pow_right (by decide) (by omega)
  have h39 : (2 : Nat) ^ 39 = 549755813888 := by decide
  obtain ⟨P, hP⟩ : ∃ P : Nat, P = 2 ^ (n - 1) := ⟨_, rfl⟩
  rw [hp, ← hP]
  rw [← hP] at hx h40
  have hP1 : 1 ≤ P := by rw [hP]; exact Nat.pow_pos (by decide)
  obtain ⟨S, hS⟩ : ∃ S : Nat, S = 2 ^ (64 - n) := ⟨_, rfl⟩
  have hS1 : 1 ≤ S := by rw [hS]; exact Nat.pow_pos (by decide)
  have hPS : P * S = 9223372036854775808 := by
    rw [hP, hS, ← Nat.pow_add, show n - 1 + (64 - n) = 63 by omega]
  have hmod0 := Int.emod_nonneg x (show ((2 * P : Nat) : Int) ≠ 0 by omega)
  have hmod1 := Int.emod_lt_of_pos x (show (0 : Int) < ((2 * P : Nat) : Int) by omega)
  have w2 : wrap64 (x % ((2 * P : Nat) : Int)) = x % ((2 * P : Nat) : Int) := by unfold wrap64; omega
  rw [w1, w2]
  have hb64 : IntKind.i64.bits = 64 := rfl
  unfold shl shr
  rw [Int.toNat_natCast, show min (64 - n) IntKind.i64.bits = 64 - n by omega]
  have e2 : (2 : Int) ^ (64 - n) = (S : Int) := by rw [hS, Int.natCast_pow]; rfl
  rw [e2]
  have e3 : IntKind.i64.wrap (x % ((2 * P : Nat) : Int) * (S : Int)) = x * (S : Int) := by
    have hxS1 : x * (S : Int) < 9223372036854775808 := by
      have : x * (S : Int) < (P : Int) * (S : Int) := Int.mul_lt_mul_of_pos_right hx.2 (by omega)
      have e : (P : Int) * (S : Int) = 9223372036854775808 := by rw [← Int.natCast_mul, hPS]; rfl
      omega
    have hxS0 : -9223372036854775808 ≤ x * (S : Int) := by
      have : -(P : Int) * (S : Int) ≤ x * (S : Int) := Int.mul_le_mul_of_nonneg_right hx.1 (by omega)
      have e : (P : Int) * (S : Int) = 9223372036854775808 := by rw [← Int.natCast_mul, hPS]; rfl
      rw [Int.neg_mul] at this
      omega
    have e : (P : Int) * (S : Int) = 9223372036854775808 := by rw [← Int.natCast_mul, hPS]; rfl
    by_cases c : 0 ≤ x
    · rw [Int.emod_eq_of_lt c (by omega), IntKind.wrap_i64]
      omega
    · have e4 : x % ((2 * P : Nat) : Int) = x + ((2 * P : Nat) : Int) := by
        rw [← Int.add_emod_right, Int.emod_eq_of_lt (by omega) (by omega)]
      have e5 : (x + ((2 * P : Nat) : Int)) * (S : Int) = x * (S : Int) + 18446744073709551616 := by
        rw [Int.add_mul]
        have : ((2 * P : Nat) : Int) * (S : Int) = 18446744073709551616 := by
          rw [show ((2 * P : Nat) : Int) = 2 * (P : Int) by omega, Int.mul_assoc, e]; rfl
        omega
      rw [e4, e5, IntKind.wrap_i64]
      omega
  rw [e3]
  first
    | exact Int.mul_ediv_cancel _ (by omega)
    | (rw [Int.mul_ediv_cancel _ (by omega)])
    | skip
theorem signed_some (k : Nat) (l : List Int) (hb : ∀ x ∈ l, 0 ≤ x ∧ x ≤ 255) (hl : l.length ≤ 100000000) (a n : Nat) (h : a + n ≤ 8 * l.length) (h1 : 1 ≤ n) (h2 : n ≤ 40) (x : Int) (hx : -(2 ^ (n - 1) : Nat) ≤ x ∧ x < (2 ^ (n - 1) : Nat))
    (hv : ((bigN l / 2 ^ (8 * l.length - a - n) % 2 ^ n : Nat) : Int) = x % (2 ^ n : Nat)) : subframe_signed.f k l (a : Int) 0 (n : Int) = some (x, ((a + n : Nat) : Int), 0) := by
  unfold subframe_signed.f
  rw [take_some k l hb hl a n h (by omega), Option.bind_some]
  simp only
  rw [if_pos (by unfold wrap64; omega), hv, sgn_val x n h1 h2 hx]
theorem numbers_l0 (l : List Int) (hb : ∀ x ∈ l, 0 ≤ x ∧ x ≤ 255) (hl : l.length ≤ 100000000) (a n : Nat) (h1 : 1 ≤ n) (h2 : n ≤ 40) (xs : List Int) (hxs : xs.length ≤ 65535) (hx : ∀ x ∈ xs, -(2 ^ (n - 1) : Nat) ≤ x ∧ x < (2 ^ (n - 1) : Nat)) (h : a + xs.length * n ≤ 8 * l.length)
    (hv : ∀ i (hi : i < xs.length), ((bigN l / 2 ^ (8 * l.length - (a + i * n) - n) % 2 ^ n : Nat) : Int) = xs[i] % (2 ^ n : Nat)) (d : Nat) : ∀ (i : Nat), i + d = xs.length →
    Ev (fun k => subframe_numbers.l0 k (n : Int) (xs.take i) (xs.length : Int) (i : Int) l ((a + i * n : Nat) : Int) 0) (xs, ((a + xs.length * n : Nat) : Int), 0) := by
  induction d with
  | zero =>
    intro i hi
    obtain rfl : i = xs.length := by omega
    refine Ev.step (fun k => subframe_numbers.l0.eq_2 ..) ?_
    refine Ev.congr (f := fun _ => some (xs, ((a + xs.length * n : Nat) : Int), 0)) (fun k => ?_) (Ev.now _)
    rw [if_neg (by omega), List.take_length]
  | succ d ih =>
    intro i hi
    have hil : i < xs.length := by omega
    have hm : i * n + n ≤ xs.length * n := by
      have : (i + 1) * n ≤ xs.length * n := Nat.mul_le_mul_right _ hil
      rw [Nat.add_mul, Nat.one_mul] at this
      exact this
    refine Ev.step (fun k => subframe_numbers.l0.eq_2 ..) ?_
    refine Ev.congr (f := fun k => subframe_numbers.l0 k (n : Int) (xs.take (i + 1)) (xs.length : Int) ((i + 1 : Nat) : Int) l ((a + (i + 1) * n : Nat) : Int) 0) (fun k => ?_) (ih (i + 1) (by omega))
    rw [if_pos (by omega), signed_some k l hb hl (a + i * n) n (by omega) h1 h2 xs[i] (hx _ (List.getElem_mem _)) (hv i hil), Option.bind_some]
    simp only [bits_Reader_Fail.f, Option.bind_some]
    rw [if_pos trivial, if_pos (by rw [List.length_take]; omega)]
    have e1 : xs.take i ++ [xs[i]] = xs.take (i + 1) := by rw [List.take_add_one, List.getElem?_eq_getElem hil]; rfl
    have e2 : wrap64 ((i : Int) + 1) = ((i + 1 : Nat) : Int) := by unfold wrap64; omega
    have e3 : a + i * n + n = a + (i + 1) * n := by rw [Nat.add_mul, Nat.one_mul, Nat.add_assoc]
    rw [e1, e2, e3]
theorem numbers_all (l : List Int) (hb : ∀ x ∈ l, 0 ≤ x ∧ x ≤ 255) (hl : l.length ≤ 100000000) (a n : Nat) (h1 : 1 ≤ n) (h2 : n ≤ 40) (xs : List Int) (hxs : xs.length ≤ 65535) (hx : ∀ x ∈ xs, -(2 ^ (n - 1) : Nat) ≤ x ∧ x < (2 ^ (n - 1) : Nat)) (h : a + xs.length * n ≤ 8 * l.length)
    (hv : ∀ i (hi : i < xs.length), ((bigN l / 2 ^ (8 * l.length - (a + i * n) - n) % 2 ^ n : Nat) : Int) = xs[i] % (2 ^ n : Nat)) :
    Ev (fun k => subframe_numbers.f k l (a : Int) 0 (xs.length : Int) (n : Int)) (xs, ((a + xs.length * n : Nat) : Int), 0) := by
  have := numbers_l0 l hb hl a n h1 h2 xs hxs hx h hv xs.length 0 (Nat.zero_add _)
  rw [Nat.zero_mul, Nat.add_zero] at this
  exact this
end Go.Proofs.Ytpeejdmbnlhjmaa.H
