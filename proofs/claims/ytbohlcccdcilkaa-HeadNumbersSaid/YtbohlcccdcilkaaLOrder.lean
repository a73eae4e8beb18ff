import Derived.Laws.BytesArg
import Derived.Test.YtbohlcccdcilkaaWMore
import Derived.Test.YtbohlcccdcilkaaWLast
import Derived.Test.YtbohlcccdcilkaaLEv
import Derived.Test.YtbohlcccdcilkaaLNum
import Derived.Test.YtbohlcccdcilkaaLEnc
import Derived.Test.YtbohlcccdcilkaaLDec
import Derived.Test.YtbohlcccdcilkaaLDec2
namespace Go.Proofs.Ytbohlcccdcilkaa.L
open Go.RowKit Go.Proofs.YtbohlcccdcilkaaW.PrintWords Go.Proofs.YtbohlcccdcilkaaW.PrintLast
set_option linter.unusedVariables false
set_option linter.unusedSimpArgs false
def lexLt : List Int → List Int → Bool
  | _, [] => false
  | [], _ :: _ => true
  | a :: x, b :: y => decide (a < b) || (decide (a = b) && lexLt x y)
theorem toList_nums (x : List Int) : (strOfNums x).toList = x.map fun n => UInt8.ofNat n.toNat := by
  rw [ByteArray.toList_eq]
  simp [strOfNums]
theorem u8_lt (a b : Int) (ha : 0 ≤ a ∧ a ≤ 255) (hb : 0 ≤ b ∧ b ≤ 255) : (UInt8.ofNat a.toNat < UInt8.ofNat b.toNat) ↔ a < b := by
  rw [UInt8.lt_iff_toNat_lt, UInt8.toNat_ofNat', UInt8.toNat_ofNat']
  omega
theorem u8_eq (a b : Int) (ha : 0 ≤ a ∧ a ≤ 255) (hb : 0 ≤ b ∧ b ≤ 255) : (UInt8.ofNat a.toNat = UInt8.ofNat b.toNat) ↔ a = b := by
  rw [← UInt8.toNat_inj, UInt8.toNat_ofNat', UInt8.toNat_ofNat']
  omega
theorem bytesLess_lex : ∀ (x y : List Int), (∀ a ∈ x, 0 ≤ a ∧ a ≤ 255) → (∀ a ∈ y, 0 ≤ a ∧ a ≤ 255) →
    Op.bytesLess (x.map fun n => UInt8.ofNat n.toNat) (y.map fun n => UInt8.ofNat n.toNat) = lexLt x y
  | [], [], _, _ => rfl
  | _ :: _, [], _, _ => rfl
  | [], _ :: _, _, _ => rfl
  | a :: x, b :: y, hx, hy => by
    have ha := hx a (by simp)
    have hb := hy b (by simp)
    rw [List.map_cons, List.map_cons, Op.bytesLess, bytesLess_lex x y (fun c hc => hx c (by simp [hc])) (fun c hc => hy c (by simp [hc])), lexLt]
    have h1 : decide (UInt8.ofNat a.toNat < UInt8.ofNat b.toNat) = decide (a < b) := decide_eq_decide.mpr (u8_lt a b ha hb)
    have h2 : (UInt8.ofNat a.toNat == UInt8.ofNat b.toNat) = decide (a = b) := by rw [Bool.eq_iff_iff, beq_iff_eq, decide_eq_true_iff]; exact u8_eq a b ha hb
    rw [h1, h2]
theorem bytesLess_nums (x y : List Int) (hx : ∀ a ∈ x, 0 ≤ a ∧ a ≤ 255) (hy : ∀ a ∈ y, 0 ≤ a ∧ a ≤ 255) : Op.bytesLess (strOfNums x).toList (strOfNums y).toList = lexLt x y := by
  rw [toList_nums, toList_nums, bytesLess_lex x y hx hy]
theorem lex_lt (a b : Int) (x y : List Int) (h : a < b) : lexLt (a :: x) (b :: y) = true := by simp [lexLt, h]
theorem lex_gt (a b : Int) (x y : List Int) (h : b < a) : lexLt (a :: x) (b :: y) = false := by
  simp only [lexLt, Bool.or_eq_false_iff, decide_eq_false_iff_not, Bool.and_eq_false_iff]; omega
theorem lex_eq (a : Int) (x y : List Int) : lexLt (a :: x) (a :: y) = lexLt x y := by simp [lexLt]
theorem div_mono (n m : Int) (j : Nat) (h : n ≤ m) : n / 64 ^ j ≤ m / 64 ^ j := Int.ediv_le_ediv (pow64_pos j) h
theorem lex_tail : ∀ (j : Nat) (n m : Int), n / 64 ^ j = m / 64 ^ j → lexLt (encTail j n) (encTail j m) = decide (n < m)
  | 0, n, m, h => by
    rw [Int.pow_zero, Int.ediv_one, Int.ediv_one] at h
    rw [h, decide_eq_false (by omega)]
    rfl
  | j + 1, n, m, h => by
    rw [← div64_div, ← div64_div] at h
    rw [encTail_cons, encTail_cons]
    by_cases c : n / 64 ^ j < m / 64 ^ j
    · have : n < m := by
        by_cases d : m ≤ n
        · have := div_mono m n j d
          omega
        · omega
      rw [lex_lt _ _ _ _ (by omega), decide_eq_true this]
    by_cases c' : m / 64 ^ j < n / 64 ^ j
    · have : m < n := by
        by_cases d : n ≤ m
        · have := div_mono n m j d
          omega
        · omega
      rw [lex_gt _ _ _ _ (by omega), decide_eq_false (by omega)]
    · have e : n / 64 ^ j = m / 64 ^ j := by omega
      rw [e, lex_eq, lex_tail j n m e]
theorem encHead_mono (n m : Int) (h : n ≤ m) : encHead n ≤ encHead m := by
  rw [encHead_eq, encHead_eq]
  omega
theorem nsize_mono (n m : Int) (h : n ≤ m) : nsize n ≤ nsize m := by
  unfold nsize
  omega
/-- A greater number stands behind a lesser one. -/
theorem lex_enc (n m : Int) (hn : 0 ≤ n ∧ n ≤ 68719476735) (hm : 0 ≤ m ∧ m ≤ 68719476735) : lexLt (encBytes n) (encBytes m) = decide (n < m) := by
  unfold encBytes
  by_cases c : encHead n < encHead m
  · have : n < m := by
      by_cases d : m ≤ n
      · have := encHead_mono m n d
        omega
      · omega
    rw [lex_lt _ _ _ _ c, decide_eq_true this]
  by_cases c' : encHead m < encHead n
  · have : m < n := by
      by_cases d : n ≤ m
      · have := encHead_mono n m d
        omega
      · omega
    rw [lex_gt _ _ _ _ c', decide_eq_false (by omega)]
  · have e : encHead n = encHead m := by omega
    have hs : nsize n = nsize m := by rw [← encHead_size n hn.1 hn.2, ← encHead_size m hm.1 hm.2, e]
    rw [e, lex_eq, hs]
    refine lex_tail _ n m ?_
    unfold encHead at e
    rw [hs] at e
    omega
theorem enc_inj (n m : Int) (hn : 0 ≤ n ∧ n ≤ 68719476735) (hm : 0 ≤ m ∧ m ≤ 68719476735) : encBytes n = encBytes m ↔ n = m := by
  constructor
  · intro h
    have a := dec_enc n hn.1 hn.2 []
    have b := dec_enc m hm.1 hm.2 []
    rw [h, b] at a
    exact (Prod.mk.inj a).1.symm
  · intro h; rw [h]
end Go.Proofs.Ytbohlcccdcilkaa.L
