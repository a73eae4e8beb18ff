import Derived.Test.YtdacblackoaphaaPNumberRunesx3
import Derived.Laws.BitsLemmas
import Derived.Test.YtdacblackoaphaaLEv
import Derived.Test.YtdacblackoaphaaLNum
import Derived.Test.YtdacblackoaphaaLEnc
import Derived.Test.YtdacblackoaphaaLBits
import Derived.Test.YtdacblackoaphaaLMask
import Derived.Test.YtdacblackoaphaaLUtf
import Derived.Test.YtdacblackoaphaaFNumberRunesSize
namespace Go.Proofs.Ytdacblackoaphaa.FNumberRunes
open Go.RowKit Go.Proofs.YtdacblackoaphaaW.PrintWords Go.Proofs.YtdacblackoaphaaW.PrintLast Go.Proofs.Ytdacblackoaphaa.PNumberRunes Go.Proofs.Ytdacblackoaphaa.H Go.Proofs.Ytdacblackoaphaa.L
set_option linter.unusedVariables false
set_option linter.unusedSimpArgs false
theorem size_out (n : Int) (h : n < 0 ∨ n > 68719476735) : Ev (fun k => number_Size.f k n) 0 := by
  unfold number_Size.f
  by_cases c : n < 0
  · refine evT c ?_
    refine Ev.step (fun k => number_Size.j0.eq_2 ..) ?_
    exact evT rfl (Ev.now _)
  · refine evF c ?_
    refine Ev.step (fun k => number_Size.j0.eq_2 ..) ?_
    exact evT (decide_eq_true (by omega)) (Ev.now _)
theorem rune_ev (n : Int) : Ev (fun k => utf8_ValidRune.f k n) (decide ((0 ≤ n ∧ n < 55296) ∨ (57343 < n ∧ n ≤ 1114111))) := by
  have hj : ∀ x : Bool, Ev (fun k => utf8_ValidRune.j0 k n x) (x || decide (57343 < n ∧ n ≤ 1114111)) := by
    intro x
    refine Ev.step (fun k => utf8_ValidRune.j0.eq_2 ..) ?_
    cases x with
    | true => exact evT rfl (Ev.now _)
    | false =>
      refine evF (by decide) ?_
      by_cases c1 : 57343 < n
      · refine evT c1 ?_
        by_cases c2 : n ≤ 1114111
        · refine evT c2 ?_
          rw [Bool.false_or, decide_eq_true ⟨c1, c2⟩]; exact Ev.now _
        · refine evF c2 ?_
          rw [Bool.false_or, decide_eq_false (by omega)]; exact Ev.now _
      · refine evF c1 ?_
        rw [Bool.false_or, decide_eq_false (by omega)]; exact Ev.now _
  unfold utf8_ValidRune.f
  by_cases c : 0 ≤ n
  · refine evT c ?_
    refine evR (hj _) ?_
    rw [Bool.eq_iff_iff]; simp; omega
  · refine evF c ?_
    refine evR (hj _) ?_
    rw [Bool.eq_iff_iff]; simp; omega
theorem first_at (s : Int) (h : 1 ≤ s ∧ s ≤ 7) : number_first.f s = some (lead s) := by
  have : s = 1 ∨ s = 2 ∨ s = 3 ∨ s = 4 ∨ s = 5 ∨ s = 6 ∨ s = 7 := by omega
  rcases this with rfl | rfl | rfl | rfl | rfl | rfl | rfl <;> decide +kernel
theorem or_low (x : Int) : Go.bits .or .u8 128 ((Go.bits .and .i64 x 63) % 256) = 128 + x % 64 := by
  have e : Go.bits .and .i64 x 63 = x % 64 := i64_mask x 6 (by decide)
  rw [e, show x % 64 % 256 = x % 64 by omega]
  exact u8_or128 _ (by omega) (by omega)
theorem wraps_u8' (n : Int) (h₀ : 0 ≤ n) (h₁ : n < 2 ^ 8) : IntKind.u8.wrap n = n := wraps_u8 n h₀ h₁
theorem or_lead (s x : Int) (h : 1 ≤ s ∧ s ≤ 7) (h0 : 0 ≤ x) (hx : x < if s = 1 then 128 else if s = 2 then 32 else if s = 3 then 16 else if s = 4 then 8 else if s = 5 then 4 else if s = 6 then 2 else 1) : Go.bits .or .u8 (lead s) x = lead s + x := by
  have : s = 1 ∨ s = 2 ∨ s = 3 ∨ s = 4 ∨ s = 5 ∨ s = 6 ∨ s = 7 := by omega
  rcases this with rfl | rfl | rfl | rfl | rfl | rfl | rfl
  · exact bits_join .u8 8 (by decide) wraps_u8 7 _ x (by decide) (by decide) (by decide) h0 hx (by simp at hx; omega)
  · exact bits_join .u8 8 (by decide) wraps_u8 5 _ x (by decide) (by decide) (by decide) h0 hx (by simp at hx; omega)
  · exact bits_join .u8 8 (by decide) wraps_u8 4 _ x (by decide) (by decide) (by decide) h0 hx (by simp at hx; omega)
  · exact bits_join .u8 8 (by decide) wraps_u8 3 _ x (by decide) (by decide) (by decide) h0 hx (by simp at hx; omega)
  · exact bits_join .u8 8 (by decide) wraps_u8 2 _ x (by decide) (by decide) (by decide) h0 hx (by simp at hx; omega)
  · exact bits_join .u8 8 (by decide) wraps_u8 1 _ x (by decide) (by decide) (by decide) h0 hx (by simp at hx; omega)
  · exact bits_join .u8 8 (by decide) wraps_u8 0 _ x (by decide) (by decide) (by decide) h0 hx (by simp at hx; omega)
theorem enc_loop (s : Int) (hs : 1 ≤ s ∧ s ≤ 7) (j : Nat) : ∀ (n : Int) (out : List Int), 0 ≤ n ∧ n ≤ 68719476735 → (j : Int) + 1 + out.length = s →
    n / 64 ^ j < (if s = 1 then 128 else if s = 2 then 32 else if s = 3 then 16 else if s = 4 then 8 else if s = 5 then 4 else if s = 6 then 2 else 1) →
    Ev (fun k => number_Encode.l0 k n s (List.replicate (j + 1) 0 ++ out) j) ((lead s + n / 64 ^ j) :: (encTail j n ++ out), 0) := by
  induction j with
  | zero =>
    intro n out hn ho hh
    rw [Int.pow_zero, Int.ediv_one] at hh ⊢
    refine Ev.step (fun k => number_Encode.l0.eq_2 ..) ?_
    refine evF (by omega) ?_
    refine evC (first_at s hs) ?_
    refine evT (by simp) ?_
    have h256 : n % 256 = n := by split at hh <;> omega
    rw [h256, or_lead s n hs hn.1 hh]
    refine evR (Ev.now _) ?_
    rfl
  | succ j ih =>
    intro n out hn ho hh
    refine Ev.step (fun k => number_Encode.l0.eq_2 ..) ?_
    refine evT (by omega) ?_
    refine evT (by omega) ?_
    refine evT (by simp; omega) ?_
    have e : n / 64 / 64 ^ j = n / 64 ^ (j + 1) := by
      rw [Int.pow_succ, Int.mul_comm (64 ^ j) 64, Int.ediv_ediv_of_nonneg (by omega)]
    have es : (List.replicate (j + 1 + 1) (0 : Int) ++ out).set (((j + 1 : Nat) : Int)).toNat (128 + n % 64) = List.replicate (j + 1) 0 ++ ((128 + n % 64) :: out) := by
      rw [Int.toNat_natCast, List.replicate_succ', List.append_assoc, List.set_append_right (s := List.replicate (j + 1) (0 : Int)) (j + 1) _ (by simp)]
      simp
    rw [or_low, es, wr _ (by omega), show (((j + 1 : Nat) : Int) - 1) = (j : Int) by omega]
    refine evR (ih (n / 64) ((128 + n % 64) :: out) (by omega) (by simp; omega) (by rw [e]; exact hh)) ?_
    rw [e]
    simp [encTail]
theorem enc_j0 (n : Int) (h0 : 0 ≤ n) (h1 : n ≤ 68719476735) : Ev (fun k => number_Encode.j0 k n (nsize n)) (encBytes n, 0) := by
  have hs := nsize_rng n
  refine Ev.step (fun k => number_Encode.j0.eq_2 ..) ?_
  refine evT (by omega) ?_
  refine evT (by omega) ?_
  rw [wr _ (by omega)]
  have hh : n / 64 ^ ((nsize n).toNat - 1) < (if nsize n = 1 then 128 else if nsize n = 2 then 32 else if nsize n = 3 then 16 else if nsize n = 4 then 8 else if nsize n = 5 then 4 else if nsize n = 6 then 2 else 1) := by
    unfold nsize
    by_cases c1 : n < 128
    · rw [if_pos c1]; show n / 1 < 128; omega
    by_cases c2 : n < 2048
    · rw [if_neg c1, if_pos c2]; show n / 64 < 32; omega
    by_cases c3 : n < 65536
    · rw [if_neg c1, if_neg c2, if_pos c3]; show n / 4096 < 16; omega
    by_cases c4 : n < 2097152
    · rw [if_neg c1, if_neg c2, if_neg c3, if_pos c4]; show n / 262144 < 8; omega
    by_cases c5 : n < 67108864
    · rw [if_neg c1, if_neg c2, if_neg c3, if_neg c4, if_pos c5]; show n / 16777216 < 4; omega
    by_cases c6 : n < 2147483648
    · rw [if_neg c1, if_neg c2, if_neg c3, if_neg c4, if_neg c5, if_pos c6]; show n / 1073741824 < 2; omega
    · rw [if_neg c1, if_neg c2, if_neg c3, if_neg c4, if_neg c5, if_neg c6]; show n / 68719476736 < 1; omega
  have h := enc_loop (nsize n) hs ((nsize n).toNat - 1) n [] ⟨h0, h1⟩ (by simp; omega) hh
  rw [List.append_nil, List.append_nil, show (nsize n).toNat - 1 + 1 = (nsize n).toNat by omega, show (((nsize n).toNat - 1 : Nat) : Int) = nsize n - 1 by omega] at h
  exact h
theorem enc_in (n : Int) (h0 : 0 ≤ n) (h1 : n ≤ 68719476735) : Ev (fun k => number_Encode.f k n) (encBytes n, 0) := by
  have hs := nsize_rng n
  unfold number_Encode.f
  refine evB (size_in n h0 h1) ?_
  refine evF (by omega) ?_
  by_cases c : n ≤ 1114111
  · refine evT c ?_
    have hw : wrap32 n = n := by unfold wrap32; omega
    rw [hw]
    refine evB (rune_ev n) ?_
    by_cases v : (0 ≤ n ∧ n < 55296) ∨ (57343 < n ∧ n ≤ 1114111)
    · refine evT (decide_eq_true v) ?_
      have hu := utf_enc n h0 c (by omega)
      have hl := encBytes_length n
      have hb : (Utf8.encode n).size = (encBytes n).length := by rw [← hu, bytesOf_length]
      refine evT (by omega) ?_
      rw [hu]
      exact Ev.now _
    · refine evF (by simpa using v) ?_
      exact enc_j0 n h0 h1
  · exact evF c (enc_j0 n h0 h1)
theorem enc_out (n : Int) (h : n < 0 ∨ n > 68719476735) : Ev (fun k => number_Encode.f k n) ([], 6) := by
  unfold number_Encode.f
  refine evB (size_out n h) ?_
  exact evT rfl (Ev.now _)
end Go.Proofs.Ytdacblackoaphaa.FNumberRunes
