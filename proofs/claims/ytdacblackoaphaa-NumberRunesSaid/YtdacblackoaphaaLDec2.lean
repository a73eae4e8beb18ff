import Derived.Test.YtdacblackoaphaaWMore
import Derived.Test.YtdacblackoaphaaWLast
import Derived.Test.YtdacblackoaphaaLEv
import Derived.Test.YtdacblackoaphaaLNum
import Derived.Test.YtdacblackoaphaaLEnc
import Derived.Test.YtdacblackoaphaaLDec
namespace Go.Proofs.Ytdacblackoaphaa.L
open Go.RowKit Go.Proofs.YtdacblackoaphaaW.PrintWords Go.Proofs.YtdacblackoaphaaW.PrintLast
set_option linter.unusedVariables false
set_option linter.unusedSimpArgs false
theorem pow64_pos (j : Nat) : (0 : Int) < 64 ^ j := Int.pow_pos (by omega)
theorem div_div64 (n : Int) (j : Nat) : n / 64 / 64 ^ j = n / 64 ^ (j + 1) := by
  rw [Int.pow_succ, Int.mul_comm (64 ^ j) 64, Int.ediv_ediv_of_nonneg (by omega)]
theorem div64_div (n : Int) (j : Nat) : n / 64 ^ j / 64 = n / 64 ^ (j + 1) := by
  rw [Int.pow_succ, Int.ediv_ediv_of_nonneg (by have := pow64_pos j; omega)]
theorem decT_cons (j : Nat) (x : Int) (l : List Int) (n : Int) : decT (j + 1) (x :: l) n = if x < 128 ∨ x > 191 then (5, 0) else decT j l (64 * n + (x - 128)) := rfl
theorem decT_enc (j : Nat) : ∀ (i : Nat) (n : Int) (rest : List Int), decT (j + i) (encTail j n ++ rest) (n / 64 ^ j) = decT i rest n := by
  induction j with
  | zero => intro i n rest; rw [Int.pow_zero, Int.ediv_one, Nat.zero_add]; rfl
  | succ j ih =>
    intro i n rest
    have h := ih (i + 1) (n / 64) ([128 + n % 64] ++ rest)
    rw [div_div64, show j + (i + 1) = j + 1 + i by omega] at h
    rw [show encTail (j + 1) n ++ rest = encTail j (n / 64) ++ ([128 + n % 64] ++ rest) by simp [encTail], h]
    show decT (i + 1) ((128 + n % 64) :: rest) (n / 64) = _
    rw [decT_cons, if_neg (by omega), show 64 * (n / 64) + (128 + n % 64 - 128) = n by omega]
theorem encHead_size (n : Int) (h0 : 0 ≤ n) (h1 : n ≤ 68719476735) : sizedOf (encHead n) = nsize n := by
  rw [encHead_eq]
  unfold sizedOf nsize
  by_cases c1 : n < 128
  · simp only [if_pos c1]
  by_cases c2 : n < 2048
  · simp only [if_neg c1, if_pos c2]; rw [if_neg (by omega), if_neg (by omega), if_pos (by omega)]
  by_cases c3 : n < 65536
  · simp only [if_neg c1, if_neg c2, if_pos c3]; rw [if_neg (by omega), if_neg (by omega), if_neg (by omega), if_pos (by omega)]
  by_cases c4 : n < 2097152
  · simp only [if_neg c1, if_neg c2, if_neg c3, if_pos c4]; rw [if_neg (by omega), if_neg (by omega), if_neg (by omega), if_neg (by omega), if_pos (by omega)]
  by_cases c5 : n < 67108864
  · simp only [if_neg c1, if_neg c2, if_neg c3, if_neg c4, if_pos c5]; rw [if_neg (by omega), if_neg (by omega), if_neg (by omega), if_neg (by omega), if_neg (by omega), if_pos (by omega)]
  by_cases c6 : n < 2147483648
  · simp only [if_neg c1, if_neg c2, if_neg c3, if_neg c4, if_neg c5, if_pos c6]; rw [if_neg (by omega), if_neg (by omega), if_neg (by omega), if_neg (by omega), if_neg (by omega), if_neg (by omega), if_pos (by omega)]
  · simp only [if_neg c1, if_neg c2, if_neg c3, if_neg c4, if_neg c5, if_neg c6]; rw [if_neg (by omega), if_neg (by omega), if_neg (by omega), if_neg (by omega), if_neg (by omega), if_neg (by omega), if_neg (by omega), if_pos (by omega)]
/-- What was written is read, whatever stands behind it. -/
theorem dec_enc (n : Int) (h0 : 0 ≤ n) (h1 : n ≤ 68719476735) (more : List Int) : dec (encBytes n ++ more) = (n, nsize n, 0) := by
  have hs := nsize_rng n
  have hz := encHead_size n h0 h1
  show dec (encHead n :: (encTail ((nsize n).toNat - 1) n ++ more)) = _
  have ht := decT_enc ((nsize n).toNat - 1) 0 n more
  rw [Nat.add_zero] at ht
  rw [dec_cons _ _ (by omega), hz, show encHead n - lead (nsize n) = n / 64 ^ ((nsize n).toNat - 1) by unfold encHead; omega, ht]
  show decEnd (nsize n) (0, n) = _
  rw [decEnd_zero, if_pos rfl]
theorem decT_short : ∀ (j : Nat) (l : List Int) (n : Int), l.length < j → (∀ x ∈ l, 128 ≤ x ∧ x ≤ 191) → decT j l n = (2, 0)
  | 0, _, _, h, _ => by omega
  | j + 1, [], _, _, _ => rfl
  | j + 1, x :: l, n, h, hx => by
    have := hx x (by simp)
    rw [decT_cons, if_neg (by omega)]
    exact decT_short j l _ (by simp at h; omega) (fun y hy => hx y (by simp [hy]))
/-- What is cut off isn't read. -/
theorem dec_cut (n : Int) (h0 : 0 ≤ n) (h1 : n ≤ 68719476735) (j : Nat) (hj : (j : Int) < nsize n) : dec ((encBytes n).take j) = (0, 0, 2) := by
  have hs := nsize_rng n
  have hz := encHead_size n h0 h1
  cases j with
  | zero => rfl
  | succ j =>
    show dec (encHead n :: (encTail ((nsize n).toNat - 1) n).take j) = _
    rw [dec_cons _ _ (by omega), hz, decT_short _ _ _ (by rw [List.length_take, encTail_length]; omega) (fun x hx => encTail_rng _ _ x (List.mem_of_mem_take hx))]
    rfl
theorem encTail_cons (j : Nat) : ∀ n : Int, encTail (j + 1) n = (128 + n / 64 ^ j % 64) :: encTail j n := by
  induction j with
  | zero => intro n; rw [Int.pow_zero, Int.ediv_one]; rfl
  | succ j ih =>
    intro n
    have h := ih (n / 64)
    show encTail (j + 1) (n / 64) ++ [128 + n % 64] = _
    rw [h, div_div64]
    rfl
theorem decT_back : ∀ (j : Nat) (l : List Int) (v n : Int), decT j l v = (0, n) → j ≤ l.length ∧ l.take j = encTail j n ∧ n / 64 ^ j = v
  | 0, l, v, n, h => by
    simp only [decT, Prod.mk.injEq, true_and] at h
    rw [Int.pow_zero, Int.ediv_one]
    exact ⟨by omega, rfl, h.symm⟩
  | j + 1, [], v, n, h => by simp [decT] at h
  | j + 1, x :: l, v, n, h => by
    rw [decT_cons] at h
    by_cases c : x < 128 ∨ x > 191
    · rw [if_pos c] at h; simp at h
    rw [if_neg c] at h
    obtain ⟨a, b, e⟩ := decT_back j l _ n h
    have e2 := div64_div n j
    refine ⟨by simp; omega, ?_, by omega⟩
    rw [List.take_succ_cons, b, encTail_cons, e]
    congr 1
    omega
/-- What is read, written, is the same bytes. -/
theorem dec_back (l : List Int) (hr : ∀ x ∈ l, 0 ≤ x ∧ x ≤ 255) (n k : Int) (h : dec l = (n, k, 0)) : 1 ≤ k ∧ k ≤ l.length ∧ (0 ≤ n ∧ n ≤ 68719476735) ∧ l.take k.toNat = encBytes n := by
  cases l with
  | nil => simp [dec] at h
  | cons b t =>
    have hb := hr b (by simp)
    by_cases c : sizedOf b = 0
    · rw [dec_none b t c] at h; simp at h
    have hs := sizedOf_rng b
    rw [dec_cons b t c] at h
    have hf := first_low b hb c
    have hd := decT_rng ((sizedOf b).toNat - 1) t _ hf.1 hf.2
    unfold decEnd at h
    generalize hp : decT ((sizedOf b).toNat - 1) t (b - lead (sizedOf b)) = p at h hd
    obtain ⟨e, m⟩ := p
    dsimp only at h hd
    by_cases c1 : e ≠ 0
    · rw [if_pos c1] at h
      simp only [Prod.mk.injEq] at h
      omega
    have c1' : e = 0 := by omega
    subst c1'
    rw [if_neg c1] at h
    by_cases c2 : nsize m ≠ sizedOf b
    · rw [if_pos c2] at h; simp at h
    rw [if_neg c2] at h
    simp only [Prod.mk.injEq, and_true] at h
    obtain ⟨rfl, rfl⟩ := h
    have c2' : nsize m = sizedOf b := by omega
    obtain ⟨a, b', v⟩ := decT_back _ _ _ _ hp
    refine ⟨by omega, by simp; omega, hd, ?_⟩
    rw [show (sizedOf b).toNat = ((sizedOf b).toNat - 1) + 1 by omega, List.take_succ_cons, b']
    unfold encBytes encHead
    rw [c2', v]
    congr 1
    omega
end Go.Proofs.Ytdacblackoaphaa.L
