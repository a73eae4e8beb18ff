/- Facts, put together from several texts. -/
import Derived.Test.YtbohlcccdcilkaaWMore
import Derived.Test.YtbohlcccdcilkaaWLast
import Derived.Test.YtbohlcccdcilkaaLEv
import Derived.Test.YtbohlcccdcilkaaLNum
import Derived.Test.YtbohlcccdcilkaaLEnc
namespace Go.Proofs.Ytbohlcccdcilkaa.L
open Go.RowKit Go.Proofs.YtbohlcccdcilkaaW.PrintWords Go.Proofs.YtbohlcccdcilkaaW.PrintLast
set_option linter.unusedVariables false
set_option linter.unusedSimpArgs false
/-- How many bytes a first one asks for; 0, if it is none. -/
def sizedOf (b : Int) : Int := if b < 128 then 1 else if b < 192 then 0 else if b < 224 then 2 else if b < 240 then 3 else if b < 248 then 4 else if b < 252 then 5 else if b < 254 then 6 else if b < 255 then 7 else 0
/-- What stands behind a first byte, so many bytes: an error, or the number. -/
def decT : Nat → List Int → Int → Int × Int
  | 0, _, n => (0, n)
  | _ + 1, [], _ => (2, 0)
  | j + 1, x :: l, n => if x < 128 ∨ x > 191 then (5, 0) else decT j l (64 * n + (x - 128))
/-- The number that bytes begin with, its size, or what is wrong. -/
def dec : List Int → Int × Int × Int
  | [] => (0, 0, 2)
  | b :: t => if sizedOf b = 0 then (0, 0, 5) else if (decT ((sizedOf b).toNat - 1) t (b - lead (sizedOf b))).1 ≠ 0 then (0, 0, (decT ((sizedOf b).toNat - 1) t (b - lead (sizedOf b))).1)
    else if nsize (decT ((sizedOf b).toNat - 1) t (b - lead (sizedOf b))).2 ≠ sizedOf b then (0, 0, 5) else ((decT ((sizedOf b).toNat - 1) t (b - lead (sizedOf b))).2, sizedOf b, 0)
/-- The end of a decoding. -/
def decEnd (s : Int) (r : Int × Int) : Int × Int × Int := if r.1 ≠ 0 then (0, 0, r.1) else if nsize r.2 ≠ s then (0, 0, 5) else (r.2, s, 0)
theorem dec_at (b : Int) (t : List Int) : dec (b :: t) = if sizedOf b = 0 then (0, 0, 5) else decEnd (sizedOf b) (decT ((sizedOf b).toNat - 1) t (b - lead (sizedOf b))) := rfl
theorem dec_cons (b : Int) (t : List Int) (hs : sizedOf b ≠ 0) : dec (b :: t) = decEnd (sizedOf b) (decT ((sizedOf b).toNat - 1) t (b - lead (sizedOf b))) := by
  rw [dec_at, if_neg hs]
theorem dec_none (b : Int) (t : List Int) (hs : sizedOf b = 0) : dec (b :: t) = (0, 0, 5) := by
  rw [dec_at, if_pos hs]
theorem decEnd_zero (s n : Int) : decEnd s (0, n) = if nsize n = s then (n, s, 0) else (0, 0, 5) := by
  unfold decEnd
  by_cases c : nsize n = s <;> simp [c]
theorem sizedOf_rng (b : Int) : 0 ≤ sizedOf b ∧ sizedOf b ≤ 7 := by unfold sizedOf; omega
theorem first_low (b : Int) (h : 0 ≤ b ∧ b ≤ 255) (hs : sizedOf b ≠ 0) : 0 ≤ b - lead (sizedOf b) ∧ (b - lead (sizedOf b) + 1) * 64 ^ ((sizedOf b).toNat - 1) ≤ 68719476736 := by
  unfold sizedOf at hs ⊢
  by_cases c1 : b < 128
  · rw [if_pos c1]; show 0 ≤ b - 0 ∧ (b - 0 + 1) * 1 ≤ _; omega
  rw [if_neg c1] at hs ⊢
  by_cases c2 : b < 192
  · rw [if_pos c2] at hs; exact absurd rfl hs
  rw [if_neg c2] at hs ⊢
  by_cases c3 : b < 224
  · rw [if_pos c3]; show 0 ≤ b - 192 ∧ (b - 192 + 1) * 64 ≤ _; omega
  rw [if_neg c3] at hs ⊢
  by_cases c4 : b < 240
  · rw [if_pos c4]; show 0 ≤ b - 224 ∧ (b - 224 + 1) * 4096 ≤ _; omega
  rw [if_neg c4] at hs ⊢
  by_cases c5 : b < 248
  · rw [if_pos c5]; show 0 ≤ b - 240 ∧ (b - 240 + 1) * 262144 ≤ _; omega
  rw [if_neg c5] at hs ⊢
  by_cases c6 : b < 252
  · rw [if_pos c6]; show 0 ≤ b - 248 ∧ (b - 248 + 1) * 16777216 ≤ _; omega
  rw [if_neg c6] at hs ⊢
  by_cases c7 : b < 254
  · rw [if_pos c7]; show 0 ≤ b - 252 ∧ (b - 252 + 1) * 1073741824 ≤ _; omega
  rw [if_neg c7] at hs ⊢
  by_cases c8 : b < 255
  · rw [if_pos c8]; show 0 ≤ b - 254 ∧ (b - 254 + 1) * 68719476736 ≤ _; omega
  rw [if_neg c8] at hs
  exact absurd rfl hs
theorem decT_rng : ∀ (j : Nat) (l : List Int) (n : Int), 0 ≤ n → (n + 1) * 64 ^ j ≤ 68719476736 → 0 ≤ (decT j l n).2 ∧ (decT j l n).2 ≤ 68719476735
  | 0, _, n, h0, h => by rw [Int.pow_zero] at h; simp only [decT]; omega
  | _ + 1, [], _, _, _ => by simp [decT]
  | j + 1, x :: l, n, h0, h => by
    unfold decT
    split
    · simp
    · refine decT_rng j l _ (by omega) ?_
      rw [Int.pow_succ] at h
      have h1 : (64 * n + (x - 128) + 1) * 64 ^ j ≤ ((n + 1) * 64) * 64 ^ j := Int.mul_le_mul_of_nonneg_right (by omega) (Int.pow_nonneg (by omega))
      have h2 : ((n + 1) * 64) * 64 ^ j = (n + 1) * (64 ^ j * 64) := by rw [Int.mul_assoc, Int.mul_comm 64]
      omega
theorem decT_err : ∀ (j : Nat) (l : List Int) (n : Int), (decT j l n).1 = 0 ∨ (decT j l n).1 = 2 ∨ (decT j l n).1 = 5
  | 0, _, _ => by simp [decT]
  | _ + 1, [], _ => by simp [decT]
  | j + 1, x :: l, n => by
    unfold decT
    split
    · simp
    · exact decT_err j l _
end Go.Proofs.Ytbohlcccdcilkaa.L
namespace Go.Proofs.Ytbohlcccdcilkaa.L
open Go.RowKit Go.Proofs.YtbohlcccdcilkaaW.PrintWords Go.Proofs.YtbohlcccdcilkaaW.PrintLast
set_option linter.unusedVariables false
set_option linter.unusedSimpArgs false
theorem pow64_pos (j : Nat) : (0 : Int) < 64 ^ j := Int.pow_pos (by omega)
theorem div_div64 (n : Int) (j : Nat) : n / 64 / 64 ^ j = n / 64 ^ (j + 1) := by
  rw [Int.pow_succ, Int.mul_comm (64 ^ j) 64, Int.ediv_ediv_of_nonneg (by omega)]
theorem div64_div (n : Int) (j : Nat) : n / 64 ^ j / 64 = n / 64 ^ (j + 1) := by
  rw [Int.pow_succ, Int.ediv_ediv_of_nonneg (by have := pow64_pos j; omega)]
theorem decT_cons (j : Nat) (x : Int) (l : List Int) (n : Int) : decT (j + 1) (x :: l) n = if x < 128 ∨ x > 191 then (5, 0) else decT j l (64 * n + (x - 128)) := rfl
theorem decT_enc (j : Nat) : ∀ (i : Nat) (n : Int) (rest : List Int), decT (j + i) (encTail j n ++ rest) (n / 64 ^ j) = decT i rest n := by
  induction j with
  | zero => intro i n rest; rw [Int.pow_zero, Int.ediv_one, Nat.zero_add]; rfl
  | succ j ih =>
    intro i n rest
    have h := ih (i + 1) (n / 64) ([128 + n % 64] ++ rest)
    rw [div_div64, show j + (i + 1) = j + 1 + i by omega] at h
    rw [show encTail (j + 1) n ++ rest = encTail j (n / 64) ++ ([128 + n % 64] ++ rest) by simp [encTail], h]
    show decT (i + 1) ((128 + n % 64) :: rest) (n / 64) = _
    rw [decT_cons, if_neg (by omega), show 64 * (n / 64) + (128 + n % 64 - 128) = n by omega]
theorem encHead_size (n : Int) (h0 : 0 ≤ n) (h1 : n ≤ 68719476735) : sizedOf (encHead n) = nsize n := by
  rw [encHead_eq]
  unfold sizedOf nsize
  by_cases c1 : n < 128
  · simp only [if_pos c1]
  by_cases c2 : n < 2048
  · simp only [if_neg c1, if_pos c2]; rw [if_neg (by omega), if_neg (by omega), if_pos (by omega)]
  by_cases c3 : n < 65536
  · simp only [if_neg c1, if_neg c2, if_pos c3]; rw [if_neg (by omega), if_neg (by omega), if_neg (by omega), if_pos (by omega)]
  by_cases c4 : n < 2097152
  · simp only [if_neg c1, if_neg c2, if_neg c3, if_pos c4]; rw [if_neg (by omega), if_neg (by omega), if_neg (by omega), if_neg (by omega), if_pos (by omega)]
  by_cases c5 : n < 67108864
  · simp only [if_neg c1, if_neg c2, if_neg c3, if_neg c4, if_pos c5]; rw [if_neg (by omega), if_neg (by omega), if_neg (by omega), if_neg (by omega), if_neg (by omega), if_pos (by omega)]
  by_cases c6 : n < 2147483648
  · simp only [if_neg c1, if_neg c2, if_neg c3, if_neg c4, if_neg c5, if_pos c6]; rw [if_neg (by omega), if_neg (by omega), if_neg (by omega), if_neg (by omega), if_neg (by omega), if_neg (by omega), if_pos (by omega)]
  · simp only [if_neg c1, if_neg c2, if_neg c3, if_neg c4, if_neg c5, if_neg c6]; rw [if_neg (by omega), if_neg (by omega), if_neg (by omega), if_neg (by omega), if_neg (by omega), if_neg (by omega), if_neg (by omega), if_pos (by omega)]
/-- What was written is read, whatever stands behind it. -/
theorem dec_enc (n : Int) (h0 : 0 ≤ n) (h1 : n ≤ 68719476735) (more : List Int) : dec (encBytes n ++ more) = (n, nsize n, 0) := by
  have hs := nsize_rng n
  have hz := encHead_size n h0 h1
  show dec (encHead n :: (encTail ((nsize n).toNat - 1) n ++ more)) = _
  have ht := decT_enc ((nsize n).toNat - 1) 0 n more
  rw [Nat.add_zero] at ht
  rw [dec_cons _ _ (by omega), hz, show encHead n - lead (nsize n) = n / 64 ^ ((nsize n).toNat - 1) by unfold encHead; omega, ht]
  show decEnd (nsize n) (0, n) = _
  rw [decEnd_zero, if_pos rfl]
theorem decT_short : ∀ (j : Nat) (l : List Int) (n : Int), l.length < j → (∀ x ∈ l, 128 ≤ x ∧ x ≤ 191) → decT j l n = (2, 0)
  | 0, _, _, h, _ => by omega
  | j + 1, [], _, _, _ => rfl
  | j + 1, x :: l, n, h, hx => by
    have := hx x (by simp)
    rw [decT_cons, if_neg (by omega)]
    exact decT_short j l _ (by simp at h; omega) (fun y hy => hx y (by simp [hy]))
/-- What is cut off isn't read. -/
theorem dec_cut (n : Int) (h0 : 0 ≤ n) (h1 : n ≤ 68719476735) (j : Nat) (hj : (j : Int) < nsize n) : dec ((encBytes n).take j) = (0, 0, 2) := by
  have hs := nsize_rng n
  have hz := encHead_size n h0 h1
  cases j with
  | zero => rfl
  | succ j =>
    show dec (encHead n :: (encTail ((nsize n).toNat - 1) n).take j) = _
    rw [dec_cons _ _ (by omega), hz, decT_short _ _ _ (by rw [List.length_take, encTail_length]; omega) (fun x hx => encTail_rng _ _ x (List.mem_of_mem_take hx))]
    rfl
theorem encTail_cons (j : Nat) : ∀ n : Int, encTail (j + 1) n = (128 + n / 64 ^ j % 64) :: encTail j n := by
  induction j with
  | zero => intro n; rw [Int.pow_zero, Int.ediv_one]; rfl
  | succ j ih =>
    intro n
    have h := ih (n / 64)
    show encTail (j + 1) (n / 64) ++ [128 + n % 64] = _
    rw [h, div_div64]
    rfl
theorem decT_back : ∀ (j : Nat) (l : List Int) (v n : Int), decT j l v = (0, n) → j ≤ l.length ∧ l.take j = encTail j n ∧ n / 64 ^ j = v
  | 0, l, v, n, h => by
    simp only [decT, Prod.mk.injEq, true_and] at h
    rw [Int.pow_zero, Int.ediv_one]
    exact ⟨by omega, rfl, h.symm⟩
  | j + 1, [], v, n, h => by simp [decT] at h
  | j + 1, x :: l, v, n, h => by
    rw [decT_cons] at h
    by_cases c : x < 128 ∨ x > 191
    · rw [if_pos c] at h; simp at h
    rw [if_neg c] at h
    obtain ⟨a, b, e⟩ := decT_back j l _ n h
    have e2 := div64_div n j
    refine ⟨by simp; omega, ?_, by omega⟩
    rw [List.take_succ_cons, b, encTail_cons, e]
    congr 1
    omega
/-- What is read, written, is the same bytes. -/
theorem dec_back (l : List Int) (hr : ∀ x ∈ l, 0 ≤ x ∧ x ≤ 255) (n k : Int) (h : dec l = (n, k, 0)) : 1 ≤ k ∧ k ≤ l.length ∧ (0 ≤ n ∧ n ≤ 68719476735) ∧ l.take k.toNat = encBytes n := by
  cases l with
  | nil => simp [dec] at h
  | cons b t =>
    have hb := hr b (by simp)
    by_cases c : sizedOf b = 0
    · rw [dec_none b t c] at h; simp at h
    have hs := sizedOf_rng b
    rw [dec_cons b t c] at h
    have hf := first_low b hb c
    have hd := decT_rng ((sizedOf b).toNat - 1) t _ hf.1 hf.2
    unfold decEnd at h
    generalize hp : decT ((sizedOf b).toNat - 1) t (b - lead (sizedOf b)) = p at h hd
    obtain ⟨e, m⟩ := p
    dsimp only at h hd
    by_cases c1 : e ≠ 0
    · rw [if_pos c1] at h
      simp only [Prod.mk.injEq] at h
      omega
    have c1' : e = 0 := by omega
    subst c1'
    rw [if_neg c1] at h
    by_cases c2 : nsize m ≠ sizedOf b
    · rw [if_pos c2] at h; simp at h
    rw [if_neg c2] at h
    simp only [Prod.mk.injEq, and_true] at h
    obtain ⟨rfl, rfl⟩ := h
    have c2' : nsize m = sizedOf b := by omega
    obtain ⟨a, b', v⟩ := decT_back _ _ _ _ hp
    refine ⟨by omega, by simp; omega, hd, ?_⟩
    rw [show (sizedOf b).toNat = ((sizedOf b).toNat - 1) + 1 by omega, List.take_succ_cons, b']
    unfold encBytes encHead
    rw [c2', v]
    congr 1
    omega
end Go.Proofs.Ytbohlcccdcilkaa.L
