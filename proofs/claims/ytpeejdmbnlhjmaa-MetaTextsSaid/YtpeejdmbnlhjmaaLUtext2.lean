import Derived.Test.YtpeejdmbnlhjmaaWMore
import Derived.Test.YtpeejdmbnlhjmaaWLast
import Derived.Test.YtpeejdmbnlhjmaaLUtext
import Derived.Test.YtpeejdmbnlhjmaaLRunes
import Derived.Test.YtpeejdmbnlhjmaaLUtf
namespace Go.Proofs.Ytpeejdmbnlhjmaa.L
open Go.RowKit Go.Proofs.YtpeejdmbnlhjmaaW.PrintWords Go.Proofs.YtpeejdmbnlhjmaaW.PrintLast
set_option linter.unusedVariables false
set_option linter.unusedSimpArgs false
theorem drop1 (s : ByteArray) (p : Nat) (h : p < s.size) : (bytesOf s).drop p = ((s.get! p).toNat : Int) :: (bytesOf s).drop (p + 1) := by
  have hl : p < (bytesOf s).length := by rw [bytesOf_length]; exact h
  rw [List.drop_eq_getElem_cons hl, get_bytes, List.getD_eq_getElem?_getD, List.getElem?_eq_getElem hl]
  rfl
theorem enc1 (n : Int) (h : n < 128) : encBytes n = [n] := by
  simp only [encBytes, encHead_eq, nsize, if_pos h]
  rfl
theorem enc2 (n : Int) (h : 128 ≤ n ∧ n < 2048) : encBytes n = [192 + n / 64, 128 + n % 64] := by
  simp only [encBytes, encHead_eq, nsize, if_neg (show ¬ n < 128 by omega), if_pos h.2]
  rfl
theorem enc3 (n : Int) (h : 2048 ≤ n ∧ n < 65536) : encBytes n = [224 + n / 4096, 128 + n / 64 % 64, 128 + n % 64] := by
  simp only [encBytes, encHead_eq, nsize, if_neg (show ¬ n < 128 by omega), if_neg (show ¬ n < 2048 by omega), if_pos h.2]
  rfl
theorem enc4 (n : Int) (h : 65536 ≤ n ∧ n < 2097152) : encBytes n = [240 + n / 262144, 128 + n / 64 / 64 % 64, 128 + n / 64 % 64, 128 + n % 64] := by
  simp only [encBytes, encHead_eq, nsize, if_neg (show ¬ n < 128 by omega), if_neg (show ¬ n < 2048 by omega), if_neg (show ¬ n < 65536 by omega), if_pos h.2]
  rfl
/-- A rune's cases. -/
theorem run_cases (s : ByteArray) (p : Nat) (hz : (runeN s p).2 ≠ 0) :
    ((s.get! p).toNat < 128 ∧ runeN s p = ((s.get! p).toNat, 1)) ∨
    (194 ≤ (s.get! p).toNat ∧ (s.get! p).toNat ≤ 223 ∧ p + 2 ≤ s.size ∧ 128 ≤ (s.get! (p + 1)).toNat ∧ (s.get! (p + 1)).toNat ≤ 191 ∧ runeN s p = (((s.get! p).toNat - 192) * 64 + ((s.get! (p + 1)).toNat - 128), 2)) ∨
    (224 ≤ (s.get! p).toNat ∧ (s.get! p).toNat ≤ 239 ∧ p + 3 ≤ s.size ∧ 128 ≤ (s.get! (p + 1)).toNat ∧ (s.get! (p + 1)).toNat ≤ 191 ∧ 128 ≤ (s.get! (p + 2)).toNat ∧ (s.get! (p + 2)).toNat ≤ 191 ∧ 2048 ≤ (((s.get! p).toNat - 224) * 64 + ((s.get! (p + 1)).toNat - 128)) * 64 + ((s.get! (p + 2)).toNat - 128) ∧ ((((s.get! p).toNat - 224) * 64 + ((s.get! (p + 1)).toNat - 128)) * 64 + ((s.get! (p + 2)).toNat - 128) < 55296 ∨ 57343 < (((s.get! p).toNat - 224) * 64 + ((s.get! (p + 1)).toNat - 128)) * 64 + ((s.get! (p + 2)).toNat - 128)) ∧ runeN s p = ((((s.get! p).toNat - 224) * 64 + ((s.get! (p + 1)).toNat - 128)) * 64 + ((s.get! (p + 2)).toNat - 128), 3)) ∨
    (240 ≤ (s.get! p).toNat ∧ (s.get! p).toNat ≤ 244 ∧ p + 4 ≤ s.size ∧ 128 ≤ (s.get! (p + 1)).toNat ∧ (s.get! (p + 1)).toNat ≤ 191 ∧ 128 ≤ (s.get! (p + 2)).toNat ∧ (s.get! (p + 2)).toNat ≤ 191 ∧ 128 ≤ (s.get! (p + 3)).toNat ∧ (s.get! (p + 3)).toNat ≤ 191 ∧ 65536 ≤ ((((s.get! p).toNat - 240) * 64 + ((s.get! (p + 1)).toNat - 128)) * 64 + ((s.get! (p + 2)).toNat - 128)) * 64 + ((s.get! (p + 3)).toNat - 128) ∧ ((((s.get! p).toNat - 240) * 64 + ((s.get! (p + 1)).toNat - 128)) * 64 + ((s.get! (p + 2)).toNat - 128)) * 64 + ((s.get! (p + 3)).toNat - 128) ≤ 1114111 ∧ runeN s p = (((((s.get! p).toNat - 240) * 64 + ((s.get! (p + 1)).toNat - 128)) * 64 + ((s.get! (p + 2)).toNat - 128)) * 64 + ((s.get! (p + 3)).toNat - 128), 4)) := by
  unfold runeN at hz ⊢
  rw [Nat.add_zero] at hz ⊢
  generalize (s.get! p).toNat = b0 at *
  generalize (s.get! (p + 1)).toNat = b1 at *
  generalize (s.get! (p + 2)).toNat = b2 at *
  generalize (s.get! (p + 3)).toNat = b3 at *
  unfold runV at hz ⊢
  by_cases c0 : b0 < 128
  · rw [if_pos c0]
    exact .inl ⟨c0, rfl⟩
  rw [if_neg c0] at hz ⊢
  by_cases c2 : 194 ≤ b0 ∧ b0 ≤ 223
  · rw [if_pos c2] at hz ⊢
    by_cases d : 2 ≤ s.size - p ∧ (128 ≤ b1 ∧ b1 ≤ 191)
    · rw [if_pos d]
      exact .inr (.inl ⟨c2.1, c2.2, by omega, d.2.1, d.2.2, rfl⟩)
    · rw [if_neg d] at hz
      exact absurd rfl hz
  rw [if_neg c2] at hz ⊢
  by_cases c3 : 224 ≤ b0 ∧ b0 ≤ 239
  · rw [if_pos c3] at hz ⊢
    split at hz
    · rename_i d
      rw [if_pos d]
      exact .inr (.inr (.inl ⟨c3.1, c3.2, by omega, d.2.1.1, d.2.1.2, d.2.2.1.1, d.2.2.1.2, d.2.2.2.1, d.2.2.2.2, rfl⟩))
    · exact absurd rfl hz
  rw [if_neg c3] at hz ⊢
  by_cases c4 : 240 ≤ b0 ∧ b0 ≤ 244
  · rw [if_pos c4] at hz ⊢
    split at hz
    · rename_i d
      rw [if_pos d]
      exact .inr (.inr (.inr ⟨c4.1, c4.2, by omega, d.2.1.1, d.2.1.2, d.2.2.1.1, d.2.2.1.2, d.2.2.2.1.1, d.2.2.2.1.2, d.2.2.2.2.1, d.2.2.2.2.2, rfl⟩))
    · exact absurd rfl hz
  rw [if_neg c4] at hz
  exact absurd rfl hz
/-- A rune has the bytes that it was read from. -/
theorem enc_run (s : ByteArray) (p : Nat) (hp : p < s.size) (hz : (runeN s p).2 ≠ 0) : bytesOf (Utf8.encode ((runeN s p).1 : Int)) = ((bytesOf s).drop p).take (runeN s p).2 := by
  rcases run_cases s p hz with ⟨h0, hr⟩ | ⟨h0, h1, h2, h3, h4, hr⟩ | ⟨h0, h1, h2, h3, h4, h5, h6, h7, h8, hr⟩ | ⟨h0, h1, h2, h3, h4, h5, h6, h7, h8, h9, h10, hr⟩
  · rw [hr]
    simp only
    rw [utf_enc _ (by omega) (by omega) (by omega), enc1 _ (by omega), drop1 s p hp]
    rfl
  · rw [hr]
    simp only
    rw [utf_enc _ (by omega) (by omega) (by omega), enc2 _ (by omega), drop1 s p hp, drop1 s (p + 1) (by omega)]
    show _ = [_, _]
    rw [List.cons.injEq, List.cons.injEq]
    exact ⟨by omega, by omega, rfl⟩
  · rw [hr]
    simp only
    rw [utf_enc _ (by omega) (by omega) (by omega), enc3 _ (by omega), drop1 s p hp, drop1 s (p + 1) (by omega), show p + 1 + 1 = p + 2 from rfl, drop1 s (p + 2) (by omega)]
    show _ = [_, _, _]
    rw [List.cons.injEq, List.cons.injEq, List.cons.injEq]
    exact ⟨by omega, by omega, by omega, rfl⟩
  · rw [hr]
    simp only
    rw [utf_enc _ (by omega) (by omega) (by omega), enc4 _ (by omega), drop1 s p hp, drop1 s (p + 1) (by omega), show p + 1 + 1 = p + 2 from rfl, drop1 s (p + 2) (by omega), show p + 2 + 1 = p + 3 from rfl, drop1 s (p + 3) (by omega)]
    show _ = [_, _, _, _]
    rw [List.cons.injEq, List.cons.injEq, List.cons.injEq, List.cons.injEq]
    exact ⟨by omega, by omega, by omega, by omega, rfl⟩
theorem run_end (s : ByteArray) (p : Nat) (hp : p < s.size) (hz : (runeN s p).2 ≠ 0) : p + (runeN s p).2 ≤ s.size := by
  rcases run_cases s p hz with ⟨h0, hr⟩ | ⟨h0, h1, h2, h3, h4, hr⟩ | ⟨h0, h1, h2, h3, h4, h5, h6, h7, h8, hr⟩ | ⟨h0, h1, h2, h3, h4, h5, h6, h7, h8, h9, h10, hr⟩ <;> rw [hr] <;> simp only <;> omega
/-- U+FFFD in three bytes. -/
theorem run_fffd (s : ByteArray) (p : Nat) (hp : p < s.size) : (runeN s p).2 ≠ 0 ∧ (runeN s p).1 = 65533 ↔ p + 3 ≤ s.size ∧ (s.get! p).toNat = 239 ∧ (s.get! (p + 1)).toNat = 191 ∧ (s.get! (p + 2)).toNat = 189 := by
  constructor
  · rintro ⟨hz, hq⟩
    rcases run_cases s p hz with ⟨h0, hr⟩ | ⟨h0, h1, h2, h3, h4, hr⟩ | ⟨h0, h1, h2, h3, h4, h5, h6, h7, h8, hr⟩ | ⟨h0, h1, h2, h3, h4, h5, h6, h7, h8, h9, h10, hr⟩ <;> rw [hr] at hq <;> simp only at hq <;> omega
  · rintro ⟨h0, h1, h2, h3⟩
    have := decode_fffd s p h0 (by rw [Nat.add_zero]; exact h1) h2 h3
    rw [dec_run] at this
    split at this
    · cases this
    · rename_i hz
      exact ⟨hz, by rw [this]⟩
end Go.Proofs.Ytpeejdmbnlhjmaa.L
