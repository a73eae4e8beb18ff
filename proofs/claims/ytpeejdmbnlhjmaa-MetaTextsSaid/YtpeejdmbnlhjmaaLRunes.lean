import Derived.Test.YtpeejdmbnlhjmaaWMore
import Derived.Test.YtpeejdmbnlhjmaaWLast
import Derived.Test.YtpeejdmbnlhjmaaLEv
import Derived.Test.YtpeejdmbnlhjmaaLNum
import Derived.Test.YtpeejdmbnlhjmaaLEnc
import Derived.Test.YtpeejdmbnlhjmaaLUtf
namespace Go.Proofs.Ytpeejdmbnlhjmaa.L
open Go.RowKit Go.Proofs.YtpeejdmbnlhjmaaW.PrintWords Go.Proofs.YtpeejdmbnlhjmaaW.PrintLast
set_option linter.unusedVariables false
set_option linter.unusedSimpArgs false
theorem bytesOf_rng (s : ByteArray) : ∀ x ∈ bytesOf s, 0 ≤ x ∧ x ≤ 255 := by
  intro x hx
  obtain ⟨b, _, rfl⟩ := List.mem_map.mp hx
  have := b.toNat_lt
  omega
theorem bytesOf_str (l : List Int) (h : ∀ x ∈ l, 0 ≤ x ∧ x ≤ 255) : bytesOf (strOfNums l) = l := by
  unfold bytesOf strOfNums
  simp only [List.map_map]
  refine (List.map_congr_left fun x hx => ?_).trans (List.map_id l)
  have := h x hx
  simp only [Function.comp_apply, id_eq]
  rw [UInt8.toNat_ofNat']
  omega
theorem toList_bytes {a b : ByteArray} (h : a.toList = b.toList) : bytesOf a = bytesOf b := by
  rw [ByteArray.toList_eq, ByteArray.toList_eq] at h
  unfold bytesOf
  rw [h]
theorem bytes_toList {a b : ByteArray} (h : bytesOf a = bytesOf b) : a.toList = b.toList := by
  rw [ByteArray.toList_eq, ByteArray.toList_eq]
  unfold bytesOf at h
  refine List.map_inj_right (f := fun b : UInt8 => (b.toNat : Int)) ?_ |>.mp h
  intro x y e
  exact UInt8.toNat_inj.mp (by omega)
theorem bytesOf_extract (s : ByteArray) (p r : Nat) (hr : r ≤ s.size) : bytesOf (s.extract p r) = ((bytesOf s).drop p).take (r - p) := by
  unfold bytesOf
  rw [ByteArray.data_extract, Array.toList_extract, List.extract_eq_take_drop, List.map_take, List.map_drop]
theorem get_bytes (s : ByteArray) (j : Nat) : (((s.get! j).toNat : Nat) : Int) = (bytesOf s).getD j 0 := by
  by_cases h : j < s.size
  · have e : s.get! j = s[j]'h := by
      simp [ByteArray.get!, getElem!_pos, h]
      rfl
    have h' : j < s.data.toList.length := by rw [data_length]; exact h
    rw [e]
    simp [bytesOf, List.getD_eq_getElem?_getD, List.getElem?_eq_getElem h']
    rfl
  · have h' : s.data.toList.length ≤ j := by rw [data_length]; omega
    have e : s.get! j = 0 := by
      have h2 : ¬ j < s.data.size := h
      show s.data[j]! = 0
      rw [getElem!_neg s.data j h2]
      rfl
    rw [e]
    simp [bytesOf, List.getD_eq_getElem?_getD, List.getElem?_eq_none h']
/-- Three bytes of U+FFFD are read as it. -/
theorem decode_fffd (s : ByteArray) (p : Nat) (h : p + 3 ≤ s.size) (h0 : (s.get! (p + 0)).toNat = 239) (h1 : (s.get! (p + 1)).toNat = 191) (h2 : (s.get! (p + 2)).toNat = 189) : Utf8.decode s p = (65533, 3) := by
  unfold Utf8.decode
  simp only [h0, h1, h2]
  have a1 : p + 1 < s.size := by omega
  have a2 : p + 2 < s.size := by omega
  simp [a1, a2, Utf8.valid]
theorem rune4 (c : Nat) (h : c ≥ 65536 ∧ ((0 ≤ (c : Int) ∧ (c : Int) < 55296) ∨ ((57344 : Int) ≤ (c : Int) ∧ (c : Int) ≤ 1114111))) : ((4 : Nat) : Int) = nsize (c : Int) ∧ c ≤ 1114111 ∧ (c < 55296 ∨ 57343 < c) := by
  refine ⟨?_, by omega, by omega⟩
  unfold nsize
  omega
/-- What a place of a text tells: a rune with the size of its number, or U+FFFD with size 1. -/
theorem decode_size (s : ByteArray) (p : Nat) : Utf8.decode s p = (65533, 1) ∨
    (((Utf8.decode s p).2 : Int) = nsize ((Utf8.decode s p).1 : Int) ∧ (Utf8.decode s p).1 ≤ 1114111 ∧ ((Utf8.decode s p).1 < 55296 ∨ 57343 < (Utf8.decode s p).1)) := by
  have b0 := (s.get! (p + 0)).toNat_lt
  have b1 := (s.get! (p + 1)).toNat_lt
  have b2 := (s.get! (p + 2)).toNat_lt
  have b3 := (s.get! (p + 3)).toNat_lt
  generalize hd : Utf8.decode s p = d
  unfold Utf8.decode at hd
  dsimp only at hd
  split at hd
  · subst hd
    refine .inr ⟨?_, ?_, ?_⟩
    · unfold nsize; simp only; omega
    · simp only; omega
    · simp only; omega
  split at hd
  · split at hd
    · subst hd
      refine .inr ⟨?_, ?_, ?_⟩
      · unfold nsize; simp only; omega
      · simp only; omega
      · simp only; omega
    · exact .inl hd.symm
  split at hd
  · split at hd
    · rename_i h1 h2 h3 h4
      simp only [Bool.and_eq_true, decide_eq_true_eq, Utf8.valid, Bool.or_eq_true] at h4
      subst hd
      refine .inr ⟨?_, ?_, ?_⟩
      · unfold nsize; simp only; omega
      · simp only; omega
      · simp only; omega
    · exact .inl hd.symm
  split at hd
  · split at hd
    · rename_i h1 h2 h3 h4 h5
      simp only [Bool.and_eq_true, decide_eq_true_eq, Utf8.valid, Bool.or_eq_true] at h5
      subst hd
      exact .inr (rune4 _ h5)
    · exact .inl hd.symm
  exact .inl hd.symm
theorem decode_rune (s : ByteArray) (p : Nat) : (Utf8.decode s p).1 ≤ 1114111 ∧ ((Utf8.decode s p).1 < 55296 ∨ 57343 < (Utf8.decode s p).1) := by
  rcases decode_size s p with h | h
  · rw [h]; decide
  · exact h.2
theorem getD_drop (l : List Int) (p k : Nat) : l.getD (p + k) 0 = (l.drop p).getD k 0 := by
  rw [List.getD_eq_getElem?_getD, List.getD_eq_getElem?_getD, List.getElem?_drop]
/-- Where a rune's own bytes stand it is read with their number. -/
theorem decode_width (s : ByteArray) (p : Nat) (more : List Int) (h : (bytesOf s).drop p = encBytes ((Utf8.decode s p).1 : Int) ++ more) : ((Utf8.decode s p).2 : Int) = nsize ((Utf8.decode s p).1 : Int) := by
  rcases decode_size s p with e | e
  · exfalso
    rw [e] at h
    have hb : encBytes 65533 = [239, 191, 189] := by
      simp only [encBytes, encHead_eq, nsize]
      rfl
    have h3 : (bytesOf s).drop p = 239 :: 191 :: 189 :: more := by
      rw [h, show (((65533, 1) : Nat × Nat).1 : Int) = 65533 from rfl, hb]
      rfl
    have hl := congrArg List.length h3
    rw [List.length_drop, bytesOf_length] at hl
    simp only [List.length_cons] at hl
    have g := fun k => (get_bytes s (p + k)).trans ((getD_drop (bytesOf s) p k).trans (by rw [h3]))
    have g0 := g 0
    have g1 := g 1
    have g2 := g 2
    simp only [List.getD_cons_zero, List.getD_cons_succ] at g0 g1 g2
    have := decode_fffd s p (by omega) (by omega) (by omega) (by omega)
    rw [e] at this
    cases this
  · exact e.1
end Go.Proofs.Ytpeejdmbnlhjmaa.L
