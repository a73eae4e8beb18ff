/- The statement MetaWrites's own function as a plain one, with the proof that the program's call comes to it. For any arguments. -/
import Derived.Test.YtpeejdmbnlhjmaaPMetaWritesx6
import Derived.Outline
import Derived.Deep.WholeRow
import Derived.Test.YtpeejdmbnlhjmaaPMetaWritesx3
namespace Go.Proofs.Ytpeejdmbnlhjmaa.PMetaWrites
open Go.RowKit Go.Proofs.YtpeejdmbnlhjmaaW.PrintWords Go.Proofs.YtpeejdmbnlhjmaaW.PrintLast Go.Proofs.YtpeejdmbnlhjmaaW.PrintMore Go.Proofs.Ytpeejdmbnlhjmaa.H Go.Proofs.Ytpeejdmbnlhjmaa.H
attribute [local go_sem] max2_int min2_int max_two min_two max_three min_three max_four min_four   -- for this text's walks alone
set_option linter.unusedVariables false
set_option linter.unusedSimpArgs false
/-! ### MetaWrites' own function, walked by hand -/
/-- One value's block beside the document's. -/
def secF (k : Nat) (K : Int) (b : Bool) (m : Int × List Int × Int) (body : Option (List Int)) : Option Bool :=
  if b = true then (if m.1 = K then (if m.2.2 = 0 then body.bind fun B => serinetteref01_Same.f k m.2.1 B else none) else none) else (if m.2.2 = 6 then (if m.2.1 = [] then some true else none) else none)
/-- What is known of a section. -/
structure Sec (k : Nat) (K : Int) (b : Bool) (m : Int × List Int × Int) (body : Option (List Int)) : Prop where
  yes : b = true → m.1 = K ∧ m.2.2 = 0 ∧ ∃ B, body = some B ∧ serinetteref01_Same.f k m.2.1 B = some true
  no : b = false → m.2.2 = 6 ∧ m.2.1 = []
theorem sec_of {k : Nat} {K : Int} {b : Bool} {m : Int × List Int × Int} {body : Option (List Int)} (h : secF k K b m body = some true) : Sec k K b m body := by
  unfold secF at h
  constructor
  · intro hb
    rw [if_pos hb] at h
    split at h
    · rename_i h1
      split at h
      · rename_i h2
        obtain ⟨B, h3, h4⟩ := Option.bind_eq_some_iff.mp h
        exact ⟨h1, h2, B, h3, h4⟩
      · cases h
    · cases h
  · intro hb
    rw [if_neg (by rw [hb]; decide)] at h
    split at h
    · rename_i h1
      split at h
      · rename_i h2
        exact ⟨h1, h2⟩
      · cases h
    · cases h
theorem sA {α : Type} (l : List α) (i : Nat) (a : α) : l.toArray.setIfInBounds i a = (l.set i a).toArray := List.setIfInBounds_toArray ..
theorem sB {α : Type} (x a : α) (xs : List α) : (x :: xs).set 0 a = a :: xs := List.set_cons_zero ..
theorem sC {α : Type} (x a : α) (xs : List α) (i : Nat) : (x :: xs).set (i + 1) a = x :: xs.set i a := List.set_cons_succ ..
abbrev mk28_0 : Array Bool := #[false, false, false, false, false, false, false, false, false, false, false, false, false, false, false, false, false, false, false, false, false, false, false, false, false, false, false, false]
abbrev mk28_1 : Array Bool := #[true, false, false, false, false, false, false, false, false, false, false, false, false, false, false, false, false, false, false, false, false, false, false, false, false, false, false, false]
abbrev mk28_2 : Array Bool := #[true, true, false, false, false, false, false, false, false, false, false, false, false, false, false, false, false, false, false, false, false, false, false, false, false, false, false, false]
abbrev mk28_3 : Array Bool := #[true, true, true, false, false, false, false, false, false, false, false, false, false, false, false, false, false, false, false, false, false, false, false, false, false, false, false, false]
abbrev mk28_4 : Array Bool := #[true, true, true, true, false, false, false, false, false, false, false, false, false, false, false, false, false, false, false, false, false, false, false, false, false, false, false, false]
abbrev mk28_5 : Array Bool := #[true, true, true, true, true, false, false, false, false, false, false, false, false, false, false, false, false, false, false, false, false, false, false, false, false, false, false, false]
abbrev mk28_6 : Array Bool := #[true, true, true, true, true, true, false, false, false, false, false, false, false, false, false, false, false, false, false, false, false, false, false, false, false, false, false, false]
abbrev mk28_7 : Array Bool := #[true, true, true, true, true, true, true, false, false, false, false, false, false, false, false, false, false, false, false, false, false, false, false, false, false, false, false, false]
abbrev mk28_8 : Array Bool := #[true, true, true, true, true, true, true, true, false, false, false, false, false, false, false, false, false, false, false, false, false, false, false, false, false, false, false, false]
abbrev mk28_9 : Array Bool := #[true, true, true, true, true, true, true, true, true, false, false, false, false, false, false, false, false, false, false, false, false, false, false, false, false, false, false, false]
abbrev mk28_10 : Array Bool := #[true, true, true, true, true, true, true, true, true, true, false, false, false, false, false, false, false, false, false, false, false, false, false, false, false, false, false, false]
abbrev mk28_11 : Array Bool := #[true, true, true, true, true, true, true, true, true, true, true, false, false, false, false, false, false, false, false, false, false, false, false, false, false, false, false, false]
abbrev mk28_12 : Array Bool := #[true, true, true, true, true, true, true, true, true, true, true, true, false, false, false, false, false, false, false, false, false, false, false, false, false, false, false, false]
abbrev mk28_13 : Array Bool := #[true, true, true, true, true, true, true, true, true, true, true, true, true, false, false, false, false, false, false, false, false, false, false, false, false, false, false, false]
abbrev mk28_14 : Array Bool := #[true, true, true, true, true, true, true, true, true, true, true, true, true, true, false, false, false, false, false, false, false, false, false, false, false, false, false, false]
abbrev mk28_15 : Array Bool := #[true, true, true, true, true, true, true, true, true, true, true, true, true, true, true, false, false, false, false, false, false, false, false, false, false, false, false, false]
abbrev mk28_16 : Array Bool := #[true, true, true, true, true, true, true, true, true, true, true, true, true, true, true, true, false, false, false, false, false, false, false, false, false, false, false, false]
abbrev mk28_17 : Array Bool := #[true, true, true, true, true, true, true, true, true, true, true, true, true, true, true, true, true, false, false, false, false, false, false, false, false, false, false, false]
abbrev mk28_18 : Array Bool := #[true, true, true, true, true, true, true, true, true, true, true, true, true, true, true, true, true, true, false, false, false, false, false, false, false, false, false, false]
abbrev mk28_19 : Array Bool := #[true, true, true, true, true, true, true, true, true, true, true, true, true, true, true, true, true, true, true, false, false, false, false, false, false, false, false, false]
abbrev mk28_20 : Array Bool := #[true, true, true, true, true, true, true, true, true, true, true, true, true, true, true, true, true, true, true, true, false, false, false, false, false, false, false, false]
abbrev mk28_21 : Array Bool := #[true, true, true, true, true, true, true, true, true, true, true, true, true, true, true, true, true, true, true, true, true, false, false, false, false, false, false, false]
abbrev mk28_22 : Array Bool := #[true, true, true, true, true, true, true, true, true, true, true, true, true, true, true, true, true, true, true, true, true, true, false, false, false, false, false, false]
abbrev mk28_23 : Array Bool := #[true, true, true, true, true, true, true, true, true, true, true, true, true, true, true, true, true, true, true, true, true, true, true, false, false, false, false, false]
abbrev mk28_24 : Array Bool := #[true, true, true, true, true, true, true, true, true, true, true, true, true, true, true, true, true, true, true, true, true, true, true, true, false, false, false, false]
abbrev mk28_25 : Array Bool := #[true, true, true, true, true, true, true, true, true, true, true, true, true, true, true, true, true, true, true, true, true, true, true, true, true, false, false, false]
abbrev mk28_26 : Array Bool := #[true, true, true, true, true, true, true, true, true, true, true, true, true, true, true, true, true, true, true, true, true, true, true, true, true, true, false, false]
abbrev mk28_27 : Array Bool := #[true, true, true, true, true, true, true, true, true, true, true, true, true, true, true, true, true, true, true, true, true, true, true, true, true, true, true, false]
abbrev mk28_28 : Array Bool := #[true, true, true, true, true, true, true, true, true, true, true, true, true, true, true, true, true, true, true, true, true, true, true, true, true, true, true, true]
abbrev mk34_0 : Array Bool := #[false, false, false, false, false, false, false, false, false, false, false, false, false, false, false, false, false, false, false, false, false, false, false, false, false, false, false, false, false, false, false, false, false, false]
abbrev mk34_1 : Array Bool := #[true, false, false, false, false, false, false, false, false, false, false, false, false, false, false, false, false, false, false, false, false, false, false, false, false, false, false, false, false, false, false, false, false, false]
abbrev mk34_2 : Array Bool := #[true, true, false, false, false, false, false, false, false, false, false, false, false, false, false, false, false, false, false, false, false, false, false, false, false, false, false, false, false, false, false, false, false, false]
abbrev mk34_3 : Array Bool := #[true, true, true, false, false, false, false, false, false, false, false, false, false, false, false, false, false, false, false, false, false, false, false, false, false, false, false, false, false, false, false, false, false, false]
abbrev mk34_4 : Array Bool := #[true, true, true, true, false, false, false, false, false, false, false, false, false, false, false, false, false, false, false, false, false, false, false, false, false, false, false, false, false, false, false, false, false, false]
abbrev mk34_5 : Array Bool := #[true, true, true, true, true, false, false, false, false, false, false, false, false, false, false, false, false, false, false, false, false, false, false, false, false, false, false, false, false, false, false, false, false, false]
abbrev mk34_6 : Array Bool := #[true, true, true, true, true, true, false, false, false, false, false, false, false, false, false, false, false, false, false, false, false, false, false, false, false, false, false, false, false, false, false, false, false, false]
abbrev mk34_7 : Array Bool := #[true, true, true, true, true, true, true, false, false, false, false, false, false, false, false, false, false, false, false, false, false, false, false, false, false, false, false, false, false, false, false, false, false, false]
abbrev mk34_8 : Array Bool := #[true, true, true, true, true, true, true, true, false, false, false, false, false, false, false, false, false, false, false, false, false, false, false, false, false, false, false, false, false, false, false, false, false, false]
abbrev mk34_9 : Array Bool := #[true, true, true, true, true, true, true, true, true, false, false, false, false, false, false, false, false, false, false, false, false, false, false, false, false, false, false, false, false, false, false, false, false, false]
abbrev mk34_10 : Array Bool := #[true, true, true, true, true, true, true, true, true, true, false, false, false, false, false, false, false, false, false, false, false, false, false, false, false, false, false, false, false, false, false, false, false, false]
abbrev mk34_11 : Array Bool := #[true, true, true, true, true, true, true, true, true, true, true, false, false, false, false, false, false, false, false, false, false, false, false, false, false, false, false, false, false, false, false, false, false, false]
abbrev mk34_12 : Array Bool := #[true, true, true, true, true, true, true, true, true, true, true, true, false, false, false, false, false, false, false, false, false, false, false, false, false, false, false, false, false, false, false, false, false, false]
abbrev mk34_13 : Array Bool := #[true, true, true, true, true, true, true, true, true, true, true, true, true, false, false, false, false, false, false, false, false, false, false, false, false, false, false, false, false, false, false, false, false, false]
abbrev mk34_14 : Array Bool := #[true, true, true, true, true, true, true, true, true, true, true, true, true, true, false, false, false, false, false, false, false, false, false, false, false, false, false, false, false, false, false, false, false, false]
abbrev mk34_15 : Array Bool := #[true, true, true, true, true, true, true, true, true, true, true, true, true, true, true, false, false, false, false, false, false, false, false, false, false, false, false, false, false, false, false, false, false, false]
abbrev mk34_16 : Array Bool := #[true, true, true, true, true, true, true, true, true, true, true, true, true, true, true, true, false, false, false, false, false, false, false, false, false, false, false, false, false, false, false, false, false, false]
abbrev mk34_17 : Array Bool := #[true, true, true, true, true, true, true, true, true, true, true, true, true, true, true, true, true, false, false, false, false, false, false, false, false, false, false, false, false, false, false, false, false, false]
abbrev mk34_18 : Array Bool := #[true, true, true, true, true, true, true, true, true, true, true, true, true, true, true, true, true, true, false, false, false, false, false, false, false, false, false, false, false, false, false, false, false, false]
abbrev mk34_19 : Array Bool := #[true, true, true, true, true, true, true, true, true, true, true, true, true, true, true, true, true, true, true, false, false, false, false, false, false, false, false, false, false, false, false, false, false, false]
abbrev mk34_20 : Array Bool := #[true, true, true, true, true, true, true, true, true, true, true, true, true, true, true, true, true, true, true, true, false, false, false, false, false, false, false, false, false, false, false, false, false, false]
abbrev mk34_21 : Array Bool := #[true, true, true, true, true, true, true, true, true, true, true, true, true, true, true, true, true, true, true, true, true, false, false, false, false, false, false, false, false, false, false, false, false, false]
abbrev mk34_22 : Array Bool := #[true, true, true, true, true, true, true, true, true, true, true, true, true, true, true, true, true, true, true, true, true, true, false, false, false, false, false, false, false, false, false, false, false, false]
abbrev mk34_23 : Array Bool := #[true, true, true, true, true, true, true, true, true, true, true, true, true, true, true, true, true, true, true, true, true, true, true, false, false, false, false, false, false, false, false, false, false, false]
abbrev mk34_24 : Array Bool := #[true, true, true, true, true, true, true, true, true, true, true, true, true, true, true, true, true, true, true, true, true, true, true, true, false, false, false, false, false, false, false, false, false, false]
abbrev mk34_25 : Array Bool := #[true, true, true, true, true, true, true, true, true, true, true, true, true, true, true, true, true, true, true, true, true, true, true, true, true, false, false, false, false, false, false, false, false, false]
abbrev mk34_26 : Array Bool := #[true, true, true, true, true, true, true, true, true, true, true, true, true, true, true, true, true, true, true, true, true, true, true, true, true, true, false, false, false, false, false, false, false, false]
abbrev mk34_27 : Array Bool := #[true, true, true, true, true, true, true, true, true, true, true, true, true, true, true, true, true, true, true, true, true, true, true, true, true, true, true, false, false, false, false, false, false, false]
abbrev mk34_28 : Array Bool := #[true, true, true, true, true, true, true, true, true, true, true, true, true, true, true, true, true, true, true, true, true, true, true, true, true, true, true, true, false, false, false, false, false, false]
abbrev mk34_29 : Array Bool := #[true, true, true, true, true, true, true, true, true, true, true, true, true, true, true, true, true, true, true, true, true, true, true, true, true, true, true, true, true, false, false, false, false, false]
abbrev mk34_30 : Array Bool := #[true, true, true, true, true, true, true, true, true, true, true, true, true, true, true, true, true, true, true, true, true, true, true, true, true, true, true, true, true, true, false, false, false, false]
abbrev mk34_31 : Array Bool := #[true, true, true, true, true, true, true, true, true, true, true, true, true, true, true, true, true, true, true, true, true, true, true, true, true, true, true, true, true, true, true, false, false, false]
abbrev mk34_32 : Array Bool := #[true, true, true, true, true, true, true, true, true, true, true, true, true, true, true, true, true, true, true, true, true, true, true, true, true, true, true, true, true, true, true, true, false, false]
abbrev mk34_33 : Array Bool := #[true, true, true, true, true, true, true, true, true, true, true, true, true, true, true, true, true, true, true, true, true, true, true, true, true, true, true, true, true, true, true, true, true, false]
abbrev mk34_34 : Array Bool := #[true, true, true, true, true, true, true, true, true, true, true, true, true, true, true, true, true, true, true, true, true, true, true, true, true, true, true, true, true, true, true, true, true, true]
def serinettelaw18_MetaWrites.T7 : Bool × List (List Nat × List Nat) := (true, [([], []), ([], []), ([1], [1]), ([0, 2], [0, 2]), ([3], [3]), ([4], [4]), ([5, 4, 4], [4, 5]), ([6], [6]), ([7, 6], [6, 7]), ([8, 6], [6, 8]), ([9, 6, 6], [6, 9]), ([10], [10]), ([11, 10], [10, 11]), ([10], [10]), ([13, 10, 10], [10, 13]), ([12, 14, 14, 10], [10, 12, 14]), ([15, 10], [10, 15]), ([10, 16, 6], [6, 10, 16]), ([6, 17, 4], [4, 6, 17]), ([4, 18], [4, 18]), ([19, 15], [19]), ([20], [20]), ([21, 20], [20, 21]), ([22, 20, 20], [20, 22]), ([23], [23]), ([24, 23], [23, 24]), ([25, 23, 23], [23, 25]), ([26], [26]), ([27, 26], [26, 27]), ([28, 26], [26, 28]), ([29, 26], [26, 29]), ([26, 30, 23], [23, 26, 30]), ([23, 31, 20], [20, 23, 31]), ([20, 32], [20, 32])])
def serinettelaw18_MetaWrites.B7 : List Nat := [0, 0, 2, 7, 15, 31, 63, 127, 255, 511, 1023, 2047, 4095, 2047, 10239, 32767, 65535, 131071, 262143, 524287, 1048575, 2097151, 4194303, 8388607, 16777215, 33554431, 67108863, 134217727, 268435455, 536870911, 1073741823, 2147483647, 4294967295, 8589934591]
theorem serinettelaw18_MetaWrites.tab7 : rtab .any (opsOf Try.f5 7) = serinettelaw18_MetaWrites.T7 := by kernel_rfl
theorem serinettelaw18_MetaWrites.bits7 : waitsOk serinettelaw18_MetaWrites.T7.2 serinettelaw18_MetaWrites.B7 = true := by kernel_rfl
def serinettelaw18_MetaWrites.T11 : Bool × List (List Nat × List Nat) := (true, [([], []), ([], []), ([1], [1]), ([0, 2], [0, 2]), ([3], [3]), ([4], [4]), ([5, 4, 4], [4, 5]), ([6], [6]), ([7, 6], [6, 7]), ([8, 6], [6, 8]), ([9, 6, 6], [6, 9]), ([10], [10]), ([11, 10], [10, 11]), ([10], [10]), ([13, 13, 10], [10, 13]), ([12, 14, 10, 10], [10, 12, 14]), ([15, 10], [10, 15]), ([10, 16, 6], [6, 10, 16]), ([6, 17, 4], [4, 6, 17]), ([4, 18], [4, 18]), ([19, 15], [19]), ([20], [20]), ([21, 20], [20, 21]), ([22, 20, 20], [20, 22]), ([23], [23]), ([24, 23], [23, 24]), ([23, 25, 20], [20, 23, 25]), ([20, 26], [20, 26])])
def serinettelaw18_MetaWrites.B11 : List Nat := [0, 0, 2, 7, 15, 31, 63, 127, 255, 511, 1023, 2047, 4095, 2047, 10239, 32767, 65535, 131071, 262143, 524287, 1048575, 2097151, 4194303, 8388607, 16777215, 33554431, 67108863, 134217727]
theorem serinettelaw18_MetaWrites.tab11 : rtab .any (opsOf Try.f5 11) = serinettelaw18_MetaWrites.T11 := by kernel_rfl
theorem serinettelaw18_MetaWrites.bits11 : waitsOk serinettelaw18_MetaWrites.T11.2 serinettelaw18_MetaWrites.B11 = true := by kernel_rfl
def serinettelaw18_MetaWrites.T15 : Bool × List (List Nat × List Nat) := (true, [([], []), ([], []), ([1], [1]), ([0, 2], [0, 2]), ([3], [3]), ([4], [4]), ([5, 4, 4], [4, 5]), ([6], [6]), ([7, 6], [6, 7]), ([8, 6], [6, 8]), ([9, 6, 6], [6, 9]), ([10], [10]), ([11, 10], [10, 11]), ([10], [10]), ([13, 10, 10], [10, 13]), ([12, 14, 14, 10], [10, 12, 14]), ([15, 10], [10, 15]), ([10, 16, 6], [6, 10, 16]), ([6, 17, 4], [4, 6, 17]), ([4, 18], [4, 18]), ([19, 15], [19]), ([20], [20]), ([21, 20], [20, 21]), ([22, 20, 20], [20, 22]), ([23], [23]), ([24, 23], [23, 24]), ([23, 25, 20], [20, 23, 25]), ([20, 26], [20, 26])])
def serinettelaw18_MetaWrites.B15 : List Nat := [0, 0, 2, 7, 15, 31, 63, 127, 255, 511, 1023, 2047, 4095, 2047, 10239, 32767, 65535, 131071, 262143, 524287, 1048575, 2097151, 4194303, 8388607, 16777215, 33554431, 67108863, 134217727]
theorem serinettelaw18_MetaWrites.tab15 : rtab .any (opsOf Try.f5 15) = serinettelaw18_MetaWrites.T15 := by kernel_rfl
theorem serinettelaw18_MetaWrites.bits15 : waitsOk serinettelaw18_MetaWrites.T15.2 serinettelaw18_MetaWrites.B15 = true := by kernel_rfl
def serinettelaw18_MetaWrites.T19 : Bool × List (List Nat × List Nat) := (true, [([], []), ([], []), ([1], [1]), ([0, 2], [0, 2]), ([3], [3]), ([4], [4]), ([5, 4, 4], [4, 5]), ([6], [6]), ([7, 6], [6, 7]), ([8, 6], [6, 8]), ([9, 6, 6], [6, 9]), ([10], [10]), ([11, 10], [10, 11]), ([10], [10]), ([13, 10, 10], [10, 13]), ([12, 14, 14, 10], [10, 12, 14]), ([15, 10], [10, 15]), ([10, 16, 6], [6, 10, 16]), ([6, 17, 4], [4, 6, 17]), ([4, 18], [4, 18]), ([19, 15], [19]), ([20], [20]), ([21, 20], [20, 21]), ([22, 20, 20], [20, 22]), ([23], [23]), ([24, 23], [23, 24]), ([23, 25, 20], [20, 23, 25]), ([20, 26], [20, 26])])
def serinettelaw18_MetaWrites.B19 : List Nat := [0, 0, 2, 7, 15, 31, 63, 127, 255, 511, 1023, 2047, 4095, 2047, 10239, 32767, 65535, 131071, 262143, 524287, 1048575, 2097151, 4194303, 8388607, 16777215, 33554431, 67108863, 134217727]
theorem serinettelaw18_MetaWrites.tab19 : rtab .any (opsOf Try.f5 19) = serinettelaw18_MetaWrites.T19 := by kernel_rfl
theorem serinettelaw18_MetaWrites.bits19 : waitsOk serinettelaw18_MetaWrites.T19.2 serinettelaw18_MetaWrites.B19 = true := by kernel_rfl
theorem exec_load31 {o : Oper} {ev : Operand → Value} {W : World} (p : Tmp) (ho : o.op = .load 31 (.tmp p)) (g : Nat) (hx : ev (.tmp p) = .pointer (some ⟨g, 0, none⟩)) (i : Inf) (h : W.heap[g]? = some (.cells (icells i) 31 (0, 0))) : (execOp ev o).run Try.prog W = .ok (.value (.agg (icells i))) W := by
  unfold execOp
  simp only [ho, hx, Instr.loadAt, Instr.sureAddr, Sem.run_bind, Sem.run_pure, Result.andThen_ok, run_loadVar_row W g 31 31 (icells i) (0, 0) _ h Try.underlying31 rfl (by kernel_rfl)]
theorem load31 (W : World) (g : Nat) (i : Inf) (h : W.heap[g]? = some (.cells (icells i) 31 (0, 0))) : (loadCellsFrom ⟨g, 0, none⟩ 0 24 #[]).run Try.prog W = .ok (icells i) W := by
  have := run_loadCells_list (P := Try.prog) W ⟨g, 0, none⟩ (icells i).toList (fun j v hv => by
    have hadd : (⟨g, 0, none⟩ : Addr).add j = ⟨g, j, none⟩ := by unfold Addr.add; split <;> simp_all
    rw [hadd, cell_of_row _ _ j (icells i) 31 (0, 0) h]
    simpa using hv)
  simpa [loadCells] using this
theorem load31_below (W W' : World) (g : Nat) (i : Inf) (h : W.heap[g]? = some (.cells (icells i) 31 (0, 0))) (hb : Below W.heap.size W W') : (loadCellsFrom ⟨g, 0, none⟩ 0 24 #[]).run Try.prog W' = .ok (icells i) W' := load31 W' g i (blk_below h hb)
set_option maxHeartbeats 16000000 in
set_option maxRecDepth 100000 in
theorem writes_main (k : Nat) (a0_0 a0_1 a0_2 a0_3 a0_4 a0_5 a0_6 a0_7 a0_8 a0_9 a0_10 a0_11 a0_12 a0_13 a0_14 a0_15 a0_16 a0_17 a0_18 a0_19 a0_20 a0_21 a0_22 a0_23 a1 : Int) (A2 : Option Addr) (c2 : Nat) (l2 : List S122) (a3_0 : ByteArray) (A3_1 : Option Addr) (c3_1 : Nat) (l3_1 : List ByteArray) (a4_0 : Int) (A4_1 : Option Addr) (c4_1 : Nat) (l4_1 : List Int) (w : World) (hr2 : Kd.C k122 w A2 l2.length l2) (hc2 : l2.length ≤ c2) (hr3 : Kd.C Kd.string w A3_1 l3_1.length l3_1) (hc3 : l3_1.length ≤ c3_1) (hr4 : Kd.C (Kd.int .u8) w A4_1 l4_1.length l4_1) (hc4 : l4_1.length ≤ c4_1) (g1 : l2.length ≤ 20) (g2 : ¬ (a1 > 300 ∧ a1 ≤ 16777215)) (g3 : l4_1.length ≤ 200) (hs : serinettelaw18_shortly.f k a3_0 l3_1 = some true) (m1 : Int × List Int × Int) (b1 : Bool) (hI : meta_Info.f k a0_0 a0_1 a0_2 a0_3 a0_4 a0_5 a0_6 a0_7 a0_8 a0_9 a0_10 a0_11 a0_12 a0_13 a0_14 a0_15 a0_16 a0_17 a0_18 a0_19 a0_20 a0_21 a0_22 a0_23 = some m1) (hI2 : serinetteref18_InfoRight.f k a0_0 a0_1 a0_2 a0_3 a0_4 a0_5 a0_6 a0_7 a0_8 a0_9 a0_10 a0_11 a0_12 a0_13 a0_14 a0_15 a0_16 a0_17 a0_18 a0_19 a0_20 a0_21 a0_22 a0_23 = some b1) (s1 : Sec k 0 b1 m1 (serinetteref18_InfoBody.f k a0_0 a0_1 a0_2 a0_3 a0_4 a0_5 a0_6 a0_7 a0_8 a0_9 a0_10 a0_11 a0_12 a0_13 a0_14 a0_15 a0_16 a0_17 a0_18 a0_19 a0_20 a0_21 a0_22 a0_23)) (m2 : Int × List Int × Int) (hP : meta_Pad.f a1 = some m2) (s2 : Sec k 1 (decide (0 ≤ a1 ∧ a1 ≤ 16777215)) m2 (some (List.replicate a1.toNat 0))) (m3 : Int × List Int × Int) (b3 : Bool) (hK : meta_Seek.f k l2 = some m3) (hK2 : serinetteref18_SeekRight.f k l2 = some b3) (s3 : Sec k 3 b3 m3 (serinetteref18_SeekBody.f k l2)) (m4 : Int × List Int × Int) (b4 : Bool) (hC : meta_Comment.f a3_0 l3_1 = some m4) (hC2 : serinetteref18_CommentRight.f k a3_0 l3_1 = some b4) (s4 : Sec k 4 b4 m4 (serinetteref18_CommentBody.f a3_0 l3_1)) (m5 : Int × List Int × Int) (e5 : Int) (hO : meta_Other.f k a4_0 l4_1 = some m5) (hO2 : serinetteref18_Odd.f k a4_0 l4_1 = some e5) (s5 : m5.2.2 = e5 ∧ (e5 = 0 → m5.1 = a4_0 ∧ serinetteref01_Same.f k m5.2.1 l4_1 = some true)) : Calls Try.prog 5 #[.agg #[.int .i64 a0_0, .int .i64 a0_1, .int .i64 a0_2, .int .i64 a0_3, .int .i64 a0_4, .int .i64 a0_5, .int .i64 a0_6, .int .i64 a0_7, .int .u8 a0_8, .int .u8 a0_9, .int .u8 a0_10, .int .u8 a0_11, .int .u8 a0_12, .int .u8 a0_13, .int .u8 a0_14, .int .u8 a0_15, .int .u8 a0_16, .int .u8 a0_17, .int .u8 a0_18, .int .u8 a0_19, .int .u8 a0_20, .int .u8 a0_21, .int .u8 a0_22, .int .u8 a0_23], .int .i64 a1, .slice A2 l2.length c2, .agg #[.string a3_0, .slice A3_1 l3_1.length c3_1], .agg #[.int .i64 a4_0, .slice A4_1 l4_1.length c4_1]] w (BoolTo w true) := by
  obtain ⟨n1, r1, f1⟩ := m1
  obtain ⟨n2, r2, f2⟩ := m2
  obtain ⟨n3, r3, f3⟩ := m3
  obtain ⟨n4, r4, f4⟩ := m4
  obtain ⟨n5, r5, f5⟩ := m5
  have HP := Aside0.mk hP
  have T2 := Aside0.mk s2
  have HK1 := Aside0.mk hK
  have HK2 := Aside0.mk hK2
  have T3 := Aside0.mk s3
  have HQ1 := Aside0.mk hC
  have HQ2 := Aside0.mk hC2
  have T4 := Aside0.mk s4
  have HO1 := Aside0.mk hO
  have HO2 := Aside0.mk hO2
  have T5 := Aside0.mk s5
  clear hP s2 hK hK2 s3 hC hC2 s4 hO hO2 s5
  obtain ⟨i, hi⟩ : ∃ i : Inf, i = ⟨a0_0, a0_1, a0_2, a0_3, a0_4, a0_5, a0_6, a0_7, a0_8, a0_9, a0_10, a0_11, a0_12, a0_13, a0_14, a0_15, a0_16, a0_17, a0_18, a0_19, a0_20, a0_21, a0_22, a0_23⟩ := ⟨_, rfl⟩
  have e5 : (.agg #[.int .i64 a0_0, .int .i64 a0_1, .int .i64 a0_2, .int .i64 a0_3, .int .i64 a0_4, .int .i64 a0_5, .int .i64 a0_6, .int .i64 a0_7, .int .u8 a0_8, .int .u8 a0_9, .int .u8 a0_10, .int .u8 a0_11, .int .u8 a0_12, .int .u8 a0_13, .int .u8 a0_14, .int .u8 a0_15, .int .u8 a0_16, .int .u8 a0_17, .int .u8 a0_18, .int .u8 a0_19, .int .u8 a0_20, .int .u8 a0_21, .int .u8 a0_22, .int .u8 a0_23] : Value) = .agg (icells i) := by rw [hi]
  rw [e5]
  have CI : Aside0 (∀ W, Calls Try.prog 27 #[.agg (icells i)] W (MetaPost W n1 r1 f1)) := ⟨fun W => by rw [hi]; exact meta_Info.calls k a0_0 a0_1 a0_2 a0_3 a0_4 a0_5 a0_6 a0_7 a0_8 a0_9 a0_10 a0_11 a0_12 a0_13 a0_14 a0_15 a0_16 a0_17 a0_18 a0_19 a0_20 a0_21 a0_22 a0_23 n1 r1 f1 W hI⟩
  have CR : Aside0 (∀ W, Calls Try.prog 28 #[.agg (icells i)] W (BoolTo W b1)) := ⟨fun W => by rw [hi]; exact serinetteref18_InfoRight.calls k a0_0 a0_1 a0_2 a0_3 a0_4 a0_5 a0_6 a0_7 a0_8 a0_9 a0_10 a0_11 a0_12 a0_13 a0_14 a0_15 a0_16 a0_17 a0_18 a0_19 a0_20 a0_21 a0_22 a0_23 b1 W hI2⟩
  have HS := Aside0.mk hs
  have M1 := Aside0.mk hI
  have M2 := Aside0.mk hI2
  have S1 := Aside0.mk s1
  have HR2 := Aside0.mk hr2
  have HR3 := Aside0.mk hr3
  have HR4 := Aside0.mk hr4
  have HC2 := Aside0.mk hc2
  have HC3 := Aside0.mk hc3
  have HC4 := Aside0.mk hc4
  have HI := Aside0.mk hi
  have q1 : decide ((l2.length : Int) > 20) = false := decide_eq_false (by omega)
  have q2 : decide (20 < (l2.length : Int)) = false := q1
  have q2b : decide (20 < l2.length) = false := decide_eq_false (by omega)
  have q3 : decide ((l4_1.length : Int) > 200) = false := decide_eq_false (by omega)
  have q4 : decide (200 < (l4_1.length : Int)) = false := q3
  have q4b : decide (200 < l4_1.length) = false := decide_eq_false (by omega)
  have QP := Aside0.mk g2
  obtain ⟨W0, hW0⟩ : ∃ W0 : World, W0 = ((w.alloc (.cells (icells i) 31)).alloc (.cells #[.string a3_0, .slice A3_1 l3_1.length c3_1] 36)).alloc (.cells #[.int .i64 a4_0, .slice A4_1 l4_1.length c4_1] 24) := ⟨_, rfl⟩
  have B0 : Aside0 (Below w.heap.size w W0) := ⟨by rw [hW0]; exact below_alloc (below_alloc (below_alloc (Below.refl _ _) _) _) _⟩
  have Z1 : (w.alloc (.cells (icells i) 31)).heap.size = w.heap.size + 1 := Array.size_push ..
  have Z2 : ((w.alloc (.cells (icells i) 31)).alloc (.cells #[.string a3_0, .slice A3_1 l3_1.length c3_1] 36)).heap.size = w.heap.size + 1 + 1 := (Array.size_push ..).trans (by rw [Z1])
  have K1 : Aside0 (W0.heap[w.heap.size]? = some (.cells (icells i) 31 (0, 0))) := ⟨by rw [hW0]; exact blk_alloc (blk_alloc (blk_new w _) _) _⟩
  have K2 : Aside0 (W0.heap[w.heap.size + 1]? = some (.cells #[.string a3_0, .slice A3_1 l3_1.length c3_1] 36 (0, 0))) := ⟨by have := blk_alloc (blk_new (w.alloc (.cells (icells i) 31)) (.cells #[.string a3_0, .slice A3_1 l3_1.length c3_1] 36)) (.cells #[.int .i64 a4_0, .slice A4_1 l4_1.length c4_1] 24); rw [Z1] at this; rw [hW0]; exact this⟩
  have K3 : Aside0 (W0.heap[w.heap.size + 1 + 1]? = some (.cells #[.int .i64 a4_0, .slice A4_1 l4_1.length c4_1] 24 (0, 0))) := ⟨by have := blk_new ((w.alloc (.cells (icells i) 31)).alloc (.cells #[.string a3_0, .slice A3_1 l3_1.length c3_1] 36)) (.cells #[.int .i64 a4_0, .slice A4_1 l4_1.length c4_1] 24); rw [Z2] at this; rw [hW0]; exact this⟩
  have HW0 := Aside0.mk hW0
  clear hs hI hI2 s1 hr2 hr3 hr4 hc2 hc3 hc4 hi e5 g1 g2 g3 Z1 Z2 hW0
  go_enter Try.func5, Try.ntmps5
  go_upto_region 1 with fail
  rw [← HW0.out]
  go_upto_region 2 with (first | (go_at_call 16; (with_reducible refine (awake18_calls _).mono ?_); rintro e' w1 ⟨rfl, hb⟩; have HB1 := Aside0.mk hb; clear hb))
  have x0 : w1.cell? ⟨w.heap.size + 1, 0, none⟩ = some (.string a3_0) := (blk_cell (blk_below K2.out HB1.out) 0).trans rfl
  have x1 : w1.cell? ⟨w.heap.size + 1, 1, none⟩ = some (.slice A3_1 l3_1.length c3_1) := (blk_cell (blk_below K2.out HB1.out) 1).trans rfl
  go_upto_region 3 with (first | (go_at_call 26; (with_reducible refine (serinettelaw18_shortly.calls k a3_0 A3_1 c3_1 l3_1 true _ (Kd.C_below HR3.out (below_step B0.out HB1.out)) HC3.out HS.out).mono ?_); rintro e' w2 ⟨rfl, hb⟩; have HB2 := Aside0.mk (below_step HB1.out hb); clear hb x0 x1 HB1))
  have y1 : w2.cell? ⟨w.heap.size + 1 + 1, 1, none⟩ = some (.slice A4_1 l4_1.length c4_1) := (blk_cell (blk_below K3.out HB2.out) 1).trans rfl
  go_cut [48] (fun v48 wc => v48 = .bool false ∧ wc = w2)
  case first =>
    by_cases hp : a1 > 300
    · have p1 := decide_eq_true hp
      have p1b : decide (300 < a1) = true := p1
      have p2 : decide (a1 ≤ 16777215) = false := decide_eq_false (fun h => QP.out ⟨hp, h⟩)
      clear hp
      go_wp2_with fail
      go_meet
      case rel => exact ⟨rfl, rfl⟩
    · have p1 := decide_eq_false hp
      have p1b : decide (300 < a1) = false := p1
      clear hp
      go_wp2_with fail
      go_meet
      case rel => exact ⟨rfl, rfl⟩
  case rest =>
    as_aux_lemma =>
      obtain ⟨rfl, rfl⟩ := hcut
      clear y1 q1 q2 q2b q3 q4 q4b QP
      go_upto_region 5 with fail
      go_upto_region 6 with (first | ((with_reducible refine gate_dst (N := 51) rfl ?_); refine wpList_load_row rfl 31 (.tmp 5) rfl _ rfl 31 (icells i) (0, 0) _ (blk_below K1.out HB2.out) Try.underlying31 rfl (by kernel_rfl) ?_) | (go_at_call 27; (with_reducible refine (CI.out _).mono ?_); rintro e' w3 ⟨v3, rfl, hr, hb⟩; obtain ⟨A5, c5, hv⟩ := Kd.R_slice hr; subst hv; have R3 := Aside0.mk hr; have HB3 := Aside0.mk (below_step HB2.out hb); clear hr hb))
      have P4 := Aside0.mk (blk_new w3 (.cells #[.int .i64 n1, .slice A5 r1.length c5] 24))
      have C4 := Aside0.mk (Kd.C_alloc (Kd.R_reads' R3.out).2.2 (.cells #[.int .i64 n1, .slice A5 r1.length c5] 24))
      have L4 := Aside0.mk (Kd.R_reads' R3.out).2.1
      have HB4 := Aside0.mk (below_alloc HB3.out (.cells #[.int .i64 n1, .slice A5 r1.length c5] 24))
      generalize w3.alloc (.cells #[.int .i64 n1, .slice A5 r1.length c5] 24) = w4 at *
      go_upto_region 7 with (first | ((with_reducible refine gate_dst (N := 55) rfl ?_); refine wpList_load_row rfl 31 (.tmp 5) rfl _ rfl 31 (icells i) (0, 0) _ (blk_below K1.out HB4.out) Try.underlying31 rfl (by kernel_rfl) ?_) | (go_at_call 28; (with_reducible refine (CR.out _).mono ?_); rintro e' w5 ⟨rfl, hb⟩; have HB5 := Aside0.mk (below_step HB4.out hb); have P5 := Aside0.mk (blk_below P4.out hb); have C5 := Aside0.mk (Kd.C_below C4.out hb); clear hb))
      go_cut [90] (fun v90 wc => v90 = .bool false ∧ Aside0 (Below W0.heap.size W0 wc))
      case first =>
        have x0 : w5.cell? ⟨w3.heap.size, 0, none⟩ = some (.int .i64 n1) := (blk_cell P5.out 0).trans rfl
        have x1 : w5.cell? ⟨w3.heap.size, 1, none⟩ = some (.slice A5 r1.length c5) := (blk_cell P5.out 1).trans rfl
        cases b1
        · as_aux_lemma =>
            obtain ⟨rfl, rfl⟩ := S1.out.no rfl
            refine start_ (n := 34) (S := fun w' => Below w5.heap.size w5 w') (ds := []) mk34_0 (by kernel_rfl) rfl rfl (below_drew (Below.refl _ _)) (fun hHeld => ?_); refine with_tabW serinettelaw18_MetaWrites.tab7 serinettelaw18_MetaWrites.bits7 (fun HT_ HW_ => ?_)
            generalize w5.drew = wd at hHeld ⊢
            refine pure_ (i := 0) (N := some 57) (v := ?_) (a' := ?_) mk34_1 rfl rfl (any_of HT_.out (by kernel_rfl)) (fun _ _ _ h => h) (Or.inl ⟨by rfl, ?_⟩) ?_ ?_
            rotate_left; (· intro w'; go_simp; with_reducible rfl); rotate_left; (· simp only [Act.put, sA, sB, sC, i64_w, i32_w]; rfl)
            refine pure_ (i := 1) (N := some 58) (v := ?_) (a' := ?_) mk34_2 rfl rfl (any_of HT_.out (by kernel_rfl)) (fun _ _ _ h => h) (Or.inl ⟨by rfl, ?_⟩) ?_ ?_
            rotate_left; (· intro w'; go_simp; with_reducible rfl); rotate_left; (· simp only [Act.put, sA, sB, sC, i64_w, i32_w]; rfl)
            refine pure_ (i := 2) (N := some 59) (v := ?_) (a' := ?_) mk34_3 rfl rfl (any_of HT_.out (by kernel_rfl)) (fun _ _ _ h => h) (Or.inl ⟨by rfl, ?_⟩) ?_ ?_
            rotate_left; (· intro w'; go_simp; with_reducible rfl); rotate_left; (· simp only [Act.put, sA, sB, sC, i64_w, i32_w]; rfl)
            refine pure_ (i := 3) (N := some 60) (v := ?_) (a' := ?_) mk34_4 rfl rfl (any_of HT_.out (by kernel_rfl)) (fun _ _ _ h => h) (Or.inl ⟨by rfl, ?_⟩) ?_ ?_
            rotate_left; (· intro w'; go_simp; with_reducible rfl); rotate_left; (· simp only [Act.put, sA, sB, sC, i64_w, i32_w]; rfl)
            refine pure_ (i := 4) (N := some 61) (v := ?_) (a' := ?_) mk34_5 rfl rfl (any_of HT_.out (by kernel_rfl)) (fun _ _ _ h => h) (Or.inl ⟨by rfl, ?_⟩) ?_ ?_
            rotate_left; (· intro w'; go_simp; with_reducible rfl); rotate_left; (· simp only [Act.put, sA, sB, sC, i64_w, i32_w]; rfl)
            refine pure_ (i := 5) (N := some 62) (v := ?_) (a' := ?_) mk34_6 rfl rfl (any_of HT_.out (by kernel_rfl)) (fun _ _ _ h => h) (Or.inl ⟨by rfl, ?_⟩) ?_ ?_
            rotate_left; (· intro w'; go_simp; with_reducible rfl); rotate_left; (· simp only [Act.put, sA, sB, sC, i64_w, i32_w]; rfl)
            refine pure_ (i := 6) (N := some 63) (v := ?_) (a' := ?_) mk34_7 rfl rfl (any_of HT_.out (by kernel_rfl)) (fun _ _ _ h => h) (Or.inl ⟨by rfl, ?_⟩) ?_ ?_
            rotate_left; (· intro w'; go_simp; with_reducible rfl); rotate_left; (· simp only [Act.put, sA, sB, sC, i64_w, i32_w]; rfl)
            refine pure_ (i := 7) (N := some 64) (v := undef) (a' := ?_) mk34_8 rfl rfl (any_of HT_.out (by kernel_rfl)) (fun _ _ _ h => h) (Or.inr ⟨by rfl, rfl⟩) ?_ ?_
            rotate_left; (· simp only [Act.put, sA, sB, sC, i64_w, i32_w]; rfl)
            refine pure_ (i := 8) (N := some 65) (v := undef) (a' := ?_) mk34_9 rfl rfl (any_of HT_.out (by kernel_rfl)) (fun _ _ _ h => h) (Or.inr ⟨by rfl, rfl⟩) ?_ ?_
            rotate_left; (· simp only [Act.put, sA, sB, sC, i64_w, i32_w]; rfl)
            refine pure_ (i := 9) (N := some 66) (v := undef) (a' := ?_) mk34_10 rfl rfl (any_of HT_.out (by kernel_rfl)) (fun _ _ _ h => h) (Or.inr ⟨by rfl, rfl⟩) ?_ ?_
            rotate_left; (· simp only [Act.put, sA, sB, sC, i64_w, i32_w]; rfl)
            refine pure_ (i := 10) (N := some 67) (v := undef) (a' := ?_) mk34_11 rfl rfl (any_of HT_.out (by kernel_rfl)) (fun _ _ _ h => h) (Or.inr ⟨by rfl, rfl⟩) ?_ ?_
            rotate_left; (· simp only [Act.put, sA, sB, sC, i64_w, i32_w]; rfl)
            refine pure_ (i := 11) (N := some 68) (v := undef) (a' := ?_) mk34_12 rfl rfl (any_of HT_.out (by kernel_rfl)) (fun _ _ _ h => h) (Or.inr ⟨by rfl, rfl⟩) ?_ ?_
            rotate_left; (· simp only [Act.put, sA, sB, sC, i64_w, i32_w]; rfl)
            refine pure_ (i := 12) (N := some 69) (v := undef) (a' := ?_) mk34_13 rfl rfl (any_of HT_.out (by kernel_rfl)) (fun _ _ _ h => h) (Or.inr ⟨by rfl, rfl⟩) ?_ ?_
            rotate_left; (· simp only [Act.put, sA, sB, sC, i64_w, i32_w]; rfl)
            refine pure_ (i := 13) (N := some 70) (v := undef) (a' := ?_) mk34_14 rfl rfl (any_of HT_.out (by kernel_rfl)) (fun _ _ _ h => h) (Or.inr ⟨by rfl, rfl⟩) ?_ ?_
            rotate_left; (· simp only [Act.put, sA, sB, sC, i64_w, i32_w]; rfl)
            refine pure_ (i := 14) (N := some 71) (v := undef) (a' := ?_) mk34_15 rfl rfl (any_of HT_.out (by kernel_rfl)) (fun _ _ _ h => h) (Or.inr ⟨by rfl, rfl⟩) ?_ ?_
            rotate_left; (· simp only [Act.put, sA, sB, sC, i64_w, i32_w]; rfl)
            refine pure_ (i := 15) (N := some 72) (v := undef) (a' := ?_) mk34_16 rfl rfl (any_of HT_.out (by kernel_rfl)) (fun _ _ _ h => h) (Or.inr ⟨by rfl, rfl⟩) ?_ ?_
            rotate_left; (· simp only [Act.put, sA, sB, sC, i64_w, i32_w]; rfl)
            refine pure_ (i := 16) (N := some 73) (v := undef) (a' := ?_) mk34_17 rfl rfl (any_of HT_.out (by kernel_rfl)) (fun _ _ _ h => h) (Or.inr ⟨by rfl, rfl⟩) ?_ ?_
            rotate_left; (· simp only [Act.put, sA, sB, sC, i64_w, i32_w]; rfl)
            refine pure_ (i := 17) (N := some 74) (v := undef) (a' := ?_) mk34_18 rfl rfl (any_of HT_.out (by kernel_rfl)) (fun _ _ _ h => h) (Or.inr ⟨by rfl, rfl⟩) ?_ ?_
            rotate_left; (· simp only [Act.put, sA, sB, sC, i64_w, i32_w]; rfl)
            refine pure_ (i := 18) (N := some 75) (v := ?_) (a' := ?_) mk34_19 rfl rfl (any_of HT_.out (by kernel_rfl)) (fun _ _ _ h => h) (Or.inl ⟨by rfl, ?_⟩) ?_ ?_
            rotate_left; (· intro w'; go_simp; with_reducible rfl); rotate_left; (· simp only [Act.put, sA, sB, sC, i64_w, i32_w]; rfl)
            refine pure_ (i := 19) (N := some 76) (v := ?_) (a' := ?_) mk34_20 rfl rfl (any_of HT_.out (by kernel_rfl)) (fun _ _ _ h => h) (Or.inl ⟨by rfl, ?_⟩) ?_ ?_
            rotate_left; (· intro w'; go_simp; with_reducible rfl); rotate_left; (· simp only [Act.put, sA, sB, sC, i64_w, i32_w]; rfl)
            refine pure_ (i := 20) (N := some 77) (v := ?_) (a' := ?_) mk34_21 rfl rfl (any_of HT_.out (by kernel_rfl)) (fun _ _ _ h => h) (Or.inl ⟨by rfl, ?_⟩) ?_ ?_
            rotate_left; (· intro w'; go_simp; with_reducible rfl); rotate_left; (· simp only [Act.put, sA, sB, sC, i64_w, i32_w]; rfl)
            refine pure_ (i := 21) (N := some 78) (v := ?_) (a' := ?_) mk34_22 rfl rfl (any_of HT_.out (by kernel_rfl)) (fun _ _ _ h => h) (Or.inl ⟨by rfl, ?_⟩) ?_ ?_
            rotate_left; (· intro w'; go_simp; with_reducible rfl); rotate_left; (· simp only [Act.put, sA, sB, sC, i64_w, i32_w]; rfl)
            refine pure_ (i := 22) (N := some 79) (v := ?_) (a' := ?_) mk34_23 rfl rfl (any_of HT_.out (by kernel_rfl)) (fun _ _ _ h => h) (Or.inl ⟨by rfl, ?_⟩) ?_ ?_
            rotate_left; (· intro w'; go_simp; with_reducible rfl); rotate_left; (· simp only [Act.put, sA, sB, sC, i64_w, i32_w]; rfl)
            refine pure_ (i := 23) (N := some 80) (v := ?_) (a' := ?_) mk34_24 rfl rfl (any_of HT_.out (by kernel_rfl)) (fun _ _ _ h => h) (Or.inl ⟨by rfl, ?_⟩) ?_ ?_
            rotate_left; (· intro w'; go_simp; with_reducible rfl); rotate_left; (· simp only [Act.put, sA, sB, sC, i64_w, i32_w]; rfl)
            refine pure_ (i := 24) (N := some 81) (v := ?_) (a' := ?_) mk34_25 rfl rfl (any_of HT_.out (by kernel_rfl)) (fun _ _ _ h => h) (Or.inl ⟨by rfl, ?_⟩) ?_ ?_
            rotate_left; (· intro w'; go_simp; with_reducible rfl); rotate_left; (· simp only [Act.put, sA, sB, sC, i64_w, i32_w]; rfl)
            refine pure_ (i := 25) (N := some 82) (v := ?_) (a' := ?_) mk34_26 rfl rfl (any_of HT_.out (by kernel_rfl)) (fun _ _ _ h => h) (Or.inl ⟨by rfl, ?_⟩) ?_ ?_
            rotate_left; (· intro w'; go_simp; with_reducible rfl); rotate_left; (· simp only [Act.put, sA, sB, sC, i64_w, i32_w]; rfl)
            refine pure_ (i := 26) (N := some 83) (v := ?_) (a' := ?_) mk34_27 rfl rfl (any_of HT_.out (by kernel_rfl)) (fun _ _ _ h => h) (Or.inl ⟨by rfl, ?_⟩) ?_ ?_
            rotate_left; (· intro w'; go_simp; with_reducible rfl); rotate_left; (· simp only [Act.put, sA, sB, sC, i64_w, i32_w]; rfl)
            refine pure_ (i := 27) (N := some 84) (v := ?_) (a' := ?_) mk34_28 rfl rfl (any_of HT_.out (by kernel_rfl)) (fun _ _ _ h => h) (Or.inl ⟨by rfl, ?_⟩) ?_ ?_
            rotate_left; (· intro w'; go_simp; with_reducible rfl); rotate_left; (· simp only [Act.put, sA, sB, sC, i64_w, i32_w]; rfl)
            refine take_ (i := 28) (N := some 85) (v := ?_) (a' := ?_) mk34_29 rfl rfl (take_ofW HT_.out HW_.out (by kernel_rfl)) (fun _ _ _ h => h) (Or.inl ⟨by rfl, ?_⟩) hHeld ?_ ?_
            rotate_left
            · intro w' hb'
              have hb' : Below w5.heap.size w5 w' := hb'
              have z0 := cell_below hb' x1
              go_simp
              with_reducible rfl
            rotate_left
            · simp only [Act.put, sA, sB, sC, i64_w, i32_w]
              rfl
            refine pure_ (i := 29) (N := some 86) (v := ?_) (a' := ?_) mk34_30 rfl rfl (any_of HT_.out (by kernel_rfl)) (fun _ _ _ h => h) (Or.inl ⟨by rfl, ?_⟩) ?_ ?_
            rotate_left; (· intro w'; go_simp; with_reducible rfl); rotate_left; (· simp only [Act.put, sA, sB, sC, i64_w, i32_w]; rfl)
            refine pure_ (i := 30) (N := some 87) (v := ?_) (a' := ?_) mk34_31 rfl rfl (any_of HT_.out (by kernel_rfl)) (fun _ _ _ h => h) (Or.inl ⟨by rfl, ?_⟩) ?_ ?_
            rotate_left; (· intro w'; go_simp; with_reducible rfl); rotate_left; (· simp only [Act.put, sA, sB, sC, i64_w, i32_w]; rfl)
            refine pure_ (i := 31) (N := some 88) (v := ?_) (a' := ?_) mk34_32 rfl rfl (any_of HT_.out (by kernel_rfl)) (fun _ _ _ h => h) (Or.inl ⟨by rfl, ?_⟩) ?_ ?_
            rotate_left; (· intro w'; go_simp; with_reducible rfl); rotate_left; (· simp only [Act.put, sA, sB, sC, i64_w, i32_w]; rfl)
            refine pure_ (i := 32) (N := some 89) (v := ?_) (a' := ?_) mk34_33 rfl rfl (any_of HT_.out (by kernel_rfl)) (fun _ _ _ h => h) (Or.inl ⟨by rfl, ?_⟩) ?_ ?_
            rotate_left; (· intro w'; go_simp; with_reducible rfl); rotate_left; (· simp only [Act.put, sA, sB, sC, i64_w, i32_w]; rfl)
            refine pure_ (i := 33) (N := some 90) (v := ?_) (a' := ?_) mk34_34 rfl rfl (any_of HT_.out (by kernel_rfl)) (fun _ _ _ h => h) (Or.inl ⟨by rfl, ?_⟩) ?_ ?_
            rotate_left; (· intro w'; go_simp; with_reducible rfl); rotate_left; (· simp only [Act.put, sA, sB, sC, i64_w, i32_w]; rfl)
            refine done_ (done_of HT_.out (by kernel_rfl)) ?_
            try go_wp2
            have HE := Aside0.mk (below_step HB5.out hHeld)
            go_meet
            case rel => exact ⟨rfl, HE⟩
        · as_aux_lemma =>
            obtain ⟨rfl, rfl, B, hB1, hB2⟩ := S1.out.yes rfl
            have CB : Aside0 (∀ W, Calls Try.prog 29 #[.agg (icells i)] W (RowTo W B)) := ⟨fun W => by rw [HI.out]; exact serinetteref18_InfoBody.calls k a0_0 a0_1 a0_2 a0_3 a0_4 a0_5 a0_6 a0_7 a0_8 a0_9 a0_10 a0_11 a0_12 a0_13 a0_14 a0_15 a0_16 a0_17 a0_18 a0_19 a0_20 a0_21 a0_22 a0_23 B W hB1⟩
            have HSM := Aside0.mk hB2
            clear hB1 hB2
            refine start_ (n := 34) (S := fun w' => Below w5.heap.size w5 w') (ds := []) mk34_0 (by kernel_rfl) rfl rfl (below_drew (Below.refl _ _)) (fun hHeld => ?_); refine with_tabW serinettelaw18_MetaWrites.tab7 serinettelaw18_MetaWrites.bits7 (fun HT_ HW_ => ?_)
            generalize w5.drew = wd at hHeld ⊢
            refine pure_ (i := 0) (N := some 57) (v := ?_) (a' := ?_) mk34_1 rfl rfl (any_of HT_.out (by kernel_rfl)) (fun _ _ _ h => h) (Or.inl ⟨by rfl, ?_⟩) ?_ ?_
            rotate_left; (· intro w'; go_simp; with_reducible rfl); rotate_left; (· simp only [Act.put, sA, sB, sC, i64_w, i32_w]; rfl)
            refine pure_ (i := 1) (N := some 58) (v := ?_) (a' := ?_) mk34_2 rfl rfl (any_of HT_.out (by kernel_rfl)) (fun _ _ _ h => h) (Or.inl ⟨by rfl, ?_⟩) ?_ ?_
            rotate_left; (· intro w'; go_simp; with_reducible rfl); rotate_left; (· simp only [Act.put, sA, sB, sC, i64_w, i32_w]; rfl)
            refine pure_ (i := 2) (N := some 59) (v := ?_) (a' := ?_) mk34_3 rfl rfl (any_of HT_.out (by kernel_rfl)) (fun _ _ _ h => h) (Or.inl ⟨by rfl, ?_⟩) ?_ ?_
            rotate_left; (· intro w'; go_simp; with_reducible rfl); rotate_left; (· simp only [Act.put, sA, sB, sC, i64_w, i32_w]; rfl)
            refine pure_ (i := 3) (N := some 60) (v := ?_) (a' := ?_) mk34_4 rfl rfl (any_of HT_.out (by kernel_rfl)) (fun _ _ _ h => h) (Or.inl ⟨by rfl, ?_⟩) ?_ ?_
            rotate_left; (· intro w'; go_simp; with_reducible rfl); rotate_left; (· simp only [Act.put, sA, sB, sC, i64_w, i32_w]; rfl)
            refine pure_ (i := 4) (N := some 61) (v := ?_) (a' := ?_) mk34_5 rfl rfl (any_of HT_.out (by kernel_rfl)) (fun _ _ _ h => h) (Or.inl ⟨by rfl, ?_⟩) ?_ ?_
            rotate_left; (· intro w'; go_simp; with_reducible rfl); rotate_left; (· simp only [Act.put, sA, sB, sC, i64_w, i32_w]; rfl)
            refine pure_ (i := 5) (N := some 62) (v := ?_) (a' := ?_) mk34_6 rfl rfl (any_of HT_.out (by kernel_rfl)) (fun _ _ _ h => h) (Or.inl ⟨by rfl, ?_⟩) ?_ ?_
            rotate_left; (· intro w'; go_simp; with_reducible rfl); rotate_left; (· simp only [Act.put, sA, sB, sC, i64_w, i32_w]; rfl)
            refine pure_ (i := 6) (N := some 63) (v := ?_) (a' := ?_) mk34_7 rfl rfl (any_of HT_.out (by kernel_rfl)) (fun _ _ _ h => h) (Or.inl ⟨by rfl, ?_⟩) ?_ ?_
            rotate_left; (· intro w'; go_simp; with_reducible rfl); rotate_left; (· simp only [Act.put, sA, sB, sC, i64_w, i32_w]; rfl)
            refine pure_ (i := 7) (N := some 64) (v := ?_) (a' := ?_) mk34_8 rfl rfl (any_of HT_.out (by kernel_rfl)) (fun _ _ _ h => h) (Or.inl ⟨by rfl, ?_⟩) ?_ ?_
            rotate_left; (· intro w'; go_simp; with_reducible rfl); rotate_left; (· simp only [Act.put, sA, sB, sC, i64_w, i32_w]; rfl)
            refine take_ (i := 8) (N := some 65) (v := ?_) (a' := ?_) mk34_9 rfl rfl (take_ofW HT_.out HW_.out (by kernel_rfl)) (fun _ _ _ h => h) (Or.inl ⟨by rfl, ?_⟩) hHeld ?_ ?_
            rotate_left
            · intro w' hb'
              have hb' : Below w5.heap.size w5 w' := hb'
              have z0 := cell_below hb' x0
              go_simp
              with_reducible rfl
            rotate_left
            · simp only [Act.put, sA, sB, sC, i64_w, i32_w]
              rfl
            refine pure_ (i := 9) (N := some 66) (v := ?_) (a' := ?_) mk34_10 rfl rfl (any_of HT_.out (by kernel_rfl)) (fun _ _ _ h => h) (Or.inl ⟨by rfl, ?_⟩) ?_ ?_
            rotate_left; (· intro w'; go_simp; with_reducible rfl); rotate_left; (· simp only [Act.put, sA, sB, sC, i64_w, i32_w]; rfl)
            refine pure_ (i := 10) (N := some 67) (v := ?_) (a' := ?_) mk34_11 rfl rfl (any_of HT_.out (by kernel_rfl)) (fun _ _ _ h => h) (Or.inl ⟨by rfl, ?_⟩) ?_ ?_
            rotate_left; (· intro w'; go_simp; with_reducible rfl); rotate_left; (· simp only [Act.put, sA, sB, sC, i64_w, i32_w]; rfl)
            refine pure_ (i := 11) (N := some 68) (v := ?_) (a' := ?_) mk34_12 rfl rfl (any_of HT_.out (by kernel_rfl)) (fun _ _ _ h => h) (Or.inl ⟨by rfl, ?_⟩) ?_ ?_
            rotate_left; (· intro w'; go_simp; with_reducible rfl); rotate_left; (· simp only [Act.put, sA, sB, sC, i64_w, i32_w]; rfl)
            refine take_ (i := 12) (N := some 69) (v := ?_) (a' := ?_) mk34_13 rfl rfl (take_ofW HT_.out HW_.out (by kernel_rfl)) (fun _ _ _ h => h) (Or.inl ⟨by rfl, ?_⟩) hHeld ?_ ?_
            rotate_left
            · intro w' hb'
              have hb' : Below w5.heap.size w5 w' := hb'
              have z0 := cell_below hb' x1
              go_simp
              with_reducible rfl
            rotate_left
            · simp only [Act.put, sA, sB, sC, i64_w, i32_w]
              rfl
            refine take_ (i := 13) (N := some 70) (v := ?_) (a' := ?_) mk34_14 rfl rfl (take_ofW HT_.out HW_.out (by kernel_rfl)) (fun _ _ _ h => h) (Or.inl ⟨by rfl, ?_⟩) hHeld ?_ ?_
            rotate_left
            · intro w' hb'
              refine exec_load31 5 ?_ w.heap.size ?_ i (blk_below (blk_below K1.out HB5.out) hb')
              · rfl
              · rfl
            rotate_left
            · simp only [Act.put, sA, sB, sC, i64_w, i32_w]
              rfl
            refine one_ (i := 14) (N := some 71) mk34_15 rfl rfl (one_of HT_.out (by kernel_rfl)) (by decide) (fun K hK => ?_)
            refine goes_ Try.func29 (by kernel_rfl) rfl #[.agg (icells i)] (by rfl) rfl rfl (by (try simp only [List.map_toArray, List.map_cons, List.map_nil]); first | done | rfl) ?_
            with_reducible refine (CB.out _).mono ?_
            rintro e' w6 ⟨v6, rfl, hr6, hb6⟩
            refine ⟨_, rfl, ?_⟩
            obtain ⟨A6, c6, hv6⟩ := Kd.R_slice hr6
            subst hv6
            have HB6 := Aside0.mk (below_join hb6 hHeld)
            have R6 := Aside0.mk hr6
            clear hr6 hb6
            refine hK.out _ _ HB6.out (fun hHeld => ?_)
            clear hK K
            refine norm_ (a' := ?_) ?_ ?_
            rotate_left
            · show Act.put _ (some 71) _ = _
              simp only [Act.put, sA, sB, sC, i64_w, i32_w]
              rfl
            refine one_ (i := 15) (N := some 72) mk34_16 rfl rfl (one_of HT_.out (by kernel_rfl)) (by decide) (fun K hK => ?_)
            refine goes_ Try.func21 (by kernel_rfl) rfl #[.slice A5 r1.length c5, .slice A6 B.length c6] (by rfl) rfl rfl (by (try simp only [List.map_toArray, List.map_cons, List.map_nil]); first | done | rfl) ?_
            with_reducible refine (serinetteref01_Same.calls k A5 c5 r1 A6 c6 B true _ (Kd.C_below C5.out HB6.out) L4.out (Kd.R_reads' R6.out).2.2 (Kd.R_reads' R6.out).2.1 HSM.out).mono ?_
            rintro e' w7 ⟨rfl, ⟨m7, rfl⟩⟩
            refine ⟨_, rfl, ?_⟩
            refine hK.out _ _ (below_join (pw_below_drewN (Below.refl _ _) m7) HB6.out) (fun hHeld => ?_)
            clear hK K
            refine norm_ (a' := ?_) ?_ ?_
            rotate_left
            · show Act.put _ (some 72) _ = _
              simp only [Act.put, sA, sB, sC, i64_w, i32_w]
              rfl
            refine pure_ (i := 16) (N := some 73) (v := ?_) (a' := ?_) mk34_17 rfl rfl (any_of HT_.out (by kernel_rfl)) (fun _ _ _ h => h) (Or.inl ⟨by rfl, ?_⟩) ?_ ?_
            rotate_left; (· intro w'; go_simp; with_reducible rfl); rotate_left; (· simp only [Act.put, sA, sB, sC, i64_w, i32_w]; rfl)
            refine pure_ (i := 17) (N := some 74) (v := ?_) (a' := ?_) mk34_18 rfl rfl (any_of HT_.out (by kernel_rfl)) (fun _ _ _ h => h) (Or.inl ⟨by rfl, ?_⟩) ?_ ?_
            rotate_left; (· intro w'; go_simp; with_reducible rfl); rotate_left; (· simp only [Act.put, sA, sB, sC, i64_w, i32_w]; rfl)
            refine pure_ (i := 18) (N := some 75) (v := ?_) (a' := ?_) mk34_19 rfl rfl (any_of HT_.out (by kernel_rfl)) (fun _ _ _ h => h) (Or.inl ⟨by rfl, ?_⟩) ?_ ?_
            rotate_left; (· intro w'; go_simp; with_reducible rfl); rotate_left; (· simp only [Act.put, sA, sB, sC, i64_w, i32_w]; rfl)
            refine pure_ (i := 19) (N := some 76) (v := ?_) (a' := ?_) mk34_20 rfl rfl (any_of HT_.out (by kernel_rfl)) (fun _ _ _ h => h) (Or.inl ⟨by rfl, ?_⟩) ?_ ?_
            rotate_left; (· intro w'; go_simp; with_reducible rfl); rotate_left; (· simp only [Act.put, sA, sB, sC, i64_w, i32_w]; rfl)
            refine pure_ (i := 20) (N := some 77) (v := ?_) (a' := ?_) mk34_21 rfl rfl (any_of HT_.out (by kernel_rfl)) (fun _ _ _ h => h) (Or.inl ⟨by rfl, ?_⟩) ?_ ?_
            rotate_left; (· intro w'; go_simp; with_reducible rfl); rotate_left; (· simp only [Act.put, sA, sB, sC, i64_w, i32_w]; rfl)
            refine pure_ (i := 21) (N := some 78) (v := ?_) (a' := ?_) mk34_22 rfl rfl (any_of HT_.out (by kernel_rfl)) (fun _ _ _ h => h) (Or.inl ⟨by rfl, ?_⟩) ?_ ?_
            rotate_left; (· intro w'; go_simp; with_reducible rfl); rotate_left; (· simp only [Act.put, sA, sB, sC, i64_w, i32_w]; rfl)
            refine pure_ (i := 22) (N := some 79) (v := ?_) (a' := ?_) mk34_23 rfl rfl (any_of HT_.out (by kernel_rfl)) (fun _ _ _ h => h) (Or.inl ⟨by rfl, ?_⟩) ?_ ?_
            rotate_left; (· intro w'; go_simp; with_reducible rfl); rotate_left; (· simp only [Act.put, sA, sB, sC, i64_w, i32_w]; rfl)
            refine pure_ (i := 23) (N := some 80) (v := ?_) (a' := ?_) mk34_24 rfl rfl (any_of HT_.out (by kernel_rfl)) (fun _ _ _ h => h) (Or.inl ⟨by rfl, ?_⟩) ?_ ?_
            rotate_left; (· intro w'; go_simp; with_reducible rfl); rotate_left; (· simp only [Act.put, sA, sB, sC, i64_w, i32_w]; rfl)
            refine pure_ (i := 24) (N := some 81) (v := undef) (a' := ?_) mk34_25 rfl rfl (any_of HT_.out (by kernel_rfl)) (fun _ _ _ h => h) (Or.inr ⟨by rfl, rfl⟩) ?_ ?_
            rotate_left; (· simp only [Act.put, sA, sB, sC, i64_w, i32_w]; rfl)
            refine pure_ (i := 25) (N := some 82) (v := undef) (a' := ?_) mk34_26 rfl rfl (any_of HT_.out (by kernel_rfl)) (fun _ _ _ h => h) (Or.inr ⟨by rfl, rfl⟩) ?_ ?_
            rotate_left; (· simp only [Act.put, sA, sB, sC, i64_w, i32_w]; rfl)
            refine pure_ (i := 26) (N := some 83) (v := undef) (a' := ?_) mk34_27 rfl rfl (any_of HT_.out (by kernel_rfl)) (fun _ _ _ h => h) (Or.inr ⟨by rfl, rfl⟩) ?_ ?_
            rotate_left; (· simp only [Act.put, sA, sB, sC, i64_w, i32_w]; rfl)
            refine pure_ (i := 27) (N := some 84) (v := undef) (a' := ?_) mk34_28 rfl rfl (any_of HT_.out (by kernel_rfl)) (fun _ _ _ h => h) (Or.inr ⟨by rfl, rfl⟩) ?_ ?_
            rotate_left; (· simp only [Act.put, sA, sB, sC, i64_w, i32_w]; rfl)
            refine pure_ (i := 28) (N := some 85) (v := undef) (a' := ?_) mk34_29 rfl rfl (any_of HT_.out (by kernel_rfl)) (fun _ _ _ h => h) (Or.inr ⟨by rfl, rfl⟩) ?_ ?_
            rotate_left; (· simp only [Act.put, sA, sB, sC, i64_w, i32_w]; rfl)
            refine pure_ (i := 29) (N := some 86) (v := undef) (a' := ?_) mk34_30 rfl rfl (any_of HT_.out (by kernel_rfl)) (fun _ _ _ h => h) (Or.inr ⟨by rfl, rfl⟩) ?_ ?_
            rotate_left; (· simp only [Act.put, sA, sB, sC, i64_w, i32_w]; rfl)
            refine pure_ (i := 30) (N := some 87) (v := undef) (a' := ?_) mk34_31 rfl rfl (any_of HT_.out (by kernel_rfl)) (fun _ _ _ h => h) (Or.inr ⟨by rfl, rfl⟩) ?_ ?_
            rotate_left; (· simp only [Act.put, sA, sB, sC, i64_w, i32_w]; rfl)
            refine pure_ (i := 31) (N := some 88) (v := undef) (a' := ?_) mk34_32 rfl rfl (any_of HT_.out (by kernel_rfl)) (fun _ _ _ h => h) (Or.inr ⟨by rfl, rfl⟩) ?_ ?_
            rotate_left; (· simp only [Act.put, sA, sB, sC, i64_w, i32_w]; rfl)
            refine pure_ (i := 32) (N := some 89) (v := ?_) (a' := ?_) mk34_33 rfl rfl (any_of HT_.out (by kernel_rfl)) (fun _ _ _ h => h) (Or.inl ⟨by rfl, ?_⟩) ?_ ?_
            rotate_left; (· intro w'; go_simp; with_reducible rfl); rotate_left; (· simp only [Act.put, sA, sB, sC, i64_w, i32_w]; rfl)
            refine pure_ (i := 33) (N := some 90) (v := ?_) (a' := ?_) mk34_34 rfl rfl (any_of HT_.out (by kernel_rfl)) (fun _ _ _ h => h) (Or.inl ⟨by rfl, ?_⟩) ?_ ?_
            rotate_left; (· intro w'; go_simp; with_reducible rfl); rotate_left; (· simp only [Act.put, sA, sB, sC, i64_w, i32_w]; rfl)
            refine done_ (done_of HT_.out (by kernel_rfl)) ?_
            try go_wp2
            have HE := Aside0.mk (below_step HB5.out hHeld)
            go_meet
            case rel => exact ⟨rfl, HE⟩
      case rest =>
        as_aux_lemma =>
          obtain ⟨rfl, HQ_1⟩ := hcut
          go_upto_region 9 with fail
          go_upto_region 10 with (first | (go_at_call 30; (with_reducible refine (meta_Pad.calls a1 n2 r2 f2 _ HP.out).mono ?_); rintro e' wa2 ⟨va, rfl, hr, hb⟩; obtain ⟨AA2, cc2, hv⟩ := Kd.R_slice hr; subst hv; have Ra2 := Aside0.mk hr; have HBa2 := Aside0.mk (below_step HQ_1.out hb); clear hr hb))
          have Pb2 := Aside0.mk (blk_new wa2 (.cells #[.int .i64 n2, .slice AA2 r2.length cc2] 24))
          have Cb2 := Aside0.mk (Kd.C_alloc (Kd.R_reads' Ra2.out).2.2 (.cells #[.int .i64 n2, .slice AA2 r2.length cc2] 24))
          have Lb2 := Aside0.mk (Kd.R_reads' Ra2.out).2.1
          have HBb2 := Aside0.mk (below_alloc HBa2.out (.cells #[.int .i64 n2, .slice AA2 r2.length cc2] 24))
          generalize wa2.alloc (.cells #[.int .i64 n2, .slice AA2 r2.length cc2] 24) = wb2 at *
          obtain ⟨b2, hb2⟩ : ∃ b : Bool, decide (0 ≤ a1 ∧ a1 ≤ 16777215) = b := ⟨_, rfl⟩
          have HBP := Aside0.mk hb2
          have T2b := T2
          rw [hb2] at T2b
          clear T2
          have T2 := T2b
          clear T2b hb2
          go_cut [15] (fun v wc => v = .bool b2 ∧ wc = wb2)
          case first =>
            by_cases hp : a1 ≥ 0
            · have p1 := decide_eq_true hp
              have p1b : decide (0 ≤ a1) = true := p1
              have p2 : decide (a1 ≤ 16777215) = b2 := by rw [← HBP.out]; exact decide_eq_decide.mpr ⟨fun h => ⟨hp, h⟩, fun h => h.2⟩
              clear hp
              go_wp2_with fail
              go_meet
              case rel => exact ⟨rfl, rfl⟩
            · have p1 := decide_eq_false hp
              have p1b : decide (0 ≤ a1) = false := p1
              have p2 : b2 = false := by rw [← HBP.out]; exact decide_eq_false (fun h => hp h.1)
              clear hp
              go_wp2_with fail
              go_meet
              case rel => exact ⟨by rw [p2], rfl⟩
          case rest =>
            as_aux_lemma =>
              obtain ⟨rfl, rfl⟩ := hcut
              have HBc2 := HBb2
              have Pc2 := Pb2
              have Cc2 := Cb2
              clear HBb2 Pb2 Cb2
              generalize hwc : wc = wc2 at *
              clear hwc
              go_upto_region 11 with fail
              go_cut [129] (fun v wc => v = .bool false ∧ Aside0 (Below W0.heap.size W0 wc))
              case first =>
                have x0 : wc2.cell? ⟨wa2.heap.size, 0, none⟩ = some (.int .i64 n2) := (blk_cell Pc2.out 0).trans rfl
                have x1 : wc2.cell? ⟨wa2.heap.size, 1, none⟩ = some (.slice AA2 r2.length cc2) := (blk_cell Pc2.out 1).trans rfl
                cases b2
                · as_aux_lemma =>
                    obtain ⟨rfl, rfl⟩ := T2.out.no rfl
                    refine start_ (n := 28) (S := fun w' => Below wc2.heap.size wc2 w') (ds := []) mk28_0 (by kernel_rfl) rfl rfl (below_drew (Below.refl _ _)) (fun hHeld => ?_); refine with_tabW serinettelaw18_MetaWrites.tab11 serinettelaw18_MetaWrites.bits11 (fun HT_ HW_ => ?_)
                    generalize wc2.drew = wd at hHeld ⊢
                    refine pure_ (i := 0) (N := some 102) (v := ?_) (a' := ?_) mk28_1 rfl rfl (any_of HT_.out (by kernel_rfl)) (fun _ _ _ h => h) (Or.inl ⟨by rfl, ?_⟩) ?_ ?_
                    rotate_left; (· intro w'; go_simp; with_reducible rfl); rotate_left; (· simp only [Act.put, sA, sB, sC, i64_w, i32_w]; rfl)
                    refine pure_ (i := 1) (N := some 103) (v := ?_) (a' := ?_) mk28_2 rfl rfl (any_of HT_.out (by kernel_rfl)) (fun _ _ _ h => h) (Or.inl ⟨by rfl, ?_⟩) ?_ ?_
                    rotate_left; (· intro w'; go_simp; with_reducible rfl); rotate_left; (· simp only [Act.put, sA, sB, sC, i64_w, i32_w]; rfl)
                    refine pure_ (i := 2) (N := some 104) (v := ?_) (a' := ?_) mk28_3 rfl rfl (any_of HT_.out (by kernel_rfl)) (fun _ _ _ h => h) (Or.inl ⟨by rfl, ?_⟩) ?_ ?_
                    rotate_left; (· intro w'; go_simp; with_reducible rfl); rotate_left; (· simp only [Act.put, sA, sB, sC, i64_w, i32_w]; rfl)
                    refine pure_ (i := 3) (N := some 105) (v := ?_) (a' := ?_) mk28_4 rfl rfl (any_of HT_.out (by kernel_rfl)) (fun _ _ _ h => h) (Or.inl ⟨by rfl, ?_⟩) ?_ ?_
                    rotate_left; (· intro w'; go_simp; with_reducible rfl); rotate_left; (· simp only [Act.put, sA, sB, sC, i64_w, i32_w]; rfl)
                    refine pure_ (i := 4) (N := some 106) (v := ?_) (a' := ?_) mk28_5 rfl rfl (any_of HT_.out (by kernel_rfl)) (fun _ _ _ h => h) (Or.inl ⟨by rfl, ?_⟩) ?_ ?_
                    rotate_left; (· intro w'; go_simp; with_reducible rfl); rotate_left; (· simp only [Act.put, sA, sB, sC, i64_w, i32_w]; rfl)
                    refine pure_ (i := 5) (N := some 107) (v := ?_) (a' := ?_) mk28_6 rfl rfl (any_of HT_.out (by kernel_rfl)) (fun _ _ _ h => h) (Or.inl ⟨by rfl, ?_⟩) ?_ ?_
                    rotate_left; (· intro w'; go_simp; with_reducible rfl); rotate_left; (· simp only [Act.put, sA, sB, sC, i64_w, i32_w]; rfl)
                    refine pure_ (i := 6) (N := some 108) (v := ?_) (a' := ?_) mk28_7 rfl rfl (any_of HT_.out (by kernel_rfl)) (fun _ _ _ h => h) (Or.inl ⟨by rfl, ?_⟩) ?_ ?_
                    rotate_left; (· intro w'; go_simp; with_reducible rfl); rotate_left; (· simp only [Act.put, sA, sB, sC, i64_w, i32_w]; rfl)
                    refine pure_ (i := 7) (N := some 109) (v := undef) (a' := ?_) mk28_8 rfl rfl (any_of HT_.out (by kernel_rfl)) (fun _ _ _ h => h) (Or.inr ⟨by rfl, rfl⟩) ?_ ?_
                    rotate_left; (· simp only [Act.put, sA, sB, sC, i64_w, i32_w]; rfl)
                    refine pure_ (i := 8) (N := some 110) (v := undef) (a' := ?_) mk28_9 rfl rfl (any_of HT_.out (by kernel_rfl)) (fun _ _ _ h => h) (Or.inr ⟨by rfl, rfl⟩) ?_ ?_
                    rotate_left; (· simp only [Act.put, sA, sB, sC, i64_w, i32_w]; rfl)
                    refine pure_ (i := 9) (N := some 111) (v := undef) (a' := ?_) mk28_10 rfl rfl (any_of HT_.out (by kernel_rfl)) (fun _ _ _ h => h) (Or.inr ⟨by rfl, rfl⟩) ?_ ?_
                    rotate_left; (· simp only [Act.put, sA, sB, sC, i64_w, i32_w]; rfl)
                    refine pure_ (i := 10) (N := some 112) (v := undef) (a' := ?_) mk28_11 rfl rfl (any_of HT_.out (by kernel_rfl)) (fun _ _ _ h => h) (Or.inr ⟨by rfl, rfl⟩) ?_ ?_
                    rotate_left; (· simp only [Act.put, sA, sB, sC, i64_w, i32_w]; rfl)
                    refine pure_ (i := 11) (N := some 113) (v := undef) (a' := ?_) mk28_12 rfl rfl (any_of HT_.out (by kernel_rfl)) (fun _ _ _ h => h) (Or.inr ⟨by rfl, rfl⟩) ?_ ?_
                    rotate_left; (· simp only [Act.put, sA, sB, sC, i64_w, i32_w]; rfl)
                    refine pure_ (i := 12) (N := some 114) (v := undef) (a' := ?_) mk28_13 rfl rfl (any_of HT_.out (by kernel_rfl)) (fun _ _ _ h => h) (Or.inr ⟨by rfl, rfl⟩) ?_ ?_
                    rotate_left; (· simp only [Act.put, sA, sB, sC, i64_w, i32_w]; rfl)
                    refine pure_ (i := 13) (N := some 115) (v := undef) (a' := ?_) mk28_14 rfl rfl (any_of HT_.out (by kernel_rfl)) (fun _ _ _ h => h) (Or.inr ⟨by rfl, rfl⟩) ?_ ?_
                    rotate_left; (· simp only [Act.put, sA, sB, sC, i64_w, i32_w]; rfl)
                    refine pure_ (i := 14) (N := some 116) (v := undef) (a' := ?_) mk28_15 rfl rfl (any_of HT_.out (by kernel_rfl)) (fun _ _ _ h => h) (Or.inr ⟨by rfl, rfl⟩) ?_ ?_
                    rotate_left; (· simp only [Act.put, sA, sB, sC, i64_w, i32_w]; rfl)
                    refine pure_ (i := 15) (N := some 117) (v := undef) (a' := ?_) mk28_16 rfl rfl (any_of HT_.out (by kernel_rfl)) (fun _ _ _ h => h) (Or.inr ⟨by rfl, rfl⟩) ?_ ?_
                    rotate_left; (· simp only [Act.put, sA, sB, sC, i64_w, i32_w]; rfl)
                    refine pure_ (i := 16) (N := some 118) (v := undef) (a' := ?_) mk28_17 rfl rfl (any_of HT_.out (by kernel_rfl)) (fun _ _ _ h => h) (Or.inr ⟨by rfl, rfl⟩) ?_ ?_
                    rotate_left; (· simp only [Act.put, sA, sB, sC, i64_w, i32_w]; rfl)
                    refine pure_ (i := 17) (N := some 119) (v := undef) (a' := ?_) mk28_18 rfl rfl (any_of HT_.out (by kernel_rfl)) (fun _ _ _ h => h) (Or.inr ⟨by rfl, rfl⟩) ?_ ?_
                    rotate_left; (· simp only [Act.put, sA, sB, sC, i64_w, i32_w]; rfl)
                    refine pure_ (i := 18) (N := some 120) (v := ?_) (a' := ?_) mk28_19 rfl rfl (any_of HT_.out (by kernel_rfl)) (fun _ _ _ h => h) (Or.inl ⟨by rfl, ?_⟩) ?_ ?_
                    rotate_left; (· intro w'; go_simp; with_reducible rfl); rotate_left; (· simp only [Act.put, sA, sB, sC, i64_w, i32_w]; rfl)
                    refine pure_ (i := 19) (N := some 121) (v := ?_) (a' := ?_) mk28_20 rfl rfl (any_of HT_.out (by kernel_rfl)) (fun _ _ _ h => h) (Or.inl ⟨by rfl, ?_⟩) ?_ ?_
                    rotate_left; (· intro w'; go_simp; with_reducible rfl); rotate_left; (· simp only [Act.put, sA, sB, sC, i64_w, i32_w]; rfl)
                    refine pure_ (i := 20) (N := some 122) (v := ?_) (a' := ?_) mk28_21 rfl rfl (any_of HT_.out (by kernel_rfl)) (fun _ _ _ h => h) (Or.inl ⟨by rfl, ?_⟩) ?_ ?_
                    rotate_left; (· intro w'; go_simp; with_reducible rfl); rotate_left; (· simp only [Act.put, sA, sB, sC, i64_w, i32_w]; rfl)
                    refine pure_ (i := 21) (N := some 123) (v := ?_) (a' := ?_) mk28_22 rfl rfl (any_of HT_.out (by kernel_rfl)) (fun _ _ _ h => h) (Or.inl ⟨by rfl, ?_⟩) ?_ ?_
                    rotate_left; (· intro w'; go_simp; with_reducible rfl); rotate_left; (· simp only [Act.put, sA, sB, sC, i64_w, i32_w]; rfl)
                    refine pure_ (i := 22) (N := some 124) (v := ?_) (a' := ?_) mk28_23 rfl rfl (any_of HT_.out (by kernel_rfl)) (fun _ _ _ h => h) (Or.inl ⟨by rfl, ?_⟩) ?_ ?_
                    rotate_left; (· intro w'; go_simp; with_reducible rfl); rotate_left; (· simp only [Act.put, sA, sB, sC, i64_w, i32_w]; rfl)
                    refine pure_ (i := 23) (N := some 125) (v := ?_) (a' := ?_) mk28_24 rfl rfl (any_of HT_.out (by kernel_rfl)) (fun _ _ _ h => h) (Or.inl ⟨by rfl, ?_⟩) ?_ ?_
                    rotate_left; (· intro w'; go_simp; with_reducible rfl); rotate_left; (· simp only [Act.put, sA, sB, sC, i64_w, i32_w]; rfl)
                    refine pure_ (i := 24) (N := some 126) (v := ?_) (a' := ?_) mk28_25 rfl rfl (any_of HT_.out (by kernel_rfl)) (fun _ _ _ h => h) (Or.inl ⟨by rfl, ?_⟩) ?_ ?_
                    rotate_left; (· intro w'; go_simp; with_reducible rfl); rotate_left; (· simp only [Act.put, sA, sB, sC, i64_w, i32_w]; rfl)
                    refine pure_ (i := 25) (N := some 127) (v := ?_) (a' := ?_) mk28_26 rfl rfl (any_of HT_.out (by kernel_rfl)) (fun _ _ _ h => h) (Or.inl ⟨by rfl, ?_⟩) ?_ ?_
                    rotate_left; (· intro w'; go_simp; with_reducible rfl); rotate_left; (· simp only [Act.put, sA, sB, sC, i64_w, i32_w]; rfl)
                    refine pure_ (i := 26) (N := some 128) (v := ?_) (a' := ?_) mk28_27 rfl rfl (any_of HT_.out (by kernel_rfl)) (fun _ _ _ h => h) (Or.inl ⟨by rfl, ?_⟩) ?_ ?_
                    rotate_left; (· intro w'; go_simp; with_reducible rfl); rotate_left; (· simp only [Act.put, sA, sB, sC, i64_w, i32_w]; rfl)
                    refine pure_ (i := 27) (N := some 129) (v := ?_) (a' := ?_) mk28_28 rfl rfl (any_of HT_.out (by kernel_rfl)) (fun _ _ _ h => h) (Or.inl ⟨by rfl, ?_⟩) ?_ ?_
                    rotate_left; (· intro w'; go_simp; with_reducible rfl); rotate_left; (· simp only [Act.put, sA, sB, sC, i64_w, i32_w]; rfl)
                    refine done_ (done_of HT_.out (by kernel_rfl)) ?_
                    try go_wp2
                    have HE := Aside0.mk (below_step HBc2.out hHeld)
                    go_meet
                    case rel => exact ⟨rfl, HE⟩
                · as_aux_lemma =>
                    obtain ⟨rfl, rfl, B, hB1, hB2⟩ := T2.out.yes rfl
                    have HSM := Aside0.mk hB2
                    have PR := Aside0.mk (of_decide_eq_true HBP.out)
                    have PB := Aside0.mk (Option.some.inj hB1)
                    clear hB1 hB2
                    refine start_ (n := 28) (S := fun w' => Below wc2.heap.size wc2 w') (ds := []) mk28_0 (by kernel_rfl) rfl rfl (below_drew (Below.refl _ _)) (fun hHeld => ?_); refine with_tabW serinettelaw18_MetaWrites.tab11 serinettelaw18_MetaWrites.bits11 (fun HT_ HW_ => ?_)
                    generalize wc2.drew = wd at hHeld ⊢
                    refine pure_ (i := 0) (N := some 102) (v := ?_) (a' := ?_) mk28_1 rfl rfl (any_of HT_.out (by kernel_rfl)) (fun _ _ _ h => h) (Or.inl ⟨by rfl, ?_⟩) ?_ ?_
                    rotate_left; (· intro w'; go_simp; with_reducible rfl); rotate_left; (· simp only [Act.put, sA, sB, sC, i64_w, i32_w]; rfl)
                    refine pure_ (i := 1) (N := some 103) (v := ?_) (a' := ?_) mk28_2 rfl rfl (any_of HT_.out (by kernel_rfl)) (fun _ _ _ h => h) (Or.inl ⟨by rfl, ?_⟩) ?_ ?_
                    rotate_left; (· intro w'; go_simp; with_reducible rfl); rotate_left; (· simp only [Act.put, sA, sB, sC, i64_w, i32_w]; rfl)
                    refine pure_ (i := 2) (N := some 104) (v := ?_) (a' := ?_) mk28_3 rfl rfl (any_of HT_.out (by kernel_rfl)) (fun _ _ _ h => h) (Or.inl ⟨by rfl, ?_⟩) ?_ ?_
                    rotate_left; (· intro w'; go_simp; with_reducible rfl); rotate_left; (· simp only [Act.put, sA, sB, sC, i64_w, i32_w]; rfl)
                    refine pure_ (i := 3) (N := some 105) (v := ?_) (a' := ?_) mk28_4 rfl rfl (any_of HT_.out (by kernel_rfl)) (fun _ _ _ h => h) (Or.inl ⟨by rfl, ?_⟩) ?_ ?_
                    rotate_left; (· intro w'; go_simp; with_reducible rfl); rotate_left; (· simp only [Act.put, sA, sB, sC, i64_w, i32_w]; rfl)
                    refine pure_ (i := 4) (N := some 106) (v := ?_) (a' := ?_) mk28_5 rfl rfl (any_of HT_.out (by kernel_rfl)) (fun _ _ _ h => h) (Or.inl ⟨by rfl, ?_⟩) ?_ ?_
                    rotate_left; (· intro w'; go_simp; with_reducible rfl); rotate_left; (· simp only [Act.put, sA, sB, sC, i64_w, i32_w]; rfl)
                    refine pure_ (i := 5) (N := some 107) (v := ?_) (a' := ?_) mk28_6 rfl rfl (any_of HT_.out (by kernel_rfl)) (fun _ _ _ h => h) (Or.inl ⟨by rfl, ?_⟩) ?_ ?_
                    rotate_left; (· intro w'; go_simp; with_reducible rfl); rotate_left; (· simp only [Act.put, sA, sB, sC, i64_w, i32_w]; rfl)
                    refine pure_ (i := 6) (N := some 108) (v := ?_) (a' := ?_) mk28_7 rfl rfl (any_of HT_.out (by kernel_rfl)) (fun _ _ _ h => h) (Or.inl ⟨by rfl, ?_⟩) ?_ ?_
                    rotate_left; (· intro w'; go_simp; with_reducible rfl); rotate_left; (· simp only [Act.put, sA, sB, sC, i64_w, i32_w]; rfl)
                    refine pure_ (i := 7) (N := some 109) (v := ?_) (a' := ?_) mk28_8 rfl rfl (any_of HT_.out (by kernel_rfl)) (fun _ _ _ h => h) (Or.inl ⟨by rfl, ?_⟩) ?_ ?_
                    rotate_left; (· intro w'; go_simp; with_reducible rfl); rotate_left; (· simp only [Act.put, sA, sB, sC, i64_w, i32_w]; rfl)
                    refine take_ (i := 8) (N := some 110) (v := ?_) (a' := ?_) mk28_9 rfl rfl (take_ofW HT_.out HW_.out (by kernel_rfl)) (fun _ _ _ h => h) (Or.inl ⟨by rfl, ?_⟩) hHeld ?_ ?_
                    rotate_left
                    · intro w' hb'
                      have hb' : Below wc2.heap.size wc2 w' := hb'
                      have z0 := cell_below hb' x0
                      go_simp
                      with_reducible rfl
                    rotate_left
                    · simp only [Act.put, sA, sB, sC, i64_w, i32_w]
                      rfl
                    refine pure_ (i := 9) (N := some 111) (v := ?_) (a' := ?_) mk28_10 rfl rfl (any_of HT_.out (by kernel_rfl)) (fun _ _ _ h => h) (Or.inl ⟨by rfl, ?_⟩) ?_ ?_
                    rotate_left; (· intro w'; go_simp; with_reducible rfl); rotate_left; (· simp only [Act.put, sA, sB, sC, i64_w, i32_w]; rfl)
                    refine pure_ (i := 10) (N := some 112) (v := ?_) (a' := ?_) mk28_11 rfl rfl (any_of HT_.out (by kernel_rfl)) (fun _ _ _ h => h) (Or.inl ⟨by rfl, ?_⟩) ?_ ?_
                    rotate_left; (· intro w'; go_simp; with_reducible rfl); rotate_left; (· simp only [Act.put, sA, sB, sC, i64_w, i32_w]; rfl)
                    refine pure_ (i := 11) (N := some 113) (v := ?_) (a' := ?_) mk28_12 rfl rfl (any_of HT_.out (by kernel_rfl)) (fun _ _ _ h => h) (Or.inl ⟨by rfl, ?_⟩) ?_ ?_
                    rotate_left; (· intro w'; go_simp; with_reducible rfl); rotate_left; (· simp only [Act.put, sA, sB, sC, i64_w, i32_w]; rfl)
                    refine take_ (i := 12) (N := some 114) (v := ?_) (a' := ?_) mk28_13 rfl rfl (take_ofW HT_.out HW_.out (by kernel_rfl)) (fun _ _ _ h => h) (Or.inl ⟨by rfl, ?_⟩) hHeld ?_ ?_
                    rotate_left
                    · intro w' hb'
                      have hb' : Below wc2.heap.size wc2 w' := hb'
                      have z0 := cell_below hb' x1
                      go_simp
                      with_reducible rfl
                    rotate_left
                    · simp only [Act.put, sA, sB, sC, i64_w, i32_w]
                      rfl
                    refine pure_ (i := 13) (N := some 115) (v := ?_) (a' := ?_) mk28_14 rfl rfl (any_of HT_.out (by kernel_rfl)) (fun _ _ _ h => h) (Or.inl ⟨by rfl, ?_⟩) ?_ ?_
                    rotate_left; (· intro w'; go_simp; with_reducible rfl); rotate_left; (· simp only [Act.put, sA, sB, sC, i64_w, i32_w]; rfl)
                    refine one_ (i := 14) (N := some 116) mk28_15 rfl rfl (one_of HT_.out (by kernel_rfl)) (by decide) (fun K hK => ?_)
                    refine Kd.R_make_step (Kd.int .u8) (w0 := wd) wd.heap.size 5 (by rfl) (N := 116) rfl 22 _ _ rfl a1 rfl rfl Try.underlying22 (.int .u8 0) 1 infoU rfl (by decide) (by decide) (0 : Int) (ok := fun _ => True) (okp := fun _ => True) rfl (fun _ hk => hk) trivial PR.out.1 (by have := PR.out; omega) (Below.refl _ _) (Nat.le_refl _) ?_
                    intro v6 w6 hr6 hb6 hg6 hat6
                    rw [PB.out] at hr6
                    obtain ⟨A6, c6, hv6⟩ := Kd.R_slice hr6
                    subst hv6
                    have HB6 := Aside0.mk (below_join hb6 hHeld)
                    have R6 := Aside0.mk hr6
                    clear hr6 hb6 hg6 hat6
                    refine hK.out _ _ HB6.out (fun hHeld => ?_)
                    clear hK K
                    refine norm_ (a' := ?_) ?_ ?_
                    rotate_left
                    · show Act.put _ (some 116) _ = _
                      simp only [Act.put, sA, sB, sC, i64_w, i32_w]
                      rfl
                    refine one_ (i := 15) (N := some 117) mk28_16 rfl rfl (one_of HT_.out (by kernel_rfl)) (by decide) (fun K hK => ?_)
                    refine goes_ Try.func21 (by kernel_rfl) rfl #[.slice AA2 r2.length cc2, .slice A6 B.length c6] (by rfl) rfl rfl (by (try simp only [List.map_toArray, List.map_cons, List.map_nil]); first | done | rfl) ?_
                    with_reducible refine (serinetteref01_Same.calls k AA2 cc2 r2 A6 c6 B true _ (Kd.C_below Cc2.out HB6.out) Lb2.out (Kd.R_reads' R6.out).2.2 (Kd.R_reads' R6.out).2.1 HSM.out).mono ?_
                    rintro e' w7 ⟨rfl, ⟨m7, rfl⟩⟩
                    refine ⟨_, rfl, ?_⟩
                    refine hK.out _ _ (below_join (pw_below_drewN (Below.refl _ _) m7) HB6.out) (fun hHeld => ?_)
                    clear hK K
                    refine norm_ (a' := ?_) ?_ ?_
                    rotate_left
                    · show Act.put _ (some 117) _ = _
                      simp only [Act.put, sA, sB, sC, i64_w, i32_w]
                      rfl
                    refine pure_ (i := 16) (N := some 118) (v := ?_) (a' := ?_) mk28_17 rfl rfl (any_of HT_.out (by kernel_rfl)) (fun _ _ _ h => h) (Or.inl ⟨by rfl, ?_⟩) ?_ ?_
                    rotate_left; (· intro w'; go_simp; with_reducible rfl); rotate_left; (· simp only [Act.put, sA, sB, sC, i64_w, i32_w]; rfl)
                    refine pure_ (i := 17) (N := some 119) (v := ?_) (a' := ?_) mk28_18 rfl rfl (any_of HT_.out (by kernel_rfl)) (fun _ _ _ h => h) (Or.inl ⟨by rfl, ?_⟩) ?_ ?_
                    rotate_left; (· intro w'; go_simp; with_reducible rfl); rotate_left; (· simp only [Act.put, sA, sB, sC, i64_w, i32_w]; rfl)
                    refine pure_ (i := 18) (N := some 120) (v := ?_) (a' := ?_) mk28_19 rfl rfl (any_of HT_.out (by kernel_rfl)) (fun _ _ _ h => h) (Or.inl ⟨by rfl, ?_⟩) ?_ ?_
                    rotate_left; (· intro w'; go_simp; with_reducible rfl); rotate_left; (· simp only [Act.put, sA, sB, sC, i64_w, i32_w]; rfl)
                    refine pure_ (i := 19) (N := some 121) (v := ?_) (a' := ?_) mk28_20 rfl rfl (any_of HT_.out (by kernel_rfl)) (fun _ _ _ h => h) (Or.inl ⟨by rfl, ?_⟩) ?_ ?_
                    rotate_left; (· intro w'; go_simp; with_reducible rfl); rotate_left; (· simp only [Act.put, sA, sB, sC, i64_w, i32_w]; rfl)
                    refine pure_ (i := 20) (N := some 122) (v := ?_) (a' := ?_) mk28_21 rfl rfl (any_of HT_.out (by kernel_rfl)) (fun _ _ _ h => h) (Or.inl ⟨by rfl, ?_⟩) ?_ ?_
                    rotate_left; (· intro w'; go_simp; with_reducible rfl); rotate_left; (· simp only [Act.put, sA, sB, sC, i64_w, i32_w]; rfl)
                    refine pure_ (i := 21) (N := some 123) (v := ?_) (a' := ?_) mk28_22 rfl rfl (any_of HT_.out (by kernel_rfl)) (fun _ _ _ h => h) (Or.inl ⟨by rfl, ?_⟩) ?_ ?_
                    rotate_left; (· intro w'; go_simp; with_reducible rfl); rotate_left; (· simp only [Act.put, sA, sB, sC, i64_w, i32_w]; rfl)
                    refine pure_ (i := 22) (N := some 124) (v := ?_) (a' := ?_) mk28_23 rfl rfl (any_of HT_.out (by kernel_rfl)) (fun _ _ _ h => h) (Or.inl ⟨by rfl, ?_⟩) ?_ ?_
                    rotate_left; (· intro w'; go_simp; with_reducible rfl); rotate_left; (· simp only [Act.put, sA, sB, sC, i64_w, i32_w]; rfl)
                    refine pure_ (i := 23) (N := some 125) (v := ?_) (a' := ?_) mk28_24 rfl rfl (any_of HT_.out (by kernel_rfl)) (fun _ _ _ h => h) (Or.inl ⟨by rfl, ?_⟩) ?_ ?_
                    rotate_left; (· intro w'; go_simp; with_reducible rfl); rotate_left; (· simp only [Act.put, sA, sB, sC, i64_w, i32_w]; rfl)
                    refine pure_ (i := 24) (N := some 126) (v := undef) (a' := ?_) mk28_25 rfl rfl (any_of HT_.out (by kernel_rfl)) (fun _ _ _ h => h) (Or.inr ⟨by rfl, rfl⟩) ?_ ?_
                    rotate_left; (· simp only [Act.put, sA, sB, sC, i64_w, i32_w]; rfl)
                    refine pure_ (i := 25) (N := some 127) (v := undef) (a' := ?_) mk28_26 rfl rfl (any_of HT_.out (by kernel_rfl)) (fun _ _ _ h => h) (Or.inr ⟨by rfl, rfl⟩) ?_ ?_
                    rotate_left; (· simp only [Act.put, sA, sB, sC, i64_w, i32_w]; rfl)
                    refine pure_ (i := 26) (N := some 128) (v := ?_) (a' := ?_) mk28_27 rfl rfl (any_of HT_.out (by kernel_rfl)) (fun _ _ _ h => h) (Or.inl ⟨by rfl, ?_⟩) ?_ ?_
                    rotate_left; (· intro w'; go_simp; with_reducible rfl); rotate_left; (· simp only [Act.put, sA, sB, sC, i64_w, i32_w]; rfl)
                    refine pure_ (i := 27) (N := some 129) (v := ?_) (a' := ?_) mk28_28 rfl rfl (any_of HT_.out (by kernel_rfl)) (fun _ _ _ h => h) (Or.inl ⟨by rfl, ?_⟩) ?_ ?_
                    rotate_left; (· intro w'; go_simp; with_reducible rfl); rotate_left; (· simp only [Act.put, sA, sB, sC, i64_w, i32_w]; rfl)
                    refine done_ (done_of HT_.out (by kernel_rfl)) ?_
                    try go_wp2
                    have HE := Aside0.mk (below_step HBc2.out hHeld)
                    go_meet
                    case rel => exact ⟨rfl, HE⟩
              case rest =>
                as_aux_lemma =>
                  obtain ⟨rfl, HQ_2⟩ := hcut
                  go_upto_region 13 with fail
                  go_upto_region 14 with (first | (go_at_call 31; (with_reducible refine (meta_Seek.calls k A2 c2 l2 n3 r3 f3 _ (Kd.C_below HR2.out (below_step B0.out HQ_2.out)) HC2.out HK1.out).mono ?_); rintro e' wa3 ⟨va, rfl, hr, hb⟩; obtain ⟨AA3, cc3, hv⟩ := Kd.R_slice hr; subst hv; have Ra3 := Aside0.mk hr; have HBa3 := Aside0.mk (below_step HQ_2.out hb); clear hr hb))
                  have Pb3 := Aside0.mk (blk_new wa3 (.cells #[.int .i64 n3, .slice AA3 r3.length cc3] 24))
                  have Cb3 := Aside0.mk (Kd.C_alloc (Kd.R_reads' Ra3.out).2.2 (.cells #[.int .i64 n3, .slice AA3 r3.length cc3] 24))
                  have Lb3 := Aside0.mk (Kd.R_reads' Ra3.out).2.1
                  have HBb3 := Aside0.mk (below_alloc HBa3.out (.cells #[.int .i64 n3, .slice AA3 r3.length cc3] 24))
                  generalize wa3.alloc (.cells #[.int .i64 n3, .slice AA3 r3.length cc3] 24) = wb3 at *
                  go_upto_region 15 with (first | (go_at_call 32; (with_reducible refine (serinetteref18_SeekRight.calls k A2 c2 l2 b3 _ (Kd.C_below HR2.out (below_step B0.out HBb3.out)) HC2.out HK2.out).mono ?_); rintro e' wc3 ⟨rfl, hb⟩; have HBc3 := Aside0.mk (below_step HBb3.out hb); have Pc3 := Aside0.mk (blk_below Pb3.out hb); have Cc3 := Aside0.mk (Kd.C_below Cb3.out hb); clear hb))
                  go_cut [164] (fun v wc => v = .bool false ∧ Aside0 (Below W0.heap.size W0 wc))
                  case first =>
                    have x0 : wc3.cell? ⟨wa3.heap.size, 0, none⟩ = some (.int .i64 n3) := (blk_cell Pc3.out 0).trans rfl
                    have x1 : wc3.cell? ⟨wa3.heap.size, 1, none⟩ = some (.slice AA3 r3.length cc3) := (blk_cell Pc3.out 1).trans rfl
                    cases b3
                    · as_aux_lemma =>
                        obtain ⟨rfl, rfl⟩ := T3.out.no rfl
                        refine start_ (n := 28) (S := fun w' => Below wc3.heap.size wc3 w') (ds := []) mk28_0 (by kernel_rfl) rfl rfl (below_drew (Below.refl _ _)) (fun hHeld => ?_); refine with_tabW serinettelaw18_MetaWrites.tab15 serinettelaw18_MetaWrites.bits15 (fun HT_ HW_ => ?_)
                        generalize wc3.drew = wd at hHeld ⊢
                        refine pure_ (i := 0) (N := some 137) (v := ?_) (a' := ?_) mk28_1 rfl rfl (any_of HT_.out (by kernel_rfl)) (fun _ _ _ h => h) (Or.inl ⟨by rfl, ?_⟩) ?_ ?_
                        rotate_left; (· intro w'; go_simp; with_reducible rfl); rotate_left; (· simp only [Act.put, sA, sB, sC, i64_w, i32_w]; rfl)
                        refine pure_ (i := 1) (N := some 138) (v := ?_) (a' := ?_) mk28_2 rfl rfl (any_of HT_.out (by kernel_rfl)) (fun _ _ _ h => h) (Or.inl ⟨by rfl, ?_⟩) ?_ ?_
                        rotate_left; (· intro w'; go_simp; with_reducible rfl); rotate_left; (· simp only [Act.put, sA, sB, sC, i64_w, i32_w]; rfl)
                        refine pure_ (i := 2) (N := some 139) (v := ?_) (a' := ?_) mk28_3 rfl rfl (any_of HT_.out (by kernel_rfl)) (fun _ _ _ h => h) (Or.inl ⟨by rfl, ?_⟩) ?_ ?_
                        rotate_left; (· intro w'; go_simp; with_reducible rfl); rotate_left; (· simp only [Act.put, sA, sB, sC, i64_w, i32_w]; rfl)
                        refine pure_ (i := 3) (N := some 140) (v := ?_) (a' := ?_) mk28_4 rfl rfl (any_of HT_.out (by kernel_rfl)) (fun _ _ _ h => h) (Or.inl ⟨by rfl, ?_⟩) ?_ ?_
                        rotate_left; (· intro w'; go_simp; with_reducible rfl); rotate_left; (· simp only [Act.put, sA, sB, sC, i64_w, i32_w]; rfl)
                        refine pure_ (i := 4) (N := some 141) (v := ?_) (a' := ?_) mk28_5 rfl rfl (any_of HT_.out (by kernel_rfl)) (fun _ _ _ h => h) (Or.inl ⟨by rfl, ?_⟩) ?_ ?_
                        rotate_left; (· intro w'; go_simp; with_reducible rfl); rotate_left; (· simp only [Act.put, sA, sB, sC, i64_w, i32_w]; rfl)
                        refine pure_ (i := 5) (N := some 142) (v := ?_) (a' := ?_) mk28_6 rfl rfl (any_of HT_.out (by kernel_rfl)) (fun _ _ _ h => h) (Or.inl ⟨by rfl, ?_⟩) ?_ ?_
                        rotate_left; (· intro w'; go_simp; with_reducible rfl); rotate_left; (· simp only [Act.put, sA, sB, sC, i64_w, i32_w]; rfl)
                        refine pure_ (i := 6) (N := some 143) (v := ?_) (a' := ?_) mk28_7 rfl rfl (any_of HT_.out (by kernel_rfl)) (fun _ _ _ h => h) (Or.inl ⟨by rfl, ?_⟩) ?_ ?_
                        rotate_left; (· intro w'; go_simp; with_reducible rfl); rotate_left; (· simp only [Act.put, sA, sB, sC, i64_w, i32_w]; rfl)
                        refine pure_ (i := 7) (N := some 144) (v := undef) (a' := ?_) mk28_8 rfl rfl (any_of HT_.out (by kernel_rfl)) (fun _ _ _ h => h) (Or.inr ⟨by rfl, rfl⟩) ?_ ?_
                        rotate_left; (· simp only [Act.put, sA, sB, sC, i64_w, i32_w]; rfl)
                        refine pure_ (i := 8) (N := some 145) (v := undef) (a' := ?_) mk28_9 rfl rfl (any_of HT_.out (by kernel_rfl)) (fun _ _ _ h => h) (Or.inr ⟨by rfl, rfl⟩) ?_ ?_
                        rotate_left; (· simp only [Act.put, sA, sB, sC, i64_w, i32_w]; rfl)
                        refine pure_ (i := 9) (N := some 146) (v := undef) (a' := ?_) mk28_10 rfl rfl (any_of HT_.out (by kernel_rfl)) (fun _ _ _ h => h) (Or.inr ⟨by rfl, rfl⟩) ?_ ?_
                        rotate_left; (· simp only [Act.put, sA, sB, sC, i64_w, i32_w]; rfl)
                        refine pure_ (i := 10) (N := some 147) (v := undef) (a' := ?_) mk28_11 rfl rfl (any_of HT_.out (by kernel_rfl)) (fun _ _ _ h => h) (Or.inr ⟨by rfl, rfl⟩) ?_ ?_
                        rotate_left; (· simp only [Act.put, sA, sB, sC, i64_w, i32_w]; rfl)
                        refine pure_ (i := 11) (N := some 148) (v := undef) (a' := ?_) mk28_12 rfl rfl (any_of HT_.out (by kernel_rfl)) (fun _ _ _ h => h) (Or.inr ⟨by rfl, rfl⟩) ?_ ?_
                        rotate_left; (· simp only [Act.put, sA, sB, sC, i64_w, i32_w]; rfl)
                        refine pure_ (i := 12) (N := some 149) (v := undef) (a' := ?_) mk28_13 rfl rfl (any_of HT_.out (by kernel_rfl)) (fun _ _ _ h => h) (Or.inr ⟨by rfl, rfl⟩) ?_ ?_
                        rotate_left; (· simp only [Act.put, sA, sB, sC, i64_w, i32_w]; rfl)
                        refine pure_ (i := 13) (N := some 150) (v := undef) (a' := ?_) mk28_14 rfl rfl (any_of HT_.out (by kernel_rfl)) (fun _ _ _ h => h) (Or.inr ⟨by rfl, rfl⟩) ?_ ?_
                        rotate_left; (· simp only [Act.put, sA, sB, sC, i64_w, i32_w]; rfl)
                        refine pure_ (i := 14) (N := some 151) (v := undef) (a' := ?_) mk28_15 rfl rfl (any_of HT_.out (by kernel_rfl)) (fun _ _ _ h => h) (Or.inr ⟨by rfl, rfl⟩) ?_ ?_
                        rotate_left; (· simp only [Act.put, sA, sB, sC, i64_w, i32_w]; rfl)
                        refine pure_ (i := 15) (N := some 152) (v := undef) (a' := ?_) mk28_16 rfl rfl (any_of HT_.out (by kernel_rfl)) (fun _ _ _ h => h) (Or.inr ⟨by rfl, rfl⟩) ?_ ?_
                        rotate_left; (· simp only [Act.put, sA, sB, sC, i64_w, i32_w]; rfl)
                        refine pure_ (i := 16) (N := some 153) (v := undef) (a' := ?_) mk28_17 rfl rfl (any_of HT_.out (by kernel_rfl)) (fun _ _ _ h => h) (Or.inr ⟨by rfl, rfl⟩) ?_ ?_
                        rotate_left; (· simp only [Act.put, sA, sB, sC, i64_w, i32_w]; rfl)
                        refine pure_ (i := 17) (N := some 154) (v := undef) (a' := ?_) mk28_18 rfl rfl (any_of HT_.out (by kernel_rfl)) (fun _ _ _ h => h) (Or.inr ⟨by rfl, rfl⟩) ?_ ?_
                        rotate_left; (· simp only [Act.put, sA, sB, sC, i64_w, i32_w]; rfl)
                        refine pure_ (i := 18) (N := some 155) (v := ?_) (a' := ?_) mk28_19 rfl rfl (any_of HT_.out (by kernel_rfl)) (fun _ _ _ h => h) (Or.inl ⟨by rfl, ?_⟩) ?_ ?_
                        rotate_left; (· intro w'; go_simp; with_reducible rfl); rotate_left; (· simp only [Act.put, sA, sB, sC, i64_w, i32_w]; rfl)
                        refine pure_ (i := 19) (N := some 156) (v := ?_) (a' := ?_) mk28_20 rfl rfl (any_of HT_.out (by kernel_rfl)) (fun _ _ _ h => h) (Or.inl ⟨by rfl, ?_⟩) ?_ ?_
                        rotate_left; (· intro w'; go_simp; with_reducible rfl); rotate_left; (· simp only [Act.put, sA, sB, sC, i64_w, i32_w]; rfl)
                        refine pure_ (i := 20) (N := some 157) (v := ?_) (a' := ?_) mk28_21 rfl rfl (any_of HT_.out (by kernel_rfl)) (fun _ _ _ h => h) (Or.inl ⟨by rfl, ?_⟩) ?_ ?_
                        rotate_left; (· intro w'; go_simp; with_reducible rfl); rotate_left; (· simp only [Act.put, sA, sB, sC, i64_w, i32_w]; rfl)
                        refine pure_ (i := 21) (N := some 158) (v := ?_) (a' := ?_) mk28_22 rfl rfl (any_of HT_.out (by kernel_rfl)) (fun _ _ _ h => h) (Or.inl ⟨by rfl, ?_⟩) ?_ ?_
                        rotate_left; (· intro w'; go_simp; with_reducible rfl); rotate_left; (· simp only [Act.put, sA, sB, sC, i64_w, i32_w]; rfl)
                        refine pure_ (i := 22) (N := some 159) (v := ?_) (a' := ?_) mk28_23 rfl rfl (any_of HT_.out (by kernel_rfl)) (fun _ _ _ h => h) (Or.inl ⟨by rfl, ?_⟩) ?_ ?_
                        rotate_left; (· intro w'; go_simp; with_reducible rfl); rotate_left; (· simp only [Act.put, sA, sB, sC, i64_w, i32_w]; rfl)
                        refine pure_ (i := 23) (N := some 160) (v := ?_) (a' := ?_) mk28_24 rfl rfl (any_of HT_.out (by kernel_rfl)) (fun _ _ _ h => h) (Or.inl ⟨by rfl, ?_⟩) ?_ ?_
                        rotate_left; (· intro w'; go_simp; with_reducible rfl); rotate_left; (· simp only [Act.put, sA, sB, sC, i64_w, i32_w]; rfl)
                        refine pure_ (i := 24) (N := some 161) (v := ?_) (a' := ?_) mk28_25 rfl rfl (any_of HT_.out (by kernel_rfl)) (fun _ _ _ h => h) (Or.inl ⟨by rfl, ?_⟩) ?_ ?_
                        rotate_left; (· intro w'; go_simp; with_reducible rfl); rotate_left; (· simp only [Act.put, sA, sB, sC, i64_w, i32_w]; rfl)
                        refine pure_ (i := 25) (N := some 162) (v := ?_) (a' := ?_) mk28_26 rfl rfl (any_of HT_.out (by kernel_rfl)) (fun _ _ _ h => h) (Or.inl ⟨by rfl, ?_⟩) ?_ ?_
                        rotate_left; (· intro w'; go_simp; with_reducible rfl); rotate_left; (· simp only [Act.put, sA, sB, sC, i64_w, i32_w]; rfl)
                        refine pure_ (i := 26) (N := some 163) (v := ?_) (a' := ?_) mk28_27 rfl rfl (any_of HT_.out (by kernel_rfl)) (fun _ _ _ h => h) (Or.inl ⟨by rfl, ?_⟩) ?_ ?_
                        rotate_left; (· intro w'; go_simp; with_reducible rfl); rotate_left; (· simp only [Act.put, sA, sB, sC, i64_w, i32_w]; rfl)
                        refine pure_ (i := 27) (N := some 164) (v := ?_) (a' := ?_) mk28_28 rfl rfl (any_of HT_.out (by kernel_rfl)) (fun _ _ _ h => h) (Or.inl ⟨by rfl, ?_⟩) ?_ ?_
                        rotate_left; (· intro w'; go_simp; with_reducible rfl); rotate_left; (· simp only [Act.put, sA, sB, sC, i64_w, i32_w]; rfl)
                        refine done_ (done_of HT_.out (by kernel_rfl)) ?_
                        try go_wp2
                        have HE := Aside0.mk (below_step HBc3.out hHeld)
                        go_meet
                        case rel => exact ⟨rfl, HE⟩
                    · as_aux_lemma =>
                        obtain ⟨rfl, rfl, B, hB1, hB2⟩ := T3.out.yes rfl
                        have HSM := Aside0.mk hB2
                        have CB : Aside0 (∀ W, Below w.heap.size w W → Calls Try.prog 33 #[.slice A2 l2.length c2] W (RowTo W B)) := ⟨fun W hb => serinetteref18_SeekBody.calls k A2 c2 l2 B W (Kd.C_below HR2.out hb) HC2.out hB1⟩
                        clear hB1 hB2
                        refine start_ (n := 28) (S := fun w' => Below wc3.heap.size wc3 w') (ds := []) mk28_0 (by kernel_rfl) rfl rfl (below_drew (Below.refl _ _)) (fun hHeld => ?_); refine with_tabW serinettelaw18_MetaWrites.tab15 serinettelaw18_MetaWrites.bits15 (fun HT_ HW_ => ?_)
                        generalize wc3.drew = wd at hHeld ⊢
                        refine pure_ (i := 0) (N := some 137) (v := ?_) (a' := ?_) mk28_1 rfl rfl (any_of HT_.out (by kernel_rfl)) (fun _ _ _ h => h) (Or.inl ⟨by rfl, ?_⟩) ?_ ?_
                        rotate_left; (· intro w'; go_simp; with_reducible rfl); rotate_left; (· simp only [Act.put, sA, sB, sC, i64_w, i32_w]; rfl)
                        refine pure_ (i := 1) (N := some 138) (v := ?_) (a' := ?_) mk28_2 rfl rfl (any_of HT_.out (by kernel_rfl)) (fun _ _ _ h => h) (Or.inl ⟨by rfl, ?_⟩) ?_ ?_
                        rotate_left; (· intro w'; go_simp; with_reducible rfl); rotate_left; (· simp only [Act.put, sA, sB, sC, i64_w, i32_w]; rfl)
                        refine pure_ (i := 2) (N := some 139) (v := ?_) (a' := ?_) mk28_3 rfl rfl (any_of HT_.out (by kernel_rfl)) (fun _ _ _ h => h) (Or.inl ⟨by rfl, ?_⟩) ?_ ?_
                        rotate_left; (· intro w'; go_simp; with_reducible rfl); rotate_left; (· simp only [Act.put, sA, sB, sC, i64_w, i32_w]; rfl)
                        refine pure_ (i := 3) (N := some 140) (v := ?_) (a' := ?_) mk28_4 rfl rfl (any_of HT_.out (by kernel_rfl)) (fun _ _ _ h => h) (Or.inl ⟨by rfl, ?_⟩) ?_ ?_
                        rotate_left; (· intro w'; go_simp; with_reducible rfl); rotate_left; (· simp only [Act.put, sA, sB, sC, i64_w, i32_w]; rfl)
                        refine pure_ (i := 4) (N := some 141) (v := ?_) (a' := ?_) mk28_5 rfl rfl (any_of HT_.out (by kernel_rfl)) (fun _ _ _ h => h) (Or.inl ⟨by rfl, ?_⟩) ?_ ?_
                        rotate_left; (· intro w'; go_simp; with_reducible rfl); rotate_left; (· simp only [Act.put, sA, sB, sC, i64_w, i32_w]; rfl)
                        refine pure_ (i := 5) (N := some 142) (v := ?_) (a' := ?_) mk28_6 rfl rfl (any_of HT_.out (by kernel_rfl)) (fun _ _ _ h => h) (Or.inl ⟨by rfl, ?_⟩) ?_ ?_
                        rotate_left; (· intro w'; go_simp; with_reducible rfl); rotate_left; (· simp only [Act.put, sA, sB, sC, i64_w, i32_w]; rfl)
                        refine pure_ (i := 6) (N := some 143) (v := ?_) (a' := ?_) mk28_7 rfl rfl (any_of HT_.out (by kernel_rfl)) (fun _ _ _ h => h) (Or.inl ⟨by rfl, ?_⟩) ?_ ?_
                        rotate_left; (· intro w'; go_simp; with_reducible rfl); rotate_left; (· simp only [Act.put, sA, sB, sC, i64_w, i32_w]; rfl)
                        refine pure_ (i := 7) (N := some 144) (v := ?_) (a' := ?_) mk28_8 rfl rfl (any_of HT_.out (by kernel_rfl)) (fun _ _ _ h => h) (Or.inl ⟨by rfl, ?_⟩) ?_ ?_
                        rotate_left; (· intro w'; go_simp; with_reducible rfl); rotate_left; (· simp only [Act.put, sA, sB, sC, i64_w, i32_w]; rfl)
                        refine take_ (i := 8) (N := some 145) (v := ?_) (a' := ?_) mk28_9 rfl rfl (take_ofW HT_.out HW_.out (by kernel_rfl)) (fun _ _ _ h => h) (Or.inl ⟨by rfl, ?_⟩) hHeld ?_ ?_
                        rotate_left
                        · intro w' hb'
                          have hb' : Below wc3.heap.size wc3 w' := hb'
                          have z0 := cell_below hb' x0
                          go_simp
                          with_reducible rfl
                        rotate_left
                        · simp only [Act.put, sA, sB, sC, i64_w, i32_w]
                          rfl
                        refine pure_ (i := 9) (N := some 146) (v := ?_) (a' := ?_) mk28_10 rfl rfl (any_of HT_.out (by kernel_rfl)) (fun _ _ _ h => h) (Or.inl ⟨by rfl, ?_⟩) ?_ ?_
                        rotate_left; (· intro w'; go_simp; with_reducible rfl); rotate_left; (· simp only [Act.put, sA, sB, sC, i64_w, i32_w]; rfl)
                        refine pure_ (i := 10) (N := some 147) (v := ?_) (a' := ?_) mk28_11 rfl rfl (any_of HT_.out (by kernel_rfl)) (fun _ _ _ h => h) (Or.inl ⟨by rfl, ?_⟩) ?_ ?_
                        rotate_left; (· intro w'; go_simp; with_reducible rfl); rotate_left; (· simp only [Act.put, sA, sB, sC, i64_w, i32_w]; rfl)
                        refine pure_ (i := 11) (N := some 148) (v := ?_) (a' := ?_) mk28_12 rfl rfl (any_of HT_.out (by kernel_rfl)) (fun _ _ _ h => h) (Or.inl ⟨by rfl, ?_⟩) ?_ ?_
                        rotate_left; (· intro w'; go_simp; with_reducible rfl); rotate_left; (· simp only [Act.put, sA, sB, sC, i64_w, i32_w]; rfl)
                        refine take_ (i := 12) (N := some 149) (v := ?_) (a' := ?_) mk28_13 rfl rfl (take_ofW HT_.out HW_.out (by kernel_rfl)) (fun _ _ _ h => h) (Or.inl ⟨by rfl, ?_⟩) hHeld ?_ ?_
                        rotate_left
                        · intro w' hb'
                          have hb' : Below wc3.heap.size wc3 w' := hb'
                          have z0 := cell_below hb' x1
                          go_simp
                          with_reducible rfl
                        rotate_left
                        · simp only [Act.put, sA, sB, sC, i64_w, i32_w]
                          rfl
                        refine pure_ (i := 13) (N := some 150) (v := ?_) (a' := ?_) mk28_14 rfl rfl (any_of HT_.out (by kernel_rfl)) (fun _ _ _ h => h) (Or.inl ⟨by rfl, ?_⟩) ?_ ?_
                        rotate_left; (· intro w'; go_simp; with_reducible rfl); rotate_left; (· simp only [Act.put, sA, sB, sC, i64_w, i32_w]; rfl)
                        refine one_ (i := 14) (N := some 151) mk28_15 rfl rfl (one_of HT_.out (by kernel_rfl)) (by decide) (fun K hK => ?_)
                        refine goes_ Try.func33 (by kernel_rfl) rfl #[.slice A2 l2.length c2] (by rfl) rfl rfl (by (try simp only [List.map_toArray, List.map_cons, List.map_nil]); first | done | rfl) ?_
                        with_reducible refine (CB.out _ (below_step B0.out (below_step HBc3.out hHeld))).mono ?_
                        rintro e' w6 ⟨v6, rfl, hr6, hb6⟩
                        refine ⟨_, rfl, ?_⟩
                        obtain ⟨A6, c6, hv6⟩ := Kd.R_slice hr6
                        subst hv6
                        have HB6 := Aside0.mk (below_join hb6 hHeld)
                        have R6 := Aside0.mk hr6
                        clear hr6 hb6
                        refine hK.out _ _ HB6.out (fun hHeld => ?_)
                        clear hK K
                        refine norm_ (a' := ?_) ?_ ?_
                        rotate_left
                        · show Act.put _ (some 151) _ = _
                          simp only [Act.put, sA, sB, sC, i64_w, i32_w]
                          rfl
                        refine one_ (i := 15) (N := some 152) mk28_16 rfl rfl (one_of HT_.out (by kernel_rfl)) (by decide) (fun K hK => ?_)
                        refine goes_ Try.func21 (by kernel_rfl) rfl #[.slice AA3 r3.length cc3, .slice A6 B.length c6] (by rfl) rfl rfl (by (try simp only [List.map_toArray, List.map_cons, List.map_nil]); first | done | rfl) ?_
                        with_reducible refine (serinetteref01_Same.calls k AA3 cc3 r3 A6 c6 B true _ (Kd.C_below Cc3.out HB6.out) Lb3.out (Kd.R_reads' R6.out).2.2 (Kd.R_reads' R6.out).2.1 HSM.out).mono ?_
                        rintro e' w7 ⟨rfl, ⟨m7, rfl⟩⟩
                        refine ⟨_, rfl, ?_⟩
                        refine hK.out _ _ (below_join (pw_below_drewN (Below.refl _ _) m7) HB6.out) (fun hHeld => ?_)
                        clear hK K
                        refine norm_ (a' := ?_) ?_ ?_
                        rotate_left
                        · show Act.put _ (some 152) _ = _
                          simp only [Act.put, sA, sB, sC, i64_w, i32_w]
                          rfl
                        refine pure_ (i := 16) (N := some 153) (v := ?_) (a' := ?_) mk28_17 rfl rfl (any_of HT_.out (by kernel_rfl)) (fun _ _ _ h => h) (Or.inl ⟨by rfl, ?_⟩) ?_ ?_
                        rotate_left; (· intro w'; go_simp; with_reducible rfl); rotate_left; (· simp only [Act.put, sA, sB, sC, i64_w, i32_w]; rfl)
                        refine pure_ (i := 17) (N := some 154) (v := ?_) (a' := ?_) mk28_18 rfl rfl (any_of HT_.out (by kernel_rfl)) (fun _ _ _ h => h) (Or.inl ⟨by rfl, ?_⟩) ?_ ?_
                        rotate_left; (· intro w'; go_simp; with_reducible rfl); rotate_left; (· simp only [Act.put, sA, sB, sC, i64_w, i32_w]; rfl)
                        refine pure_ (i := 18) (N := some 155) (v := ?_) (a' := ?_) mk28_19 rfl rfl (any_of HT_.out (by kernel_rfl)) (fun _ _ _ h => h) (Or.inl ⟨by rfl, ?_⟩) ?_ ?_
                        rotate_left; (· intro w'; go_simp; with_reducible rfl); rotate_left; (· simp only [Act.put, sA, sB, sC, i64_w, i32_w]; rfl)
                        refine pure_ (i := 19) (N := some 156) (v := ?_) (a' := ?_) mk28_20 rfl rfl (any_of HT_.out (by kernel_rfl)) (fun _ _ _ h => h) (Or.inl ⟨by rfl, ?_⟩) ?_ ?_
                        rotate_left; (· intro w'; go_simp; with_reducible rfl); rotate_left; (· simp only [Act.put, sA, sB, sC, i64_w, i32_w]; rfl)
                        refine pure_ (i := 20) (N := some 157) (v := ?_) (a' := ?_) mk28_21 rfl rfl (any_of HT_.out (by kernel_rfl)) (fun _ _ _ h => h) (Or.inl ⟨by rfl, ?_⟩) ?_ ?_
                        rotate_left; (· intro w'; go_simp; with_reducible rfl); rotate_left; (· simp only [Act.put, sA, sB, sC, i64_w, i32_w]; rfl)
                        refine pure_ (i := 21) (N := some 158) (v := ?_) (a' := ?_) mk28_22 rfl rfl (any_of HT_.out (by kernel_rfl)) (fun _ _ _ h => h) (Or.inl ⟨by rfl, ?_⟩) ?_ ?_
                        rotate_left; (· intro w'; go_simp; with_reducible rfl); rotate_left; (· simp only [Act.put, sA, sB, sC, i64_w, i32_w]; rfl)
                        refine pure_ (i := 22) (N := some 159) (v := ?_) (a' := ?_) mk28_23 rfl rfl (any_of HT_.out (by kernel_rfl)) (fun _ _ _ h => h) (Or.inl ⟨by rfl, ?_⟩) ?_ ?_
                        rotate_left; (· intro w'; go_simp; with_reducible rfl); rotate_left; (· simp only [Act.put, sA, sB, sC, i64_w, i32_w]; rfl)
                        refine pure_ (i := 23) (N := some 160) (v := ?_) (a' := ?_) mk28_24 rfl rfl (any_of HT_.out (by kernel_rfl)) (fun _ _ _ h => h) (Or.inl ⟨by rfl, ?_⟩) ?_ ?_
                        rotate_left; (· intro w'; go_simp; with_reducible rfl); rotate_left; (· simp only [Act.put, sA, sB, sC, i64_w, i32_w]; rfl)
                        refine pure_ (i := 24) (N := some 161) (v := undef) (a' := ?_) mk28_25 rfl rfl (any_of HT_.out (by kernel_rfl)) (fun _ _ _ h => h) (Or.inr ⟨by rfl, rfl⟩) ?_ ?_
                        rotate_left; (· simp only [Act.put, sA, sB, sC, i64_w, i32_w]; rfl)
                        refine pure_ (i := 25) (N := some 162) (v := undef) (a' := ?_) mk28_26 rfl rfl (any_of HT_.out (by kernel_rfl)) (fun _ _ _ h => h) (Or.inr ⟨by rfl, rfl⟩) ?_ ?_
                        rotate_left; (· simp only [Act.put, sA, sB, sC, i64_w, i32_w]; rfl)
                        refine pure_ (i := 26) (N := some 163) (v := ?_) (a' := ?_) mk28_27 rfl rfl (any_of HT_.out (by kernel_rfl)) (fun _ _ _ h => h) (Or.inl ⟨by rfl, ?_⟩) ?_ ?_
                        rotate_left; (· intro w'; go_simp; with_reducible rfl); rotate_left; (· simp only [Act.put, sA, sB, sC, i64_w, i32_w]; rfl)
                        refine pure_ (i := 27) (N := some 164) (v := ?_) (a' := ?_) mk28_28 rfl rfl (any_of HT_.out (by kernel_rfl)) (fun _ _ _ h => h) (Or.inl ⟨by rfl, ?_⟩) ?_ ?_
                        rotate_left; (· intro w'; go_simp; with_reducible rfl); rotate_left; (· simp only [Act.put, sA, sB, sC, i64_w, i32_w]; rfl)
                        refine done_ (done_of HT_.out (by kernel_rfl)) ?_
                        try go_wp2
                        have HE := Aside0.mk (below_step HBc3.out hHeld)
                        go_meet
                        case rel => exact ⟨rfl, HE⟩
                  case rest =>
                    as_aux_lemma =>
                      obtain ⟨rfl, HQ_3⟩ := hcut
                      go_upto_region 17 with fail
                      have lx0 := (blk_cell (blk_below K2.out HQ_3.out) 0).trans (show _ = some (Value.string a3_0) from rfl)
                      have lx1 := (blk_cell (blk_below K2.out HQ_3.out) 1).trans (show _ = some (Value.slice A3_1 l3_1.length c3_1) from rfl)
                      go_upto_region 18 with (first | (go_at_call 34; (with_reducible refine (meta_Comment.calls a3_0 A3_1 c3_1 l3_1 n4 r4 f4 _ (Kd.C_below HR3.out (below_step B0.out HQ_3.out)) HC3.out HQ1.out).mono ?_); rintro e' wa4 ⟨va, rfl, hr, hb⟩; obtain ⟨AA4, cc4, hv⟩ := Kd.R_slice hr; subst hv; have Ra4 := Aside0.mk hr; have HBa4 := Aside0.mk (below_step HQ_3.out hb); clear hr hb lx0 lx1))
                      have Pb4 := Aside0.mk (blk_new wa4 (.cells #[.int .i64 n4, .slice AA4 r4.length cc4] 24))
                      have Cb4 := Aside0.mk (Kd.C_alloc (Kd.R_reads' Ra4.out).2.2 (.cells #[.int .i64 n4, .slice AA4 r4.length cc4] 24))
                      have Lb4 := Aside0.mk (Kd.R_reads' Ra4.out).2.1
                      have HBb4 := Aside0.mk (below_alloc HBa4.out (.cells #[.int .i64 n4, .slice AA4 r4.length cc4] 24))
                      generalize wa4.alloc (.cells #[.int .i64 n4, .slice AA4 r4.length cc4] 24) = wb4 at *
                      have lx0 := (blk_cell (blk_below K2.out HBb4.out) 0).trans (show _ = some (Value.string a3_0) from rfl)
                      have lx1 := (blk_cell (blk_below K2.out HBb4.out) 1).trans (show _ = some (Value.slice A3_1 l3_1.length c3_1) from rfl)
                      go_upto_region 19 with (first | (go_at_call 35; (with_reducible refine (serinetteref18_CommentRight.calls k a3_0 A3_1 c3_1 l3_1 b4 _ (Kd.C_below HR3.out (below_step B0.out HBb4.out)) HC3.out HQ2.out).mono ?_); rintro e' wc4 ⟨rfl, hb⟩; have HBc4 := Aside0.mk (below_step HBb4.out hb); have Pc4 := Aside0.mk (blk_below Pb4.out hb); have Cc4 := Aside0.mk (Kd.C_below Cb4.out hb); clear hb lx0 lx1))
                      go_cut [199] (fun v wc => v = .bool false ∧ Aside0 (Below W0.heap.size W0 wc))
                      case first =>
                        have x0 : wc4.cell? ⟨wa4.heap.size, 0, none⟩ = some (.int .i64 n4) := (blk_cell Pc4.out 0).trans rfl
                        have x1 : wc4.cell? ⟨wa4.heap.size, 1, none⟩ = some (.slice AA4 r4.length cc4) := (blk_cell Pc4.out 1).trans rfl
                        cases b4
                        · as_aux_lemma =>
                            obtain ⟨rfl, rfl⟩ := T4.out.no rfl
                            refine start_ (n := 28) (S := fun w' => Below wc4.heap.size wc4 w') (ds := []) mk28_0 (by kernel_rfl) rfl rfl (below_drew (Below.refl _ _)) (fun hHeld => ?_); refine with_tabW serinettelaw18_MetaWrites.tab19 serinettelaw18_MetaWrites.bits19 (fun HT_ HW_ => ?_)
                            generalize wc4.drew = wd at hHeld ⊢
                            refine pure_ (i := 0) (N := some 172) (v := ?_) (a' := ?_) mk28_1 rfl rfl (any_of HT_.out (by kernel_rfl)) (fun _ _ _ h => h) (Or.inl ⟨by rfl, ?_⟩) ?_ ?_
                            rotate_left; (· intro w'; go_simp; with_reducible rfl); rotate_left; (· simp only [Act.put, sA, sB, sC, i64_w, i32_w]; rfl)
                            refine pure_ (i := 1) (N := some 173) (v := ?_) (a' := ?_) mk28_2 rfl rfl (any_of HT_.out (by kernel_rfl)) (fun _ _ _ h => h) (Or.inl ⟨by rfl, ?_⟩) ?_ ?_
                            rotate_left; (· intro w'; go_simp; with_reducible rfl); rotate_left; (· simp only [Act.put, sA, sB, sC, i64_w, i32_w]; rfl)
                            refine pure_ (i := 2) (N := some 174) (v := ?_) (a' := ?_) mk28_3 rfl rfl (any_of HT_.out (by kernel_rfl)) (fun _ _ _ h => h) (Or.inl ⟨by rfl, ?_⟩) ?_ ?_
                            rotate_left; (· intro w'; go_simp; with_reducible rfl); rotate_left; (· simp only [Act.put, sA, sB, sC, i64_w, i32_w]; rfl)
                            refine pure_ (i := 3) (N := some 175) (v := ?_) (a' := ?_) mk28_4 rfl rfl (any_of HT_.out (by kernel_rfl)) (fun _ _ _ h => h) (Or.inl ⟨by rfl, ?_⟩) ?_ ?_
                            rotate_left; (· intro w'; go_simp; with_reducible rfl); rotate_left; (· simp only [Act.put, sA, sB, sC, i64_w, i32_w]; rfl)
                            refine pure_ (i := 4) (N := some 176) (v := ?_) (a' := ?_) mk28_5 rfl rfl (any_of HT_.out (by kernel_rfl)) (fun _ _ _ h => h) (Or.inl ⟨by rfl, ?_⟩) ?_ ?_
                            rotate_left; (· intro w'; go_simp; with_reducible rfl); rotate_left; (· simp only [Act.put, sA, sB, sC, i64_w, i32_w]; rfl)
                            refine pure_ (i := 5) (N := some 177) (v := ?_) (a' := ?_) mk28_6 rfl rfl (any_of HT_.out (by kernel_rfl)) (fun _ _ _ h => h) (Or.inl ⟨by rfl, ?_⟩) ?_ ?_
                            rotate_left; (· intro w'; go_simp; with_reducible rfl); rotate_left; (· simp only [Act.put, sA, sB, sC, i64_w, i32_w]; rfl)
                            refine pure_ (i := 6) (N := some 178) (v := ?_) (a' := ?_) mk28_7 rfl rfl (any_of HT_.out (by kernel_rfl)) (fun _ _ _ h => h) (Or.inl ⟨by rfl, ?_⟩) ?_ ?_
                            rotate_left; (· intro w'; go_simp; with_reducible rfl); rotate_left; (· simp only [Act.put, sA, sB, sC, i64_w, i32_w]; rfl)
                            refine pure_ (i := 7) (N := some 179) (v := undef) (a' := ?_) mk28_8 rfl rfl (any_of HT_.out (by kernel_rfl)) (fun _ _ _ h => h) (Or.inr ⟨by rfl, rfl⟩) ?_ ?_
                            rotate_left; (· simp only [Act.put, sA, sB, sC, i64_w, i32_w]; rfl)
                            refine pure_ (i := 8) (N := some 180) (v := undef) (a' := ?_) mk28_9 rfl rfl (any_of HT_.out (by kernel_rfl)) (fun _ _ _ h => h) (Or.inr ⟨by rfl, rfl⟩) ?_ ?_
                            rotate_left; (· simp only [Act.put, sA, sB, sC, i64_w, i32_w]; rfl)
                            refine pure_ (i := 9) (N := some 181) (v := undef) (a' := ?_) mk28_10 rfl rfl (any_of HT_.out (by kernel_rfl)) (fun _ _ _ h => h) (Or.inr ⟨by rfl, rfl⟩) ?_ ?_
                            rotate_left; (· simp only [Act.put, sA, sB, sC, i64_w, i32_w]; rfl)
                            refine pure_ (i := 10) (N := some 182) (v := undef) (a' := ?_) mk28_11 rfl rfl (any_of HT_.out (by kernel_rfl)) (fun _ _ _ h => h) (Or.inr ⟨by rfl, rfl⟩) ?_ ?_
                            rotate_left; (· simp only [Act.put, sA, sB, sC, i64_w, i32_w]; rfl)
                            refine pure_ (i := 11) (N := some 183) (v := undef) (a' := ?_) mk28_12 rfl rfl (any_of HT_.out (by kernel_rfl)) (fun _ _ _ h => h) (Or.inr ⟨by rfl, rfl⟩) ?_ ?_
                            rotate_left; (· simp only [Act.put, sA, sB, sC, i64_w, i32_w]; rfl)
                            refine pure_ (i := 12) (N := some 184) (v := undef) (a' := ?_) mk28_13 rfl rfl (any_of HT_.out (by kernel_rfl)) (fun _ _ _ h => h) (Or.inr ⟨by rfl, rfl⟩) ?_ ?_
                            rotate_left; (· simp only [Act.put, sA, sB, sC, i64_w, i32_w]; rfl)
                            refine pure_ (i := 13) (N := some 185) (v := undef) (a' := ?_) mk28_14 rfl rfl (any_of HT_.out (by kernel_rfl)) (fun _ _ _ h => h) (Or.inr ⟨by rfl, rfl⟩) ?_ ?_
                            rotate_left; (· simp only [Act.put, sA, sB, sC, i64_w, i32_w]; rfl)
                            refine pure_ (i := 14) (N := some 186) (v := undef) (a' := ?_) mk28_15 rfl rfl (any_of HT_.out (by kernel_rfl)) (fun _ _ _ h => h) (Or.inr ⟨by rfl, rfl⟩) ?_ ?_
                            rotate_left; (· simp only [Act.put, sA, sB, sC, i64_w, i32_w]; rfl)
                            refine pure_ (i := 15) (N := some 187) (v := undef) (a' := ?_) mk28_16 rfl rfl (any_of HT_.out (by kernel_rfl)) (fun _ _ _ h => h) (Or.inr ⟨by rfl, rfl⟩) ?_ ?_
                            rotate_left; (· simp only [Act.put, sA, sB, sC, i64_w, i32_w]; rfl)
                            refine pure_ (i := 16) (N := some 188) (v := undef) (a' := ?_) mk28_17 rfl rfl (any_of HT_.out (by kernel_rfl)) (fun _ _ _ h => h) (Or.inr ⟨by rfl, rfl⟩) ?_ ?_
                            rotate_left; (· simp only [Act.put, sA, sB, sC, i64_w, i32_w]; rfl)
                            refine pure_ (i := 17) (N := some 189) (v := undef) (a' := ?_) mk28_18 rfl rfl (any_of HT_.out (by kernel_rfl)) (fun _ _ _ h => h) (Or.inr ⟨by rfl, rfl⟩) ?_ ?_
                            rotate_left; (· simp only [Act.put, sA, sB, sC, i64_w, i32_w]; rfl)
                            refine pure_ (i := 18) (N := some 190) (v := ?_) (a' := ?_) mk28_19 rfl rfl (any_of HT_.out (by kernel_rfl)) (fun _ _ _ h => h) (Or.inl ⟨by rfl, ?_⟩) ?_ ?_
                            rotate_left; (· intro w'; go_simp; with_reducible rfl); rotate_left; (· simp only [Act.put, sA, sB, sC, i64_w, i32_w]; rfl)
                            refine pure_ (i := 19) (N := some 191) (v := ?_) (a' := ?_) mk28_20 rfl rfl (any_of HT_.out (by kernel_rfl)) (fun _ _ _ h => h) (Or.inl ⟨by rfl, ?_⟩) ?_ ?_
                            rotate_left; (· intro w'; go_simp; with_reducible rfl); rotate_left; (· simp only [Act.put, sA, sB, sC, i64_w, i32_w]; rfl)
                            refine pure_ (i := 20) (N := some 192) (v := ?_) (a' := ?_) mk28_21 rfl rfl (any_of HT_.out (by kernel_rfl)) (fun _ _ _ h => h) (Or.inl ⟨by rfl, ?_⟩) ?_ ?_
                            rotate_left; (· intro w'; go_simp; with_reducible rfl); rotate_left; (· simp only [Act.put, sA, sB, sC, i64_w, i32_w]; rfl)
                            refine pure_ (i := 21) (N := some 193) (v := ?_) (a' := ?_) mk28_22 rfl rfl (any_of HT_.out (by kernel_rfl)) (fun _ _ _ h => h) (Or.inl ⟨by rfl, ?_⟩) ?_ ?_
                            rotate_left; (· intro w'; go_simp; with_reducible rfl); rotate_left; (· simp only [Act.put, sA, sB, sC, i64_w, i32_w]; rfl)
                            refine pure_ (i := 22) (N := some 194) (v := ?_) (a' := ?_) mk28_23 rfl rfl (any_of HT_.out (by kernel_rfl)) (fun _ _ _ h => h) (Or.inl ⟨by rfl, ?_⟩) ?_ ?_
                            rotate_left; (· intro w'; go_simp; with_reducible rfl); rotate_left; (· simp only [Act.put, sA, sB, sC, i64_w, i32_w]; rfl)
                            refine pure_ (i := 23) (N := some 195) (v := ?_) (a' := ?_) mk28_24 rfl rfl (any_of HT_.out (by kernel_rfl)) (fun _ _ _ h => h) (Or.inl ⟨by rfl, ?_⟩) ?_ ?_
                            rotate_left; (· intro w'; go_simp; with_reducible rfl); rotate_left; (· simp only [Act.put, sA, sB, sC, i64_w, i32_w]; rfl)
                            refine pure_ (i := 24) (N := some 196) (v := ?_) (a' := ?_) mk28_25 rfl rfl (any_of HT_.out (by kernel_rfl)) (fun _ _ _ h => h) (Or.inl ⟨by rfl, ?_⟩) ?_ ?_
                            rotate_left; (· intro w'; go_simp; with_reducible rfl); rotate_left; (· simp only [Act.put, sA, sB, sC, i64_w, i32_w]; rfl)
                            refine pure_ (i := 25) (N := some 197) (v := ?_) (a' := ?_) mk28_26 rfl rfl (any_of HT_.out (by kernel_rfl)) (fun _ _ _ h => h) (Or.inl ⟨by rfl, ?_⟩) ?_ ?_
                            rotate_left; (· intro w'; go_simp; with_reducible rfl); rotate_left; (· simp only [Act.put, sA, sB, sC, i64_w, i32_w]; rfl)
                            refine pure_ (i := 26) (N := some 198) (v := ?_) (a' := ?_) mk28_27 rfl rfl (any_of HT_.out (by kernel_rfl)) (fun _ _ _ h => h) (Or.inl ⟨by rfl, ?_⟩) ?_ ?_
                            rotate_left; (· intro w'; go_simp; with_reducible rfl); rotate_left; (· simp only [Act.put, sA, sB, sC, i64_w, i32_w]; rfl)
                            refine pure_ (i := 27) (N := some 199) (v := ?_) (a' := ?_) mk28_28 rfl rfl (any_of HT_.out (by kernel_rfl)) (fun _ _ _ h => h) (Or.inl ⟨by rfl, ?_⟩) ?_ ?_
                            rotate_left; (· intro w'; go_simp; with_reducible rfl); rotate_left; (· simp only [Act.put, sA, sB, sC, i64_w, i32_w]; rfl)
                            refine done_ (done_of HT_.out (by kernel_rfl)) ?_
                            try go_wp2
                            have HE := Aside0.mk (below_step HBc4.out hHeld)
                            go_meet
                            case rel => exact ⟨rfl, HE⟩
                        · as_aux_lemma =>
                            obtain ⟨rfl, rfl, B, hB1, hB2⟩ := T4.out.yes rfl
                            have HSM := Aside0.mk hB2
                            have CB : Aside0 (∀ W, Below w.heap.size w W → Calls Try.prog 36 #[.agg #[.string a3_0, .slice A3_1 l3_1.length c3_1]] W (RowTo W B)) := ⟨fun W hb => serinetteref18_CommentBody.calls a3_0 A3_1 c3_1 l3_1 B W (Kd.C_below HR3.out hb) HC3.out hB1⟩
                            have lx0 := (blk_cell (blk_below K2.out HBc4.out) 0).trans (show _ = some (Value.string a3_0) from rfl)
                            have lx1 := (blk_cell (blk_below K2.out HBc4.out) 1).trans (show _ = some (Value.slice A3_1 l3_1.length c3_1) from rfl)
                            clear hB1 hB2
                            refine start_ (n := 28) (S := fun w' => Below wc4.heap.size wc4 w') (ds := []) mk28_0 (by kernel_rfl) rfl rfl (below_drew (Below.refl _ _)) (fun hHeld => ?_); refine with_tabW serinettelaw18_MetaWrites.tab19 serinettelaw18_MetaWrites.bits19 (fun HT_ HW_ => ?_)
                            generalize wc4.drew = wd at hHeld ⊢
                            refine pure_ (i := 0) (N := some 172) (v := ?_) (a' := ?_) mk28_1 rfl rfl (any_of HT_.out (by kernel_rfl)) (fun _ _ _ h => h) (Or.inl ⟨by rfl, ?_⟩) ?_ ?_
                            rotate_left; (· intro w'; go_simp; with_reducible rfl); rotate_left; (· simp only [Act.put, sA, sB, sC, i64_w, i32_w]; rfl)
                            refine pure_ (i := 1) (N := some 173) (v := ?_) (a' := ?_) mk28_2 rfl rfl (any_of HT_.out (by kernel_rfl)) (fun _ _ _ h => h) (Or.inl ⟨by rfl, ?_⟩) ?_ ?_
                            rotate_left; (· intro w'; go_simp; with_reducible rfl); rotate_left; (· simp only [Act.put, sA, sB, sC, i64_w, i32_w]; rfl)
                            refine pure_ (i := 2) (N := some 174) (v := ?_) (a' := ?_) mk28_3 rfl rfl (any_of HT_.out (by kernel_rfl)) (fun _ _ _ h => h) (Or.inl ⟨by rfl, ?_⟩) ?_ ?_
                            rotate_left; (· intro w'; go_simp; with_reducible rfl); rotate_left; (· simp only [Act.put, sA, sB, sC, i64_w, i32_w]; rfl)
                            refine pure_ (i := 3) (N := some 175) (v := ?_) (a' := ?_) mk28_4 rfl rfl (any_of HT_.out (by kernel_rfl)) (fun _ _ _ h => h) (Or.inl ⟨by rfl, ?_⟩) ?_ ?_
                            rotate_left; (· intro w'; go_simp; with_reducible rfl); rotate_left; (· simp only [Act.put, sA, sB, sC, i64_w, i32_w]; rfl)
                            refine pure_ (i := 4) (N := some 176) (v := ?_) (a' := ?_) mk28_5 rfl rfl (any_of HT_.out (by kernel_rfl)) (fun _ _ _ h => h) (Or.inl ⟨by rfl, ?_⟩) ?_ ?_
                            rotate_left; (· intro w'; go_simp; with_reducible rfl); rotate_left; (· simp only [Act.put, sA, sB, sC, i64_w, i32_w]; rfl)
                            refine pure_ (i := 5) (N := some 177) (v := ?_) (a' := ?_) mk28_6 rfl rfl (any_of HT_.out (by kernel_rfl)) (fun _ _ _ h => h) (Or.inl ⟨by rfl, ?_⟩) ?_ ?_
                            rotate_left; (· intro w'; go_simp; with_reducible rfl); rotate_left; (· simp only [Act.put, sA, sB, sC, i64_w, i32_w]; rfl)
                            refine pure_ (i := 6) (N := some 178) (v := ?_) (a' := ?_) mk28_7 rfl rfl (any_of HT_.out (by kernel_rfl)) (fun _ _ _ h => h) (Or.inl ⟨by rfl, ?_⟩) ?_ ?_
                            rotate_left; (· intro w'; go_simp; with_reducible rfl); rotate_left; (· simp only [Act.put, sA, sB, sC, i64_w, i32_w]; rfl)
                            refine pure_ (i := 7) (N := some 179) (v := ?_) (a' := ?_) mk28_8 rfl rfl (any_of HT_.out (by kernel_rfl)) (fun _ _ _ h => h) (Or.inl ⟨by rfl, ?_⟩) ?_ ?_
                            rotate_left; (· intro w'; go_simp; with_reducible rfl); rotate_left; (· simp only [Act.put, sA, sB, sC, i64_w, i32_w]; rfl)
                            refine take_ (i := 8) (N := some 180) (v := ?_) (a' := ?_) mk28_9 rfl rfl (take_ofW HT_.out HW_.out (by kernel_rfl)) (fun _ _ _ h => h) (Or.inl ⟨by rfl, ?_⟩) hHeld ?_ ?_
                            rotate_left
                            · intro w' hb'
                              have hb' : Below wc4.heap.size wc4 w' := hb'
                              have z0 := cell_below hb' x0
                              go_simp
                              with_reducible rfl
                            rotate_left
                            · simp only [Act.put, sA, sB, sC, i64_w, i32_w]
                              rfl
                            refine pure_ (i := 9) (N := some 181) (v := ?_) (a' := ?_) mk28_10 rfl rfl (any_of HT_.out (by kernel_rfl)) (fun _ _ _ h => h) (Or.inl ⟨by rfl, ?_⟩) ?_ ?_
                            rotate_left; (· intro w'; go_simp; with_reducible rfl); rotate_left; (· simp only [Act.put, sA, sB, sC, i64_w, i32_w]; rfl)
                            refine pure_ (i := 10) (N := some 182) (v := ?_) (a' := ?_) mk28_11 rfl rfl (any_of HT_.out (by kernel_rfl)) (fun _ _ _ h => h) (Or.inl ⟨by rfl, ?_⟩) ?_ ?_
                            rotate_left; (· intro w'; go_simp; with_reducible rfl); rotate_left; (· simp only [Act.put, sA, sB, sC, i64_w, i32_w]; rfl)
                            refine pure_ (i := 11) (N := some 183) (v := ?_) (a' := ?_) mk28_12 rfl rfl (any_of HT_.out (by kernel_rfl)) (fun _ _ _ h => h) (Or.inl ⟨by rfl, ?_⟩) ?_ ?_
                            rotate_left; (· intro w'; go_simp; with_reducible rfl); rotate_left; (· simp only [Act.put, sA, sB, sC, i64_w, i32_w]; rfl)
                            refine take_ (i := 12) (N := some 184) (v := ?_) (a' := ?_) mk28_13 rfl rfl (take_ofW HT_.out HW_.out (by kernel_rfl)) (fun _ _ _ h => h) (Or.inl ⟨by rfl, ?_⟩) hHeld ?_ ?_
                            rotate_left
                            · intro w' hb'
                              have hb' : Below wc4.heap.size wc4 w' := hb'
                              have z0 := cell_below hb' x1
                              go_simp
                              with_reducible rfl
                            rotate_left
                            · simp only [Act.put, sA, sB, sC, i64_w, i32_w]
                              rfl
                            refine take_ (i := 13) (N := some 185) (v := ?_) (a' := ?_) mk28_14 rfl rfl (take_ofW HT_.out HW_.out (by kernel_rfl)) (fun _ _ _ h => h) (Or.inl ⟨by rfl, ?_⟩) hHeld ?_ ?_
                            rotate_left
                            · intro w' hb'
                              have hb' : Below wc4.heap.size wc4 w' := hb'
                              have z0 := cell_below hb' lx0
                              have z1 := cell_below hb' lx1
                              go_simp
                              with_reducible rfl
                            rotate_left
                            · simp only [Act.put, sA, sB, sC, i64_w, i32_w]
                              rfl
                            refine one_ (i := 14) (N := some 186) mk28_15 rfl rfl (one_of HT_.out (by kernel_rfl)) (by decide) (fun K hK => ?_)
                            refine goes_ Try.func36 (by kernel_rfl) rfl #[.agg #[.string a3_0, .slice A3_1 l3_1.length c3_1]] (by rfl) rfl rfl (by (try simp only [List.map_toArray, List.map_cons, List.map_nil]); first | done | rfl) ?_
                            with_reducible refine (CB.out _ (below_step B0.out (below_step HBc4.out hHeld))).mono ?_
                            rintro e' w6 ⟨v6, rfl, hr6, hb6⟩
                            refine ⟨_, rfl, ?_⟩
                            obtain ⟨A6, c6, hv6⟩ := Kd.R_slice hr6
                            subst hv6
                            have HB6 := Aside0.mk (below_join hb6 hHeld)
                            have R6 := Aside0.mk hr6
                            clear hr6 hb6
                            refine hK.out _ _ HB6.out (fun hHeld => ?_)
                            clear hK K
                            refine norm_ (a' := ?_) ?_ ?_
                            rotate_left
                            · show Act.put _ (some 186) _ = _
                              simp only [Act.put, sA, sB, sC, i64_w, i32_w]
                              rfl
                            refine one_ (i := 15) (N := some 187) mk28_16 rfl rfl (one_of HT_.out (by kernel_rfl)) (by decide) (fun K hK => ?_)
                            refine goes_ Try.func21 (by kernel_rfl) rfl #[.slice AA4 r4.length cc4, .slice A6 B.length c6] (by rfl) rfl rfl (by (try simp only [List.map_toArray, List.map_cons, List.map_nil]); first | done | rfl) ?_
                            with_reducible refine (serinetteref01_Same.calls k AA4 cc4 r4 A6 c6 B true _ (Kd.C_below Cc4.out HB6.out) Lb4.out (Kd.R_reads' R6.out).2.2 (Kd.R_reads' R6.out).2.1 HSM.out).mono ?_
                            rintro e' w7 ⟨rfl, ⟨m7, rfl⟩⟩
                            refine ⟨_, rfl, ?_⟩
                            refine hK.out _ _ (below_join (pw_below_drewN (Below.refl _ _) m7) HB6.out) (fun hHeld => ?_)
                            clear hK K
                            refine norm_ (a' := ?_) ?_ ?_
                            rotate_left
                            · show Act.put _ (some 187) _ = _
                              simp only [Act.put, sA, sB, sC, i64_w, i32_w]
                              rfl
                            refine pure_ (i := 16) (N := some 188) (v := ?_) (a' := ?_) mk28_17 rfl rfl (any_of HT_.out (by kernel_rfl)) (fun _ _ _ h => h) (Or.inl ⟨by rfl, ?_⟩) ?_ ?_
                            rotate_left; (· intro w'; go_simp; with_reducible rfl); rotate_left; (· simp only [Act.put, sA, sB, sC, i64_w, i32_w]; rfl)
                            refine pure_ (i := 17) (N := some 189) (v := ?_) (a' := ?_) mk28_18 rfl rfl (any_of HT_.out (by kernel_rfl)) (fun _ _ _ h => h) (Or.inl ⟨by rfl, ?_⟩) ?_ ?_
                            rotate_left; (· intro w'; go_simp; with_reducible rfl); rotate_left; (· simp only [Act.put, sA, sB, sC, i64_w, i32_w]; rfl)
                            refine pure_ (i := 18) (N := some 190) (v := ?_) (a' := ?_) mk28_19 rfl rfl (any_of HT_.out (by kernel_rfl)) (fun _ _ _ h => h) (Or.inl ⟨by rfl, ?_⟩) ?_ ?_
                            rotate_left; (· intro w'; go_simp; with_reducible rfl); rotate_left; (· simp only [Act.put, sA, sB, sC, i64_w, i32_w]; rfl)
                            refine pure_ (i := 19) (N := some 191) (v := ?_) (a' := ?_) mk28_20 rfl rfl (any_of HT_.out (by kernel_rfl)) (fun _ _ _ h => h) (Or.inl ⟨by rfl, ?_⟩) ?_ ?_
                            rotate_left; (· intro w'; go_simp; with_reducible rfl); rotate_left; (· simp only [Act.put, sA, sB, sC, i64_w, i32_w]; rfl)
                            refine pure_ (i := 20) (N := some 192) (v := ?_) (a' := ?_) mk28_21 rfl rfl (any_of HT_.out (by kernel_rfl)) (fun _ _ _ h => h) (Or.inl ⟨by rfl, ?_⟩) ?_ ?_
                            rotate_left; (· intro w'; go_simp; with_reducible rfl); rotate_left; (· simp only [Act.put, sA, sB, sC, i64_w, i32_w]; rfl)
                            refine pure_ (i := 21) (N := some 193) (v := ?_) (a' := ?_) mk28_22 rfl rfl (any_of HT_.out (by kernel_rfl)) (fun _ _ _ h => h) (Or.inl ⟨by rfl, ?_⟩) ?_ ?_
                            rotate_left; (· intro w'; go_simp; with_reducible rfl); rotate_left; (· simp only [Act.put, sA, sB, sC, i64_w, i32_w]; rfl)
                            refine pure_ (i := 22) (N := some 194) (v := ?_) (a' := ?_) mk28_23 rfl rfl (any_of HT_.out (by kernel_rfl)) (fun _ _ _ h => h) (Or.inl ⟨by rfl, ?_⟩) ?_ ?_
                            rotate_left; (· intro w'; go_simp; with_reducible rfl); rotate_left; (· simp only [Act.put, sA, sB, sC, i64_w, i32_w]; rfl)
                            refine pure_ (i := 23) (N := some 195) (v := ?_) (a' := ?_) mk28_24 rfl rfl (any_of HT_.out (by kernel_rfl)) (fun _ _ _ h => h) (Or.inl ⟨by rfl, ?_⟩) ?_ ?_
                            rotate_left; (· intro w'; go_simp; with_reducible rfl); rotate_left; (· simp only [Act.put, sA, sB, sC, i64_w, i32_w]; rfl)
                            refine pure_ (i := 24) (N := some 196) (v := undef) (a' := ?_) mk28_25 rfl rfl (any_of HT_.out (by kernel_rfl)) (fun _ _ _ h => h) (Or.inr ⟨by rfl, rfl⟩) ?_ ?_
                            rotate_left; (· simp only [Act.put, sA, sB, sC, i64_w, i32_w]; rfl)
                            refine pure_ (i := 25) (N := some 197) (v := undef) (a' := ?_) mk28_26 rfl rfl (any_of HT_.out (by kernel_rfl)) (fun _ _ _ h => h) (Or.inr ⟨by rfl, rfl⟩) ?_ ?_
                            rotate_left; (· simp only [Act.put, sA, sB, sC, i64_w, i32_w]; rfl)
                            refine pure_ (i := 26) (N := some 198) (v := ?_) (a' := ?_) mk28_27 rfl rfl (any_of HT_.out (by kernel_rfl)) (fun _ _ _ h => h) (Or.inl ⟨by rfl, ?_⟩) ?_ ?_
                            rotate_left; (· intro w'; go_simp; with_reducible rfl); rotate_left; (· simp only [Act.put, sA, sB, sC, i64_w, i32_w]; rfl)
                            refine pure_ (i := 27) (N := some 199) (v := ?_) (a' := ?_) mk28_28 rfl rfl (any_of HT_.out (by kernel_rfl)) (fun _ _ _ h => h) (Or.inl ⟨by rfl, ?_⟩) ?_ ?_
                            rotate_left; (· intro w'; go_simp; with_reducible rfl); rotate_left; (· simp only [Act.put, sA, sB, sC, i64_w, i32_w]; rfl)
                            refine done_ (done_of HT_.out (by kernel_rfl)) ?_
                            try go_wp2
                            have HE := Aside0.mk (below_step HBc4.out hHeld)
                            go_meet
                            case rel => exact ⟨rfl, HE⟩
                      case rest =>
                        as_aux_lemma =>
                          obtain ⟨rfl, HQ_4⟩ := hcut
                          go_upto_region 21 with fail
                          have lx0 := (blk_cell (blk_below K3.out HQ_4.out) 0).trans (show _ = some (Value.int .i64 a4_0) from rfl)
                          have lx1 := (blk_cell (blk_below K3.out HQ_4.out) 1).trans (show _ = some (Value.slice A4_1 l4_1.length c4_1) from rfl)
                          go_upto_region 22 with (first | (go_at_call 37; (with_reducible refine (meta_Other.calls k a4_0 A4_1 c4_1 l4_1 n5 r5 f5 _ (Kd.C_below HR4.out (below_step B0.out HQ_4.out)) HC4.out HO1.out).mono ?_); rintro e' wa5 ⟨va, rfl, hr, hb⟩; obtain ⟨AA5, cc5, hv⟩ := Kd.R_slice hr; subst hv; have Ra5 := Aside0.mk hr; have HBa5 := Aside0.mk (below_step HQ_4.out hb); clear hr hb lx0 lx1))
                          have Pb5 := Aside0.mk (blk_new wa5 (.cells #[.int .i64 n5, .slice AA5 r5.length cc5] 24))
                          have Cb5 := Aside0.mk (Kd.C_alloc (Kd.R_reads' Ra5.out).2.2 (.cells #[.int .i64 n5, .slice AA5 r5.length cc5] 24))
                          have Lb5 := Aside0.mk (Kd.R_reads' Ra5.out).2.1
                          have HBb5 := Aside0.mk (below_alloc HBa5.out (.cells #[.int .i64 n5, .slice AA5 r5.length cc5] 24))
                          generalize wa5.alloc (.cells #[.int .i64 n5, .slice AA5 r5.length cc5] 24) = wb5 at *
                          have lx0 := (blk_cell (blk_below K3.out HBb5.out) 0).trans (show _ = some (Value.int .i64 a4_0) from rfl)
                          have lx1 := (blk_cell (blk_below K3.out HBb5.out) 1).trans (show _ = some (Value.slice A4_1 l4_1.length c4_1) from rfl)
                          go_upto_region 23 with (first | (go_at_call 38; (with_reducible refine (serinetteref18_Odd.calls k a4_0 A4_1 c4_1 l4_1 e5 _ (Kd.C_below HR4.out (below_step B0.out HBb5.out)) HC4.out HO2.out).mono ?_); rintro e' wc5 ⟨rfl, hb⟩; have HBc5 := Aside0.mk (below_step HBb5.out hb); have Pc5 := Aside0.mk (blk_below Pb5.out hb); have Cc5 := Aside0.mk (Kd.C_below Cb5.out hb); clear hb lx0 lx1))
                          have x0 : wc5.cell? ⟨wa5.heap.size, 0, none⟩ = some (.int .i64 n5) := (blk_cell Pc5.out 0).trans rfl
                          have x1 : wc5.cell? ⟨wa5.heap.size, 1, none⟩ = some (.slice AA5 r5.length cc5) := (blk_cell Pc5.out 1).trans rfl
                          have lx0 := (blk_cell (blk_below K3.out HBc5.out) 0).trans (show _ = some (Value.int .i64 a4_0) from rfl)
                          have lx1 := (blk_cell (blk_below K3.out HBc5.out) 1).trans (show _ = some (Value.slice A4_1 l4_1.length c4_1) from rfl)
                          obtain ⟨t51, t52⟩ := T5.out
                          have t53 : f5 = e5 := t51
                          have HT5 := Aside0.mk t52
                          clear t51 t52
                          subst t53
                          by_cases he : f5 = 0
                          · have hn : n5 = a4_0 := (HT5.out he).1
                            have HSM : Aside0 (serinetteref01_Same.f k r5 l4_1 = some true) := ⟨(HT5.out he).2⟩
                            clear HO1 HO2 HT5 T5
                            subst he
                            subst hn
                            go_wp2_with (first | (go_at_call 21; (with_reducible refine (serinetteref01_Same.calls k AA5 cc5 r5 A4_1 c4_1 l4_1 true _ Cc5.out Lb5.out (Kd.C_below HR4.out (below_step B0.out HBc5.out)) HC4.out HSM.out).mono ?_); rintro e' w7 ⟨rfl, ⟨m7, rfl⟩⟩))
                            go_ret
                            exact ⟨rfl, below_join (pw_below_drewN (Below.refl _ _) m7) (below_step B0.out HBc5.out)⟩
                          · have h1 : (f5 == 0) = false := beq_eq_false_iff_ne.mpr he
                            have h2 : (f5 != 0) = true := by simp [he]
                            have h3 : decide (f5 = 0) = false := decide_eq_false he
                            go_wp2_with fail
                            go_ret
                            exact ⟨rfl, below_step B0.out HBc5.out⟩
end Go.Proofs.Ytpeejdmbnlhjmaa.PMetaWrites
