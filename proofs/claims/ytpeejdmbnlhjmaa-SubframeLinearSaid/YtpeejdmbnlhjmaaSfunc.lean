/- Whether any number of a row is too wide, or too far (slices.ContainsFunc by subframe.wide, cost.far), with the proofs that the program's calls come to it. For any row. -/
import Derived.Test.YtpeejdmbnlhjmaaProg
import Derived.Below
import Derived.Deep.Draws
import Derived.Deep.AppendLies
import Derived.Maps.AppendAt
import Derived.OwnWalk
import Derived.Laws.BytesArg
import Derived.Laws.MakeOwn
import Derived.Laws.OwnMore
import Derived.Deep.OwnRows
import Derived.Tactics
import Derived.Lib.ConvBytes
import Derived.Laws.Slices
import Derived.WalkKit
import Derived.KernelRfl
import Derived.RowKit3
import Derived.Deep.LoopGhost
import Derived.Deep.QuietTactic
import Derived.BigQuiet
import Derived.WideLaws
import Derived.Deep.DeepCutAuto
import Derived.Deep.CutBlock
import Derived.Deep.RegionHeld3
import Derived.Laws.Rows
import Derived.Lib.AppendStr
import Derived.ArgAppend
import Derived.Laws.IdiomCopy
import Derived.OrdersHeld
import Derived.Laws.BitsLemmas
import Derived.RowKit
import Derived.Test.YtpeejdmbnlhjmaaWWords
import Derived.Test.YtpeejdmbnlhjmaaWLast
import Derived.Test.YtpeejdmbnlhjmaaWTab
import Derived.Test.YtpeejdmbnlhjmaaWFour
import Derived.Test.YtpeejdmbnlhjmaaWQPut
import Derived.Test.YtpeejdmbnlhjmaaWApart
import Derived.Test.YtpeejdmbnlhjmaaWArr
import Derived.Test.YtpeejdmbnlhjmaaWZeros
import Derived.Test.YtpeejdmbnlhjmaaWFoot
import Derived.Test.YtpeejdmbnlhjmaaWKept
import Derived.Test.YtpeejdmbnlhjmaaWShare
import Derived.Test.YtpeejdmbnlhjmaaWN
import Derived.Test.YtpeejdmbnlhjmaaWFootNe
import Derived.Test.YtpeejdmbnlhjmaaWAt
import Derived.Test.YtpeejdmbnlhjmaaWEqStruct
import Derived.Test.YtpeejdmbnlhjmaaWRepsOne
import Derived.Test.YtpeejdmbnlhjmaaWInv
import Derived.Test.YtpeejdmbnlhjmaaWInvWords
import Derived.Test.YtpeejdmbnlhjmaaWGuard
import Derived.Test.YtpeejdmbnlhjmaaWNEv
import Derived.Test.YtpeejdmbnlhjmaaWMore
import Derived.Test.YtpeejdmbnlhjmaaSclone
namespace Go.Proofs.Ytpeejdmbnlhjmaa.H
open Go.RowKit Go.Proofs.YtpeejdmbnlhjmaaW.PrintWords Go.Proofs.YtpeejdmbnlhjmaaW.PrintLast Go.Proofs.YtpeejdmbnlhjmaaW.PrintMore
attribute [local go_sem] max2_int min2_int max_two min_two max_three min_three max_four min_four   -- for this text's walks alone
set_option linter.unusedVariables false
set_option linter.unusedSimpArgs false
def wideP (x : Int) : Bool := decide (x ≤ -2147483648) || decide (x ≥ 2147483648)
def nearP (x : Int) : Bool := decide (x ≥ -8589934592) && decide (x < 8589934592)
def farP (x : Int) : Bool := !nearP x
theorem rd_at (xs : List Int) (i : Nat) (h : i < xs.length) : rd xs (i : Int) = xs[i] := by
  unfold rd
  simp [List.getD_eq_getElem?_getD, List.getElem?_eq_getElem h]
set_option maxHeartbeats 8000000 in
theorem wide_calls (x : Int) (w : World) : Calls Try.prog 128 #[.int .i64 x] w fun e w' => e = .returned (.bool (wideP x)) ∧ w' = w := by
  unfold wideP
  by_cases c1 : x ≤ -2147483648
  · have d1 := decide_eq_true c1
    go_enter Try.func128, Try.ntmps128
    go_wp2
    go_ret
    exact ⟨by first | rfl | (rw [d1]; rfl), rfl⟩
  · have d1 := decide_eq_false c1
    go_enter Try.func128, Try.ntmps128
    go_wp2
    go_ret
    exact ⟨by first | rfl | (rw [d1]; rfl), rfl⟩
set_option maxHeartbeats 8000000 in
theorem near_calls (x : Int) (w : World) : Calls Try.prog 171 #[.int .i64 x] w fun e w' => e = .returned (.bool (nearP x)) ∧ w' = w := by
  unfold nearP
  by_cases c1 : x ≥ -8589934592
  · have d1 := decide_eq_true c1
    have d2 : decide (-8589934592 ≤ x) = true := d1
    go_enter Try.func171, Try.ntmps171
    go_wp2
    go_ret
    exact ⟨by first | rfl | (rw [d1]; rfl), rfl⟩
  · have d1 := decide_eq_false c1
    have d2 : decide (-8589934592 ≤ x) = false := d1
    go_enter Try.func171, Try.ntmps171
    go_wp2
    go_ret
    exact ⟨by first | rfl | (rw [d1]; rfl), rfl⟩
set_option maxHeartbeats 8000000 in
theorem far_calls (x : Int) (w : World) : Calls Try.prog 188 #[.int .i64 x] w fun e w' => e = .returned (.bool (farP x)) ∧ w' = w := by
  go_enter Try.func188, Try.ntmps188
  go_wp2_with (first | (go_at_call 171; (with_reducible refine (near_calls _ _).mono ?_); rintro e w1 ⟨rfl, rfl⟩))
  go_ret
  exact ⟨rfl, rfl⟩
/-- Where the first number of a kind stands; below 0: nowhere. -/
def firstAt (p : Int → Bool) : List Int → Int → Int
  | [], _ => -1
  | x :: l, i => if p x = true then i else firstAt p l (i + 1)
theorem firstAt_any (p : Int → Bool) : ∀ (l : List Int) (i : Int), 0 ≤ i → (decide (firstAt p l i ≥ 0) = l.any p ∧ -1 ≤ firstAt p l i)
  | [], _, _ => ⟨rfl, Int.le_refl _⟩
  | x :: l, i, h => by
    unfold firstAt
    rw [List.any_cons]
    by_cases c : p x = true
    · rw [if_pos c, c]
      exact ⟨by rw [decide_eq_true h]; rfl, by omega⟩
    · rw [if_neg c, Bool.eq_false_iff.mpr c]
      exact firstAt_any p l (i + 1) (by omega)
theorem first_step (p : Int → Bool) {l : List Int} {k : Nat} (h : k < l.length) : firstAt p (l.drop k) k = if p l[k] = true then (k : Int) else firstAt p (l.drop (k + 1)) ((k + 1 : Nat) : Int) := by
  rw [List.drop_eq_getElem_cons h]
  rfl
set_option maxHeartbeats 8000000 in
set_option maxRecDepth 100000 in
theorem index_wide (w : World) (A : Option Addr) (l : List Int) (cap : Nat) (hr : Kd.C (Kd.int .i64) w A l.length l) (hm : l.length ≤ 9223372036854775806) :
    Calls Try.prog 164 #[.slice A l.length cap, .func (.func 128) #[] #[]] w fun e w' => e = .returned (.int .i64 (firstAt wideP l 0)) ∧ w' = w := by
  have HR := Aside0.mk hr
  clear hr
  go_enter Try.func164, Try.ntmps164
  go_wp2
  go_loop [8] (fun i => ∃ k : Nat, k ≤ l.length ∧ i = .int .i64 k ∧ Aside0 (firstAt wideP l 0 = firstAt wideP (l.drop k) k)) (fun i => l.length - (intOf i).toNat)
  case atStart => exact ⟨0, Nat.zero_le _, rfl, ⟨rfl⟩⟩
  case round =>
    obtain ⟨k, hk, rfl, hq⟩ := hrel
    by_cases hlt : k < l.length
    · have c1 : decide ((k : Int) < (l.length : Int)) = true := decide_eq_true (by omega)
      have c2 : decide (k < l.length) = true := decide_eq_true (by omega)
      obtain ⟨ad, e1, hx⟩ := Kd.at_int HR.out (k : Int) (by omega) (by omega)
      cases e1
      rw [rd_at l k hlt, Int.toNat_natCast] at hx
      have hs := Aside0.mk (first_step wideP hlt)
      generalize l[k] = x at hx hs
      by_cases hp : wideP x = true
      · have hz := Aside0.mk (hq.out.trans (hs.out.trans (if_pos hp)))
        clear hs hq
        go_wp2_with (first | (go_at_call 128; (with_reducible refine (wide_calls _ _).mono ?_); rintro e w' ⟨rfl, rfl⟩))
        go_ret
        exact ⟨by rw [hz.out]; rfl, rfl⟩
      · have hz := Aside0.mk (hq.out.trans (hs.out.trans (if_neg hp)))
        replace hp := Bool.eq_false_iff.mpr hp
        clear hs hq
        go_wp2_with (first | (go_at_call 128; (with_reducible refine (wide_calls _ _).mono ?_); rintro e w' ⟨rfl, rfl⟩))
        go_round
        case rel => exact ⟨k + 1, by omega, by go_num, hz⟩
        case measure => simp [intOf]; omega
    · obtain rfl : k = l.length := by omega
      have c1 : decide ((l.length : Int) < (l.length : Int)) = false := decide_eq_false (by omega)
      have c2 : decide (l.length < l.length) = false := decide_eq_false (by omega)
      have hz := Aside0.mk (show firstAt wideP l 0 = -1 by rw [hq.out, List.drop_length]; rfl)
      clear hq
      go_wp2
      go_ret
      exact ⟨by rw [hz.out]; rfl, rfl⟩
set_option maxHeartbeats 8000000 in
theorem contains_wide (w : World) (A : Option Addr) (l : List Int) (cap : Nat) (hr : Kd.C (Kd.int .i64) w A l.length l) (hm : l.length ≤ 9223372036854775806) :
    Calls Try.prog 127 #[.slice A l.length cap, .func (.func 128) #[] #[]] w fun e w' => e = .returned (.bool (l.any wideP)) ∧ w' = w := by
  have HR := Aside0.mk hr
  have hf := firstAt_any wideP l 0 (by omega)
  have hf1 := Aside0.mk hf.1
  clear hr hf
  go_enter Try.func127, Try.ntmps127
  go_wp2_with (first | (go_at_call 164; (with_reducible refine (index_wide _ _ l _ HR.out hm).mono ?_); rintro e w1 ⟨rfl, rfl⟩))
  go_ret
  exact ⟨by rw [← hf1.out]; rfl, rfl⟩
set_option maxHeartbeats 8000000 in
set_option maxRecDepth 100000 in
theorem index_far (w : World) (A : Option Addr) (l : List Int) (cap : Nat) (hr : Kd.C (Kd.int .i64) w A l.length l) (hm : l.length ≤ 9223372036854775806) :
    Calls Try.prog 164 #[.slice A l.length cap, .func (.func 188) #[] #[]] w fun e w' => e = .returned (.int .i64 (firstAt farP l 0)) ∧ w' = w := by
  have HR := Aside0.mk hr
  clear hr
  go_enter Try.func164, Try.ntmps164
  go_wp2
  go_loop [8] (fun i => ∃ k : Nat, k ≤ l.length ∧ i = .int .i64 k ∧ Aside0 (firstAt farP l 0 = firstAt farP (l.drop k) k)) (fun i => l.length - (intOf i).toNat)
  case atStart => exact ⟨0, Nat.zero_le _, rfl, ⟨rfl⟩⟩
  case round =>
    obtain ⟨k, hk, rfl, hq⟩ := hrel
    by_cases hlt : k < l.length
    · have c1 : decide ((k : Int) < (l.length : Int)) = true := decide_eq_true (by omega)
      have c2 : decide (k < l.length) = true := decide_eq_true (by omega)
      obtain ⟨ad, e1, hx⟩ := Kd.at_int HR.out (k : Int) (by omega) (by omega)
      cases e1
      rw [rd_at l k hlt, Int.toNat_natCast] at hx
      have hs := Aside0.mk (first_step farP hlt)
      generalize l[k] = x at hx hs
      by_cases hp : farP x = true
      · have hz := Aside0.mk (hq.out.trans (hs.out.trans (if_pos hp)))
        clear hs hq
        go_wp2_with (first | (go_at_call 188; (with_reducible refine (far_calls _ _).mono ?_); rintro e w' ⟨rfl, rfl⟩))
        go_ret
        exact ⟨by rw [hz.out]; rfl, rfl⟩
      · have hz := Aside0.mk (hq.out.trans (hs.out.trans (if_neg hp)))
        replace hp := Bool.eq_false_iff.mpr hp
        clear hs hq
        go_wp2_with (first | (go_at_call 188; (with_reducible refine (far_calls _ _).mono ?_); rintro e w' ⟨rfl, rfl⟩))
        go_round
        case rel => exact ⟨k + 1, by omega, by go_num, hz⟩
        case measure => simp [intOf]; omega
    · obtain rfl : k = l.length := by omega
      have c1 : decide ((l.length : Int) < (l.length : Int)) = false := decide_eq_false (by omega)
      have c2 : decide (l.length < l.length) = false := decide_eq_false (by omega)
      have hz := Aside0.mk (show firstAt farP l 0 = -1 by rw [hq.out, List.drop_length]; rfl)
      clear hq
      go_wp2
      go_ret
      exact ⟨by rw [hz.out]; rfl, rfl⟩
set_option maxHeartbeats 8000000 in
theorem contains_far (w : World) (A : Option Addr) (l : List Int) (cap : Nat) (hr : Kd.C (Kd.int .i64) w A l.length l) (hm : l.length ≤ 9223372036854775806) :
    Calls Try.prog 127 #[.slice A l.length cap, .func (.func 188) #[] #[]] w fun e w' => e = .returned (.bool (l.any farP)) ∧ w' = w := by
  have HR := Aside0.mk hr
  have hf := firstAt_any farP l 0 (by omega)
  have hf1 := Aside0.mk hf.1
  clear hr hf
  go_enter Try.func127, Try.ntmps127
  go_wp2_with (first | (go_at_call 164; (with_reducible refine (index_far _ _ l _ HR.out hm).mono ?_); rintro e w1 ⟨rfl, rfl⟩))
  go_ret
  exact ⟨by rw [← hf1.out]; rfl, rfl⟩
/-- By the test's number in the program (what the print is told in the function's place). -/
def slices_ContainsFunc_int_int.f (l0 : List Int) (a1 : Int) : Option Bool := if l0.length ≤ 9223372036854775806 then (if a1 = 1 then some (l0.any wideP) else if a1 = 2 then some (l0.any farP) else none) else none
theorem slices_ContainsFunc_int_int.calls1 (A0 : Option Addr) (c0 : Nat) (l0 : List Int) (a1 : Int) (r : Bool) (w : World) (hr0 : Kd.C (Kd.int .i64) w A0 l0.length l0) (hc0 : l0.length ≤ c0) (h : slices_ContainsFunc_int_int.f l0 1 = some r) :
    Calls Try.prog 127 #[.slice A0 l0.length c0, .func (.func 128) #[] #[]] w fun e w' => e = .returned (.bool r) ∧ Below w.heap.size w w' := by
  unfold slices_ContainsFunc_int_int.f at h
  split at h
  case isFalse => cases h
  rename_i hm
  rw [if_pos rfl] at h
  cases h
  exact (contains_wide w A0 l0 c0 hr0 hm).mono fun e w' ⟨h1, h2⟩ => ⟨h1, by rw [h2]; exact Below.refl _ _⟩
theorem slices_ContainsFunc_int_int.calls2 (A0 : Option Addr) (c0 : Nat) (l0 : List Int) (a1 : Int) (r : Bool) (w : World) (hr0 : Kd.C (Kd.int .i64) w A0 l0.length l0) (hc0 : l0.length ≤ c0) (h : slices_ContainsFunc_int_int.f l0 2 = some r) :
    Calls Try.prog 127 #[.slice A0 l0.length c0, .func (.func 188) #[] #[]] w fun e w' => e = .returned (.bool r) ∧ Below w.heap.size w w' := by
  unfold slices_ContainsFunc_int_int.f at h
  split at h
  case isFalse => cases h
  rename_i hm
  rw [if_neg (by decide), if_pos rfl] at h
  cases h
  exact (contains_far w A0 l0 c0 hr0 hm).mono fun e w' ⟨h1, h2⟩ => ⟨h1, by rw [h2]; exact Below.refl _ _⟩
end Go.Proofs.Ytpeejdmbnlhjmaa.H
