/- A copy of a row (slices.Clone, bytes.Clone), with the proofs that the program's calls come to it. For any row of up to 2^40 numbers. -/
import Derived.Test.YtpeejdmbnlhjmaaProg
import Derived.Below
import Derived.Deep.Draws
import Derived.Deep.AppendLies
import Derived.Maps.AppendAt
import Derived.OwnWalk
import Derived.Laws.BytesArg
import Derived.Laws.MakeOwn
import Derived.Laws.OwnMore
import Derived.Deep.OwnRows
import Derived.Tactics
import Derived.Lib.ConvBytes
import Derived.Laws.Slices
import Derived.WalkKit
import Derived.KernelRfl
import Derived.RowKit3
import Derived.Deep.LoopGhost
import Derived.Deep.QuietTactic
import Derived.BigQuiet
import Derived.WideLaws
import Derived.Deep.DeepCutAuto
import Derived.Deep.CutBlock
import Derived.Deep.RegionHeld3
import Derived.Laws.Rows
import Derived.Lib.AppendStr
import Derived.ArgAppend
import Derived.Laws.IdiomCopy
import Derived.OrdersHeld
import Derived.Laws.BitsLemmas
import Derived.RowKit
import Derived.Test.YtpeejdmbnlhjmaaWWords
import Derived.Test.YtpeejdmbnlhjmaaWLast
import Derived.Test.YtpeejdmbnlhjmaaWTab
import Derived.Test.YtpeejdmbnlhjmaaWFour
import Derived.Test.YtpeejdmbnlhjmaaWQPut
import Derived.Test.YtpeejdmbnlhjmaaWApart
import Derived.Test.YtpeejdmbnlhjmaaWArr
import Derived.Test.YtpeejdmbnlhjmaaWZeros
import Derived.Test.YtpeejdmbnlhjmaaWFoot
import Derived.Test.YtpeejdmbnlhjmaaWKept
import Derived.Test.YtpeejdmbnlhjmaaWShare
import Derived.Test.YtpeejdmbnlhjmaaWN
import Derived.Test.YtpeejdmbnlhjmaaWFootNe
import Derived.Test.YtpeejdmbnlhjmaaWAt
import Derived.Test.YtpeejdmbnlhjmaaWEqStruct
import Derived.Test.YtpeejdmbnlhjmaaWRepsOne
import Derived.Test.YtpeejdmbnlhjmaaWInv
import Derived.Test.YtpeejdmbnlhjmaaWInvWords
import Derived.Test.YtpeejdmbnlhjmaaWGuard
import Derived.Test.YtpeejdmbnlhjmaaWNEv
import Derived.Test.YtpeejdmbnlhjmaaWMore
import Derived.Outline
import Derived.WalkSpells
/- A copy of a row (slices.Clone, bytes.Clone), with the proofs that the program's calls come to it. For any row of up to 2^40 numbers. -/
namespace Go.Proofs.Ytpeejdmbnlhjmaa.H
open Go.RowKit Go.Proofs.YtpeejdmbnlhjmaaW.PrintWords Go.Proofs.YtpeejdmbnlhjmaaW.PrintLast Go.Proofs.YtpeejdmbnlhjmaaW.PrintMore
attribute [local go_sem] max2_int min2_int max_two min_two max_three min_three max_four min_four   -- for this text's walks alone
set_option linter.unusedVariables false
set_option linter.unusedSimpArgs false
theorem infoI : (Try.prog.info? 3).map (fun i => (i.zero, i.size, i.bytes)) = some (some (.int .i64 0), 1, 8) := by kernel_rfl
theorem infoB : (Try.prog.info? 5).map (fun i => (i.zero, i.size, i.bytes)) = some (some (.int .u8 0), 1, 1) := by kernel_rfl
theorem C_none {α : Type} {d : Kd α} {w : World} {l : List α} (h : d.C w none l.length l) : l = [] := by
  cases l with
  | nil => rfl
  | cons x l =>
    obtain ⟨ad, e, _⟩ := h.2.2 (by simp)
    cases e
def slices_Clone_int_int.f (l0 : List Int) : Option (List Int) := if l0.length ≤ 1000000000000 then some l0 else none
def bytes_Clone.f (l0 : List Int) : Option (List Int) := if l0.length ≤ 1000000000000 then some l0 else none
set_option maxHeartbeats 8000000 in
set_option maxRecDepth 100000 in
theorem slices_Clone_int_int.calls (A0 : Option Addr) (c0 : Nat) (l0 : List Int) (r : List Int) (w : World) (hr0 : Kd.C (Kd.int .i64) w A0 l0.length l0) (hc0 : l0.length ≤ c0) (h : slices_Clone_int_int.f l0 = some r) :
    Calls Try.prog 79 #[.slice A0 l0.length c0] w fun e w' => ∃ v0_ : Value, e = .returned (v0_) ∧ Kd.R (Kd.int .i64) 3 w' w.heap.size (fun _ => True) v0_ r ∧ Below w.heap.size w w' := by
  unfold slices_Clone_int_int.f at h
  split at h
  case isFalse => cases h
  rename_i hl
  cases h
  have HR := Aside0.mk hr0
  have HL := Aside0.mk hl
  clear hr0 hl
  cases A0 with
  | none =>
    have e : l0 = [] := C_none HR.out
    subst e
    have qn : ∀ (w : World) (a : Option Addr) (n c n' c' : Nat), (binOp .eql 78 (.slice a n c) (.slice none n' c')).run Try.prog w = .ok (.bool a.isNone) w := fun w a n c n' c' => Lib.run_eql_slice_nil w _ _ a n c n' c' Try.underlying78
    go_enter Try.func79, Try.ntmps79
    go_wp2
    go_ret
    exact ⟨_, rfl, Kd.R_nil _ _ _ _ _, Below.refl _ _⟩
  | some a =>
    have qn : ∀ (w : World) (a : Option Addr) (n c n' c' : Nat), (binOp .eql 78 (.slice a n c) (.slice none n' c')).run Try.prog w = .ok (.bool a.isNone) w := fun w a n c n' c' => Lib.run_eql_slice_nil w _ _ a n c n' c' Try.underlying78
    go_enter Try.func79, Try.ntmps79
    go_wp2_with (first
      | ((with_reducible refine gate_dst (N := 5) rfl ?_); refine Kd.R_lit (Kd.int .i64) (w0 := w) w.heap.size 3 ?hg (N := 5) ?hd (xs := ([] : List Int)) (inner := []) (ok := fun _ => True) (okp := fun _ => True) ?hr ?hp (fun _ hk => hk) trivial (Below.refl _ _) (Nat.le_refl _) (by simp) ?_; (case hd => rfl); (case hg => rfl); (case hr => first | (go_simp; done) | (go_simp; rfl)); (case hp => exact Reps.none _ _); intro v5 w4 ho hb4 hg_ hnew_; clear hg_ hnew_; have R4 := Aside0.mk ho; have HB4 := Aside0.mk hb4; clear ho hb4)
      | ((with_reducible refine gate_builtin (b := .append) (xs := #[.tmp 5, .tmp 6]) rfl ?_); at_builtin; refine Kd.R_append_rows (Kd.int .i64) (w0 := w) w.heap.size rfl (.tmp 5) (.tmp 6) 78 3 (.int .i64 0) 8 rfl Try.underlying78 infoI rfl (by decide) (by omega) _ [] l0 _ _ _ (fun _ => True) (fun _ => False) rfl rfl R4.out (Kd.C_below HR.out HB4.out) (fun _ _ h => h) (fun _ h => h.elim) (fun _ _ => trivial) HB4.out (below_size HB4.out) (by have := HL.out; simp only [List.length_nil]; omega) ?_; intro v7 w5 hr5 hb5 hg hat; clear hg hat; have R5 := Aside0.mk hr5; have HB5 := Aside0.mk hb5; clear hr5 hb5))
    go_ret
    refine ⟨_, rfl, ?_, HB5.out⟩
    have := R5.out
    rwa [List.nil_append] at this
set_option maxHeartbeats 8000000 in
set_option maxRecDepth 100000 in
theorem bytes_Clone.calls (A0 : Option Addr) (c0 : Nat) (l0 : List Int) (r : List Int) (w : World) (hr0 : Kd.C (Kd.int .u8) w A0 l0.length l0) (hc0 : l0.length ≤ c0) (h : bytes_Clone.f l0 = some r) :
    Calls Try.prog 62 #[.slice A0 l0.length c0] w fun e w' => ∃ v0_ : Value, e = .returned (v0_) ∧ Kd.R (Kd.int .u8) 5 w' w.heap.size (fun _ => True) v0_ r ∧ Below w.heap.size w w' := by
  unfold bytes_Clone.f at h
  split at h
  case isFalse => cases h
  rename_i hl
  cases h
  have HR := Aside0.mk hr0
  have HL := Aside0.mk hl
  clear hr0 hl
  cases A0 with
  | none =>
    have e : l0 = [] := C_none HR.out
    subst e
    have qn : ∀ (w : World) (a : Option Addr) (n c n' c' : Nat), (binOp .eql 22 (.slice a n c) (.slice none n' c')).run Try.prog w = .ok (.bool a.isNone) w := fun w a n c n' c' => Lib.run_eql_slice_nil w _ _ a n c n' c' Try.underlying22
    go_enter Try.func62, Try.ntmps62
    go_wp2
    go_ret
    exact ⟨_, rfl, Kd.R_nil _ _ _ _ _, Below.refl _ _⟩
  | some a =>
    have qn : ∀ (w : World) (a : Option Addr) (n c n' c' : Nat), (binOp .eql 22 (.slice a n c) (.slice none n' c')).run Try.prog w = .ok (.bool a.isNone) w := fun w a n c n' c' => Lib.run_eql_slice_nil w _ _ a n c n' c' Try.underlying22
    go_enter Try.func62, Try.ntmps62
    go_wp2_with (first
      | ((with_reducible refine gate_dst (N := 5) rfl ?_); refine Kd.R_lit (Kd.int .u8) (w0 := w) w.heap.size 5 ?hg (N := 5) ?hd (xs := ([] : List Int)) (inner := []) (ok := fun _ => True) (okp := fun _ => True) ?hr ?hp (fun _ hk => hk) trivial (Below.refl _ _) (Nat.le_refl _) (by simp) ?_; (case hd => rfl); (case hg => rfl); (case hr => first | (go_simp; done) | (go_simp; rfl)); (case hp => exact Reps.none _ _); intro v5 w4 ho hb4 hg_ hnew_; clear hg_ hnew_; have R4 := Aside0.mk ho; have HB4 := Aside0.mk hb4; clear ho hb4)
      | ((with_reducible refine gate_builtin (b := .append) (xs := #[.tmp 5, .tmp 6]) rfl ?_); at_builtin; refine Kd.R_append_rows (Kd.int .u8) (w0 := w) w.heap.size rfl (.tmp 5) (.tmp 6) 22 5 (.int .u8 0) 1 rfl Try.underlying22 infoB rfl (by decide) (by omega) _ [] l0 _ _ _ (fun _ => True) (fun _ => False) rfl rfl R4.out (Kd.C_below HR.out HB4.out) (fun _ _ h => h) (fun _ h => h.elim) (fun _ _ => trivial) HB4.out (below_size HB4.out) (by have := HL.out; simp only [List.length_nil]; omega) ?_; intro v7 w5 hr5 hb5 hg hat; clear hg hat; have R5 := Aside0.mk hr5; have HB5 := Aside0.mk hb5; clear hr5 hb5))
    go_ret
    refine ⟨_, rfl, ?_, HB5.out⟩
    have := R5.out
    rwa [List.nil_append] at this
end Go.Proofs.Ytpeejdmbnlhjmaa.H
/- Whether any number of a row is too wide, or too far (slices.ContainsFunc by subframe.wide, cost.far), with the proofs that the program's calls come to it. For any row. -/
namespace Go.Proofs.Ytpeejdmbnlhjmaa.H
open Go.RowKit Go.Proofs.YtpeejdmbnlhjmaaW.PrintWords Go.Proofs.YtpeejdmbnlhjmaaW.PrintLast Go.Proofs.YtpeejdmbnlhjmaaW.PrintMore
attribute [local go_sem] max2_int min2_int max_two min_two max_three min_three max_four min_four   -- for this text's walks alone
set_option linter.unusedVariables false
set_option linter.unusedSimpArgs false
def wideP (x : Int) : Bool := decide (x ≤ -2147483648) || decide (x ≥ 2147483648)
def nearP (x : Int) : Bool := decide (x ≥ -8589934592) && decide (x < 8589934592)
def farP (x : Int) : Bool := !nearP x
theorem rd_at (xs : List Int) (i : Nat) (h : i < xs.length) : rd xs (i : Int) = xs[i] := by
  unfold rd
  simp [List.getD_eq_getElem?_getD, List.getElem?_eq_getElem h]
set_option maxHeartbeats 8000000 in
theorem wide_calls (x : Int) (w : World) : Calls Try.prog 128 #[.int .i64 x] w fun e w' => e = .returned (.bool (wideP x)) ∧ w' = w := by
  unfold wideP
  by_cases c1 : x ≤ -2147483648
  · have d1 := decide_eq_true c1
    go_enter Try.func128, Try.ntmps128
    go_wp2
    go_ret
    exact ⟨by first | rfl | (rw [d1]; rfl), rfl⟩
  · have d1 := decide_eq_false c1
    go_enter Try.func128, Try.ntmps128
    go_wp2
    go_ret
    exact ⟨by first | rfl | (rw [d1]; rfl), rfl⟩
set_option maxHeartbeats 8000000 in
theorem near_calls (x : Int) (w : World) : Calls Try.prog 171 #[.int .i64 x] w fun e w' => e = .returned (.bool (nearP x)) ∧ w' = w := by
  unfold nearP
  by_cases c1 : x ≥ -8589934592
  · have d1 := decide_eq_true c1
    have d2 : decide (-8589934592 ≤ x) = true := d1
    go_enter Try.func171, Try.ntmps171
    go_wp2
    go_ret
    exact ⟨by first | rfl | (rw [d1]; rfl), rfl⟩
  · have d1 := decide_eq_false c1
    have d2 : decide (-8589934592 ≤ x) = false := d1
    go_enter Try.func171, Try.ntmps171
    go_wp2
    go_ret
    exact ⟨by first | rfl | (rw [d1]; rfl), rfl⟩
set_option maxHeartbeats 8000000 in
theorem far_calls (x : Int) (w : World) : Calls Try.prog 188 #[.int .i64 x] w fun e w' => e = .returned (.bool (farP x)) ∧ w' = w := by
  go_enter Try.func188, Try.ntmps188
  go_wp2_with (first | (go_at_call 171; (with_reducible refine (near_calls _ _).mono ?_); rintro e w1 ⟨rfl, rfl⟩))
  go_ret
  exact ⟨rfl, rfl⟩
/-- Where the first number of a kind stands; below 0: nowhere. -/
def firstAt (p : Int → Bool) : List Int → Int → Int
  | [], _ => -1
  | x :: l, i => if p x = true then i else firstAt p l (i + 1)
theorem firstAt_any (p : Int → Bool) : ∀ (l : List Int) (i : Int), 0 ≤ i → (decide (firstAt p l i ≥ 0) = l.any p ∧ -1 ≤ firstAt p l i)
  | [], _, _ => ⟨rfl, Int.le_refl _⟩
  | x :: l, i, h => by
    unfold firstAt
    rw [List.any_cons]
    by_cases c : p x = true
    · rw [if_pos c, c]
      exact ⟨by rw [decide_eq_true h]; rfl, by omega⟩
    · rw [if_neg c, Bool.eq_false_iff.mpr c]
      exact firstAt_any p l (i + 1) (by omega)
theorem first_step (p : Int → Bool) {l : List Int} {k : Nat} (h : k < l.length) : firstAt p (l.drop k) k = if p l[k] = true then (k : Int) else firstAt p (l.drop (k + 1)) ((k + 1 : Nat) : Int) := by
  rw [List.drop_eq_getElem_cons h]
  rfl
set_option maxHeartbeats 8000000 in
set_option maxRecDepth 100000 in
theorem index_wide (w : World) (A : Option Addr) (l : List Int) (cap : Nat) (hr : Kd.C (Kd.int .i64) w A l.length l) (hm : l.length ≤ 9223372036854775806) :
    Calls Try.prog 164 #[.slice A l.length cap, .func (.func 128) #[] #[]] w fun e w' => e = .returned (.int .i64 (firstAt wideP l 0)) ∧ w' = w := by
  have HR := Aside0.mk hr
  clear hr
  go_enter Try.func164, Try.ntmps164
  go_wp2
  go_loop [8] (fun i => ∃ k : Nat, k ≤ l.length ∧ i = .int .i64 k ∧ Aside0 (firstAt wideP l 0 = firstAt wideP (l.drop k) k)) (fun i => l.length - (intOf i).toNat)
  case atStart => exact ⟨0, Nat.zero_le _, rfl, ⟨rfl⟩⟩
  case round =>
    obtain ⟨k, hk, rfl, hq⟩ := hrel
    by_cases hlt : k < l.length
    · have c1 : decide ((k : Int) < (l.length : Int)) = true := decide_eq_true (by omega)
      have c2 : decide (k < l.length) = true := decide_eq_true (by omega)
      obtain ⟨ad, e1, hx⟩ := Kd.at_int HR.out (k : Int) (by omega) (by omega)
      cases e1
      rw [rd_at l k hlt, Int.toNat_natCast] at hx
      have hs := Aside0.mk (first_step wideP hlt)
      generalize l[k] = x at hx hs
      by_cases hp : wideP x = true
      · have hz := Aside0.mk (hq.out.trans (hs.out.trans (if_pos hp)))
        clear hs hq
        go_wp2_with (first | (go_at_call 128; (with_reducible refine (wide_calls _ _).mono ?_); rintro e w' ⟨rfl, rfl⟩))
        go_ret
        exact ⟨by rw [hz.out]; rfl, rfl⟩
      · have hz := Aside0.mk (hq.out.trans (hs.out.trans (if_neg hp)))
        replace hp := Bool.eq_false_iff.mpr hp
        clear hs hq
        go_wp2_with (first | (go_at_call 128; (with_reducible refine (wide_calls _ _).mono ?_); rintro e w' ⟨rfl, rfl⟩))
        go_round
        case rel => exact ⟨k + 1, by omega, by go_num, hz⟩
        case measure => simp [intOf]; omega
    · obtain rfl : k = l.length := by omega
      have c1 : decide ((l.length : Int) < (l.length : Int)) = false := decide_eq_false (by omega)
      have c2 : decide (l.length < l.length) = false := decide_eq_false (by omega)
      have hz := Aside0.mk (show firstAt wideP l 0 = -1 by rw [hq.out, List.drop_length]; rfl)
      clear hq
      go_wp2
      go_ret
      exact ⟨by rw [hz.out]; rfl, rfl⟩
set_option maxHeartbeats 8000000 in
theorem contains_wide (w : World) (A : Option Addr) (l : List Int) (cap : Nat) (hr : Kd.C (Kd.int .i64) w A l.length l) (hm : l.length ≤ 9223372036854775806) :
    Calls Try.prog 127 #[.slice A l.length cap, .func (.func 128) #[] #[]] w fun e w' => e = .returned (.bool (l.any wideP)) ∧ w' = w := by
  have HR := Aside0.mk hr
  have hf := firstAt_any wideP l 0 (by omega)
  have hf1 := Aside0.mk hf.1
  clear hr hf
  go_enter Try.func127, Try.ntmps127
  go_wp2_with (first | (go_at_call 164; (with_reducible refine (index_wide _ _ l _ HR.out hm).mono ?_); rintro e w1 ⟨rfl, rfl⟩))
  go_ret
  exact ⟨by rw [← hf1.out]; rfl, rfl⟩
set_option maxHeartbeats 8000000 in
set_option maxRecDepth 100000 in
theorem index_far (w : World) (A : Option Addr) (l : List Int) (cap : Nat) (hr : Kd.C (Kd.int .i64) w A l.length l) (hm : l.length ≤ 9223372036854775806) :
    Calls Try.prog 164 #[.slice A l.length cap, .func (.func 188) #[] #[]] w fun e w' => e = .returned (.int .i64 (firstAt farP l 0)) ∧ w' = w := by
  have HR := Aside0.mk hr
  clear hr
  go_enter Try.func164, Try.ntmps164
  go_wp2
  go_loop [8] (fun i => ∃ k : Nat, k ≤ l.length ∧ i = .int .i64 k ∧ Aside0 (firstAt farP l 0 = firstAt farP (l.drop k) k)) (fun i => l.length - (intOf i).toNat)
  case atStart => exact ⟨0, Nat.zero_le _, rfl, ⟨rfl⟩⟩
  case round =>
    obtain ⟨k, hk, rfl, hq⟩ := hrel
    by_cases hlt : k < l.length
    · have c1 : decide ((k : Int) < (l.length : Int)) = true := decide_eq_true (by omega)
      have c2 : decide (k < l.length) = true := decide_eq_true (by omega)
      obtain ⟨ad, e1, hx⟩ := Kd.at_int HR.out (k : Int) (by omega) (by omega)
      cases e1
      rw [rd_at l k hlt, Int.toNat_natCast] at hx
      have hs := Aside0.mk (first_step farP hlt)
      generalize l[k] = x at hx hs
      by_cases hp : farP x = true
      · have hz := Aside0.mk (hq.out.trans (hs.out.trans (if_pos hp)))
        clear hs hq
        go_wp2_with (first | (go_at_call 188; (with_reducible refine (far_calls _ _).mono ?_); rintro e w' ⟨rfl, rfl⟩))
        go_ret
        exact ⟨by rw [hz.out]; rfl, rfl⟩
      · have hz := Aside0.mk (hq.out.trans (hs.out.trans (if_neg hp)))
        replace hp := Bool.eq_false_iff.mpr hp
        clear hs hq
        go_wp2_with (first | (go_at_call 188; (with_reducible refine (far_calls _ _).mono ?_); rintro e w' ⟨rfl, rfl⟩))
        go_round
        case rel => exact ⟨k + 1, by omega, by go_num, hz⟩
        case measure => simp [intOf]; omega
    · obtain rfl : k = l.length := by omega
      have c1 : decide ((l.length : Int) < (l.length : Int)) = false := decide_eq_false (by omega)
      have c2 : decide (l.length < l.length) = false := decide_eq_false (by omega)
      have hz := Aside0.mk (show firstAt farP l 0 = -1 by rw [hq.out, List.drop_length]; rfl)
      clear hq
      go_wp2
      go_ret
      exact ⟨by rw [hz.out]; rfl, rfl⟩
set_option maxHeartbeats 8000000 in
theorem contains_far (w : World) (A : Option Addr) (l : List Int) (cap : Nat) (hr : Kd.C (Kd.int .i64) w A l.length l) (hm : l.length ≤ 9223372036854775806) :
    Calls Try.prog 127 #[.slice A l.length cap, .func (.func 188) #[] #[]] w fun e w' => e = .returned (.bool (l.any farP)) ∧ w' = w := by
  have HR := Aside0.mk hr
  have hf := firstAt_any farP l 0 (by omega)
  have hf1 := Aside0.mk hf.1
  clear hr hf
  go_enter Try.func127, Try.ntmps127
  go_wp2_with (first | (go_at_call 164; (with_reducible refine (index_far _ _ l _ HR.out hm).mono ?_); rintro e w1 ⟨rfl, rfl⟩))
  go_ret
  exact ⟨by rw [← hf1.out]; rfl, rfl⟩
/-- By the test's number in the program (what the print is told in the function's place). -/
def slices_ContainsFunc_int_int.f (l0 : List Int) (a1 : Int) : Option Bool := if l0.length ≤ 9223372036854775806 then (if a1 = 1 then some (l0.any wideP) else if a1 = 2 then some (l0.any farP) else none) else none
theorem slices_ContainsFunc_int_int.calls1 (A0 : Option Addr) (c0 : Nat) (l0 : List Int) (a1 : Int) (r : Bool) (w : World) (hr0 : Kd.C (Kd.int .i64) w A0 l0.length l0) (hc0 : l0.length ≤ c0) (h : slices_ContainsFunc_int_int.f l0 1 = some r) :
    Calls Try.prog 127 #[.slice A0 l0.length c0, .func (.func 128) #[] #[]] w fun e w' => e = .returned (.bool r) ∧ Below w.heap.size w w' := by
  unfold slices_ContainsFunc_int_int.f at h
  split at h
  case isFalse => cases h
  rename_i hm
  rw [if_pos rfl] at h
  cases h
  exact (contains_wide w A0 l0 c0 hr0 hm).mono fun e w' ⟨h1, h2⟩ => ⟨h1, by rw [h2]; exact Below.refl _ _⟩
theorem slices_ContainsFunc_int_int.calls2 (A0 : Option Addr) (c0 : Nat) (l0 : List Int) (a1 : Int) (r : Bool) (w : World) (hr0 : Kd.C (Kd.int .i64) w A0 l0.length l0) (hc0 : l0.length ≤ c0) (h : slices_ContainsFunc_int_int.f l0 2 = some r) :
    Calls Try.prog 127 #[.slice A0 l0.length c0, .func (.func 188) #[] #[]] w fun e w' => e = .returned (.bool r) ∧ Below w.heap.size w w' := by
  unfold slices_ContainsFunc_int_int.f at h
  split at h
  case isFalse => cases h
  rename_i hm
  rw [if_neg (by decide), if_pos rfl] at h
  cases h
  exact (contains_far w A0 l0 c0 hr0 hm).mono fun e w' ⟨h1, h2⟩ => ⟨h1, by rw [h2]; exact Below.refl _ _⟩
end Go.Proofs.Ytpeejdmbnlhjmaa.H
/- A row's numbers, each shifted down (subframe.down), with the proof that the program's call comes to it. For any row of up to 2^40 numbers. -/
namespace Go.Proofs.Ytpeejdmbnlhjmaa.H
open Go.RowKit Go.Proofs.YtpeejdmbnlhjmaaW.PrintWords Go.Proofs.YtpeejdmbnlhjmaaW.PrintLast Go.Proofs.YtpeejdmbnlhjmaaW.PrintMore
attribute [local go_sem] max2_int min2_int max_two min_two max_three min_three max_four min_four   -- for this text's walks alone
set_option linter.unusedVariables false
set_option linter.unusedSimpArgs false
def downBy (by_ : Int) : Nat := (max 0 (min by_ 32)).toNat
def downP (by_ : Int) (l : List Int) : List Int := l.map fun x => x / 2 ^ downBy by_
theorem downBy_le (by_ : Int) : downBy by_ ≤ 32 := by unfold downBy; omega
theorem irow_at {W : World} {base g n cap : Nat} {xs : List Int} (h : Kd.R (Kd.int .i64) 3 W base (fun _ => True) (.slice (some ⟨g, 0, none⟩) n cap) xs) (i : Nat) (hi : i < xs.length) :
    W.cell? ⟨g, i, none⟩ = some (.int .i64 (rd xs (i : Int))) ∧ W.frozen? ⟨g, i, none⟩ = false := by
  have e := (Kd.R_reads' h).1
  subst e
  have hc := Kd.R_cell (0 : Int) h (i : Int) (Int.natCast_nonneg _) (by omega)
  rw [Int.toNat_natCast] at hc
  exact hc
theorem irow_put {W : World} {base g n cap : Nat} {xs : List Int} (h : Kd.R (Kd.int .i64) 3 W base (fun _ => True) (.slice (some ⟨g, 0, none⟩) n cap) xs) (i : Nat) (x : Int) :
    Kd.R (Kd.int .i64) 3 (W.setCell ⟨g, i, none⟩ (.int .i64 x)) base (fun _ => True) (.slice (some ⟨g, 0, none⟩) n cap) (xs.set i x) := by
  have e := (Kd.R_reads' h).1
  subst e
  have hc := (Kd.R_put h (i : Int) x).1
  rw [Int.toNat_natCast] at hc
  exact hc
/-- The first k numbers are shifted. -/
def downTo (by_ : Int) (l : List Int) (k : Nat) : List Int := downP by_ (l.take k) ++ l.drop k
theorem downTo_len (by_ : Int) (l : List Int) (k : Nat) : (downTo by_ l k).length = l.length := by
  unfold downTo downP
  simp
  omega
theorem downTo_rd (by_ : Int) (l : List Int) (k : Nat) (h : k < l.length) : rd (downTo by_ l k) (k : Int) = l[k] := by
  unfold rd downTo downP
  rw [List.getD_eq_getElem?_getD, Int.toNat_natCast, List.getElem?_append_right (by simp only [List.length_map, List.length_take]; omega)]
  simp [Nat.min_eq_left (Nat.le_of_lt h), h]
theorem downBy_if (by_ : Int) : (if 0 < (if 32 < by_ then 32 else by_) then (if 32 < by_ then 32 else by_) else 0).toNat = downBy by_ := by
  unfold downBy
  repeat' split
  all_goals omega
theorem downTo_set (by_ : Int) (l : List Int) (k : Nat) (h : k < l.length) : (downTo by_ l k).set k (l[k] / 2 ^ downBy by_) = downTo by_ l (k + 1) := by
  unfold downTo downP
  have hk : ((l.take k).map fun x => x / 2 ^ downBy by_).length = k := by simp; omega
  rw [List.set_append_right _ _ (by omega), hk, Nat.sub_self, List.drop_eq_getElem_cons h, List.set_cons_zero, List.take_succ_eq_append_getElem h, List.map_append, List.append_assoc]
  rfl
def IRowPost (w : World) (l : List Int) (e : Ending) (w' : World) : Prop := ∃ v, e = .returned v ∧ Kd.R (Kd.int .i64) 3 w' w.heap.size (fun _ => True) v l ∧ Below w.heap.size w w'
theorem clone_calls (A0 : Option Addr) (c0 : Nat) (l0 : List Int) (w : World) (hl : l0.length ≤ 1000000000000) (hr0 : Kd.C (Kd.int .i64) w A0 l0.length l0) (hc0 : l0.length ≤ c0) : Calls Try.prog 79 #[.slice A0 l0.length c0] w (IRowPost w l0) :=
  slices_Clone_int_int.calls A0 c0 l0 l0 w hr0 hc0 (if_pos hl)
set_option maxHeartbeats 8000000 in
set_option maxRecDepth 100000 in
theorem down_calls (A0 : Option Addr) (c0 : Nat) (l : List Int) (by_ : Int) (w : World) (hl : l.length ≤ 1000000000000) (hr0 : Kd.C (Kd.int .i64) w A0 l.length l) (hc0 : l.length ≤ c0) :
    Calls Try.prog 86 #[.slice A0 l.length c0, .int .i64 by_] w (IRowPost w (downP by_ l)) := by
  have HR := Aside0.mk hr0
  have HC := Aside0.mk hc0
  clear hr0 hc0
  go_enter Try.func86, Try.ntmps86
  go_upto_block 0 with (first | (go_at_call 79; (with_reducible refine (clone_calls _ _ l _ hl HR.out HC.out).mono ?_); rintro e w1 ⟨v1, rfl, hr, hb⟩; obtain ⟨A1, c1, e1⟩ := Kd.R_slice hr; subst e1; have R1 := Aside0.mk hr; have HB1 := Aside0.mk hb; clear hr hb))
  go_wp2_with fail
  go_loopw [11] (fun i wr => ∃ k : Nat, k ≤ l.length ∧ i = .int .i64 k ∧ Aside0 (Kd.R (Kd.int .i64) 3 wr w.heap.size (fun _ => True) (.slice A1 l.length c1) (downTo by_ l k)) ∧ Aside0 (Below w.heap.size w wr)) (fun i _ => l.length - (intOf i).toNat)
  case atStart => exact ⟨0, Nat.zero_le _, rfl, R1, HB1⟩
  case round =>
    clear R1 HB1
    obtain ⟨k, hk, rfl, HRr, HBr⟩ := hrel
    by_cases hlt : k < l.length
    · have d1 : decide ((k : Int) < (l.length : Int)) = true := decide_eq_true (by omega)
      have d2 : decide (k < l.length) = true := decide_eq_true (by omega)
      obtain ⟨g, cap, hv, hge, _, _⟩ := Kd.R_form HRr.out (by rw [downTo_len]; omega)
      rw [downTo_len] at hv
      obtain ⟨rfl, _, rfl⟩ := Value.slice.inj hv
      have HGE := Aside0.mk hge
      clear hv hge
      obtain ⟨hx, hf⟩ := irow_at HRr.out k (by rw [downTo_len]; exact hlt)
      rw [downTo_rd by_ l k hlt] at hx
      have HS := Aside0.mk (downTo_set by_ l k hlt)
      generalize l[k] = x at hx HS
      have k1 : (0 : Int) ≤ (k : Int) := Int.natCast_nonneg _
      have k2 : (k : Int) < (l.length : Int) := by omega
      go_wp2_with fail
      refine ⟨⟨k + 1, by omega, by go_num, ⟨?_⟩, ⟨below_set HBr.out HGE.out⟩⟩, by simp [intOf]; omega⟩
      rw [← HS.out, ← downBy_if]
      exact irow_put HRr.out k _
    · obtain rfl : k = l.length := by omega
      have d1 : decide ((l.length : Int) < (l.length : Int)) = false := decide_eq_false (by omega)
      have d2 : decide (l.length < l.length) = false := decide_eq_false (by omega)
      have hR := HRr.out
      have hd : downTo by_ l l.length = downP by_ l := by unfold downTo; rw [List.take_length, List.drop_length, List.append_nil]
      rw [hd] at hR
      have HRe := Aside0.mk hR
      clear hR hd
      go_wp2_with fail
      go_ret
      exact ⟨_, rfl, HRe.out, HBr.out⟩
end Go.Proofs.Ytpeejdmbnlhjmaa.H
