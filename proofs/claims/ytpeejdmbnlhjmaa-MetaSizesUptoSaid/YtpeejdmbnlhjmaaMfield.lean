/- Is a text a field (meta.Field): the proof that the program's call comes to a plain function. For any text. -/
import Derived.Test.YtpeejdmbnlhjmaaProg
import Derived.Below
import Derived.Deep.Draws
import Derived.Deep.AppendLies
import Derived.Maps.AppendAt
import Derived.OwnWalk
import Derived.Laws.BytesArg
import Derived.Laws.MakeOwn
import Derived.Laws.OwnMore
import Derived.Deep.OwnRows
import Derived.Tactics
import Derived.Lib.ConvBytes
import Derived.Laws.Slices
import Derived.WalkKit
import Derived.KernelRfl
import Derived.RowKit3
import Derived.Deep.LoopGhost
import Derived.Deep.QuietTactic
import Derived.BigQuiet
import Derived.WideLaws
import Derived.Deep.DeepCutAuto
import Derived.Deep.CutBlock
import Derived.Deep.RegionHeld3
import Derived.Laws.Rows
import Derived.Lib.AppendStr
import Derived.ArgAppend
import Derived.Laws.IdiomCopy
import Derived.OrdersHeld
import Derived.Laws.BitsLemmas
import Derived.RowKit
import Derived.Test.YtpeejdmbnlhjmaaWWords
import Derived.Test.YtpeejdmbnlhjmaaWLast
import Derived.Test.YtpeejdmbnlhjmaaWTab
import Derived.Test.YtpeejdmbnlhjmaaWFour
import Derived.Test.YtpeejdmbnlhjmaaWQPut
import Derived.Test.YtpeejdmbnlhjmaaWApart
import Derived.Test.YtpeejdmbnlhjmaaWArr
import Derived.Test.YtpeejdmbnlhjmaaWZeros
import Derived.Test.YtpeejdmbnlhjmaaWFoot
import Derived.Test.YtpeejdmbnlhjmaaWKept
import Derived.Test.YtpeejdmbnlhjmaaWShare
import Derived.Test.YtpeejdmbnlhjmaaWN
import Derived.Test.YtpeejdmbnlhjmaaWFootNe
import Derived.Test.YtpeejdmbnlhjmaaWAt
import Derived.Test.YtpeejdmbnlhjmaaWEqStruct
import Derived.Test.YtpeejdmbnlhjmaaWRepsOne
import Derived.Test.YtpeejdmbnlhjmaaWInv
import Derived.Test.YtpeejdmbnlhjmaaWInvWords
import Derived.Test.YtpeejdmbnlhjmaaWGuard
import Derived.Test.YtpeejdmbnlhjmaaWNEv
import Derived.Test.YtpeejdmbnlhjmaaWMore
import Derived.Lib.IndexLaws
import Derived.Outline
import Derived.Test.YtpeejdmbnlhjmaaMtext
namespace Go.Proofs.Ytpeejdmbnlhjmaa.H
open Go.RowKit Go.Proofs.YtpeejdmbnlhjmaaW.PrintWords Go.Proofs.YtpeejdmbnlhjmaaW.PrintLast Go.Proofs.YtpeejdmbnlhjmaaW.PrintMore
attribute [local go_sem] max2_int min2_int max_two min_two max_three min_three max_four min_four   -- for this text's walks alone
set_option linter.unusedVariables false
set_option linter.unusedSimpArgs false
def eqAt (s : ByteArray) : Int := Lib.indexByte s.data.toList 61
def nameOf (s : ByteArray) : ByteArray := s.extract 0 (eqAt s).toNat
def oddR (c : Nat) : Bool := decide (c < 32) || decide (125 < c)
def fieldP (s : ByteArray) : Bool := decide (0 ≤ eqAt s) && decide (0 < eqAt s) && textP s && !decide (0 ≤ Lib.idxFunc oddR true (nameOf s))
theorem eqAt_lt (s : ByteArray) (h : 0 ≤ eqAt s) : (eqAt s).toNat < s.size := by
  have := Lib.indexByte_some (l := s.data.toList) (c := 61) (o := (eqAt s).toNat) (by show eqAt s = _; omega)
  have h2 := (List.getElem?_eq_some_iff.1 this.1).1
  simpa using h2
theorem oddR_calls (x : Nat) (W : World) : Calls Try.prog 69 #[.int .i32 x] W fun e w' => e = .returned (.bool (oddR x)) ∧ w' = W := by
  unfold oddR
  by_cases c1 : x < 32
  · have d1 : decide ((x : Int) < 32) = true := decide_eq_true (by omega)
    have d2 := decide_eq_true c1
    go_enter Try.func69, Try.ntmps69
    go_wp2
    go_ret
    exact ⟨by first | rfl | (rw [d2]; rfl), rfl⟩
  · have d1 : decide ((x : Int) < 32) = false := decide_eq_false (by omega)
    have d2 := decide_eq_false c1
    by_cases c3 : 125 < x
    · have d3 : decide ((125 : Int) < (x : Int)) = true := decide_eq_true (by omega)
      have d4 := decide_eq_true c3
      go_enter Try.func69, Try.ntmps69
      go_wp2
      go_ret
      exact ⟨by first | rfl | (rw [d2, d4]; rfl), rfl⟩
    · have d3 : decide ((125 : Int) < (x : Int)) = false := decide_eq_false (by omega)
      have d4 := decide_eq_false c3
      go_enter Try.func69, Try.ntmps69
      go_wp2
      go_ret
      exact ⟨by first | rfl | (rw [d2, d4]; rfl), rfl⟩
theorem oddR_pred (w : World) : PredAtRunes Try.prog 69 #[] oddR w := fun W x _ _ => (oddR_calls x W).mono fun e w' h => ⟨h.1, 0, by rw [h.2]; rfl⟩
theorem odd_enters : ∀ args w, (callFunc 69 args).run Try.prog w = .ok (.enter 69 args) w := fun args w => enters_of Try.func69 (by kernel_rfl) rfl args w
def CutIn (w : World) (s : ByteArray) (e : Ending) (w' : World) : Prop := ∃ v, e = .returned (.tuple #[.string (nameOf s), .string v, .bool true]) ∧ Below w.heap.size w w'
def CutOut (w : World) (e : Ending) (w' : World) : Prop := ∃ v, e = .returned (.tuple #[.string v, .string ⟨#[]⟩, .bool false]) ∧ Below w.heap.size w w'
set_option maxHeartbeats 8000000 in
theorem scut_in (s : ByteArray) (w : World) (hs : s.size ≤ 1000000000) (h : 0 ≤ eqAt s) : Calls Try.prog 121 #[.string s, .string ⟨#[61]⟩] w (CutIn w s) := by
  have hlt := eqAt_lt s h
  obtain ⟨i, hi⟩ : ∃ i : Nat, eqAt s = (i : Int) := ⟨(eqAt s).toNat, by omega⟩
  have HI := Aside0.mk (show Lib.indexByte s.data.toList 61 = (i : Int) from hi)
  rw [hi, Int.toNat_natCast] at hlt
  have HN := Aside0.mk (show nameOf s = s.extract 0 i by unfold nameOf; rw [hi, Int.toNat_natCast])
  have c0 : decide ((i : Int) ≥ 0) = true := decide_eq_true (by omega)
  have c1 : decide (0 ≤ (i : Int)) = true := decide_eq_true (by omega)
  have b0 : (0 : Int) ≤ (i : Int) := by omega
  have b1 : (i : Int) ≤ (s.size : Int) := by omega
  have b2 : (0 : Int) ≤ (i : Int) + 1 := by omega
  have b3 : (i : Int) + 1 ≤ (s.size : Int) := by omega
  have b4 : IntKind.i64.wrap ((i : Int) + 1) = (i : Int) + 1 := by rw [IntKind.wrap_i64]; omega
  clear h hi
  go_enter Try.func121, Try.ntmps121
  go_upto_region 3 with (first | (go_at_call 160; (with_reducible refine (Try.stringslite_Index_one s 61 _).mono ?_); rintro e w1 ⟨rfl, rfl⟩; rw [HI.out]))
  go_region
  go_wp2_with fail
  refine bodyPost_ret (results_tmp3 rfl _ _ _) rfl ?_
  exact ⟨_, by rw [HN.out]; rfl, by first | exact below_drew1 (Below.refl _ _) | exact below_drew (Below.refl _ _)⟩
set_option maxHeartbeats 8000000 in
theorem scut_out (s : ByteArray) (w : World) (hs : s.size ≤ 1000000000) (h : ¬ 0 ≤ eqAt s) : Calls Try.prog 121 #[.string s, .string ⟨#[61]⟩] w (CutOut w) := by
  have HI := Aside0.mk (show Lib.indexByte s.data.toList 61 = eqAt s from rfl)
  have c0 : decide (eqAt s ≥ 0) = false := decide_eq_false (by omega)
  have c1 : decide (0 ≤ eqAt s) = false := decide_eq_false (by omega)
  go_enter Try.func121, Try.ntmps121
  go_wp2_with (first | (go_at_call 160; (with_reducible refine (Try.stringslite_Index_one s 61 _).mono ?_); rintro e w1 ⟨rfl, rfl⟩; rw [HI.out]))
  refine bodyPost_ret (results_tmp3 rfl _ _ _) rfl ?_
  exact ⟨_, rfl, Below.refl _ _⟩
theorem cut_in (s : ByteArray) (w : World) (hs : s.size ≤ 1000000000) (h : 0 ≤ eqAt s) : Calls Try.prog 68 #[.string s, .string ⟨#[61]⟩] w (CutIn w s) := by
  go_enter Try.func68, Try.ntmps68
  go_wp2_with (first | (go_at_call 121; (with_reducible refine (scut_in s _ hs h).mono ?_); rintro e w1 ⟨v, rfl, hb⟩; have HB := Aside0.mk hb; clear hb))
  refine bodyPost_ret (results_tmp3 rfl _ _ _) rfl ?_
  exact ⟨_, rfl, HB.out⟩
theorem cut_out (s : ByteArray) (w : World) (hs : s.size ≤ 1000000000) (h : ¬ 0 ≤ eqAt s) : Calls Try.prog 68 #[.string s, .string ⟨#[61]⟩] w (CutOut w) := by
  go_enter Try.func68, Try.ntmps68
  go_wp2_with (first | (go_at_call 121; (with_reducible refine (scut_out s _ hs h).mono ?_); rintro e w1 ⟨v, rfl, hb⟩; have HB := Aside0.mk hb; clear hb))
  refine bodyPost_ret (results_tmp3 rfl _ _ _) rfl ?_
  exact ⟨_, rfl, HB.out⟩
set_option maxHeartbeats 8000000 in
theorem field_calls (s : ByteArray) (w : World) (hs : s.size ≤ 1000000000) : Calls Try.prog 24 #[.string s] w (BoolTo w (fieldP s)) := by
  by_cases h : 0 ≤ eqAt s
  · have hlt := eqAt_lt s h
    by_cases h0 : 0 < eqAt s
    · have hm : ¬ (nameOf s).toList = [] := by
        intro e
        rw [ByteArray.toList_eq] at e
        have e2 : (nameOf s).size = 0 := by
          have := congrArg List.length e
          simpa using this
        unfold nameOf at e2
        rw [ByteArray.size_extract] at e2
        omega
      have hn : (nameOf s).toList.isEmpty = false := by cases hl : (nameOf s).toList with
        | nil => exact absurd hl hm
        | cons => rfl
      have HF := Aside0.mk (show fieldP s = (textP s && !decide (0 ≤ Lib.idxFunc oddR true (nameOf s))) by unfold fieldP; rw [decide_eq_true h, decide_eq_true h0]; rfl)
      have H0 := Aside0.mk h
      generalize hq : decide (0 ≤ Lib.idxFunc oddR true (nameOf s)) = q at *
      have HQ := Aside0.mk hq
      generalize ht : textP s = tx at *
      have HT := Aside0.mk ht
      clear hq ht h h0 hlt
      cases tx
      · go_enter Try.func24, Try.ntmps24
        go_wp2_with (first
          | (go_at_call 68; (with_reducible refine (cut_in s _ hs H0.out).mono ?_); rintro e w1 ⟨v, rfl, hb⟩; have HB := Aside0.mk hb; clear hb)
          | (go_at_call 22; (with_reducible refine (text_calls s _ hs).mono ?_); rintro e w2 ⟨rfl, hb⟩; rw [HT.out]; have HB2 := Aside0.mk (below_step HB.out hb); clear hb))
        go_ret
        exact ⟨by rw [HF.out]; rfl, HB2.out⟩
      · have hx : Aside0 (∀ w, Calls Try.prog 70 #[.string (nameOf s), .func (.func 69) #[] #[]] w (BoolTo w q)) := ⟨fun w => by
          have := Try.strings_ContainsFunc_runes 69 #[] odd_enters oddR (nameOf s) w (oddR_pred w)
          rw [HQ.out] at this
          exact this⟩
        cases q
        all_goals
          go_enter Try.func24, Try.ntmps24
          go_wp2_with (first
            | (go_at_call 68; (with_reducible refine (cut_in s _ hs H0.out).mono ?_); rintro e w1 ⟨v, rfl, hb⟩; have HB := Aside0.mk hb; clear hb)
            | (go_at_call 22; (with_reducible refine (text_calls s _ hs).mono ?_); rintro e w2 ⟨rfl, hb⟩; rw [HT.out]; have HB2 := Aside0.mk (below_step HB.out hb); clear hb)
            | (go_at_call 70; (with_reducible refine (hx.out _).mono ?_); rintro e w3 ⟨rfl, hb⟩; have HB3 := Aside0.mk (below_step HB2.out hb); clear hb))
          go_ret
          exact ⟨by rw [HF.out]; rfl, HB3.out⟩
    · have e0 : eqAt s = 0 := by omega
      have hm : (nameOf s).toList = [] := by
        rw [ByteArray.toList_eq]
        unfold nameOf
        rw [e0]
        simp
      have hn : (nameOf s).toList.isEmpty = true := by rw [hm]; rfl
      have HF := Aside0.mk (show fieldP s = false by unfold fieldP; rw [decide_eq_true h, decide_eq_false h0]; rfl)
      have H0 := Aside0.mk h
      clear h h0 hlt e0
      go_enter Try.func24, Try.ntmps24
      go_wp2_with (first
        | (go_at_call 68; (with_reducible refine (cut_in s _ hs H0.out).mono ?_); rintro e w1 ⟨v, rfl, hb⟩; have HB := Aside0.mk hb; clear hb))
      go_ret
      exact ⟨by rw [HF.out]; rfl, HB.out⟩
  · have HF := Aside0.mk (show fieldP s = false by unfold fieldP; rw [decide_eq_false h]; rfl)
    have H0 := Aside0.mk h
    clear h
    go_enter Try.func24, Try.ntmps24
    go_wp2_with (first
      | (go_at_call 68; (with_reducible refine (cut_out s _ hs H0.out).mono ?_); rintro e w1 ⟨v, rfl, hb⟩; have HB := Aside0.mk hb; clear hb))
    go_ret
    exact ⟨by rw [HF.out]; rfl, HB.out⟩
end Go.Proofs.Ytpeejdmbnlhjmaa.H
