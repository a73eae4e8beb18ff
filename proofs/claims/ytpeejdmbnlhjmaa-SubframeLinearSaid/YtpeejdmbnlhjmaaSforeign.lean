/- subframe.Bits of the plain kinds, and the chapter's example, in the form in which the print calls functions. -/
import Derived.Test.YtpeejdmbnlhjmaaProg
import Derived.Below
import Derived.Deep.Draws
import Derived.Deep.AppendLies
import Derived.Maps.AppendAt
import Derived.OwnWalk
import Derived.Laws.BytesArg
import Derived.Laws.MakeOwn
import Derived.Laws.OwnMore
import Derived.Deep.OwnRows
import Derived.Tactics
import Derived.Lib.ConvBytes
import Derived.Laws.Slices
import Derived.WalkKit
import Derived.KernelRfl
import Derived.RowKit3
import Derived.Deep.LoopGhost
import Derived.Deep.QuietTactic
import Derived.BigQuiet
import Derived.WideLaws
import Derived.Deep.DeepCutAuto
import Derived.Deep.CutBlock
import Derived.Deep.RegionHeld3
import Derived.Laws.Rows
import Derived.Lib.AppendStr
import Derived.ArgAppend
import Derived.Laws.IdiomCopy
import Derived.OrdersHeld
import Derived.Laws.BitsLemmas
import Derived.RowKit
import Derived.Test.YtpeejdmbnlhjmaaWWords
import Derived.Test.YtpeejdmbnlhjmaaWLast
import Derived.Test.YtpeejdmbnlhjmaaWTab
import Derived.Test.YtpeejdmbnlhjmaaWFour
import Derived.Test.YtpeejdmbnlhjmaaWQPut
import Derived.Test.YtpeejdmbnlhjmaaWApart
import Derived.Test.YtpeejdmbnlhjmaaWArr
import Derived.Test.YtpeejdmbnlhjmaaWZeros
import Derived.Test.YtpeejdmbnlhjmaaWFoot
import Derived.Test.YtpeejdmbnlhjmaaWKept
import Derived.Test.YtpeejdmbnlhjmaaWShare
import Derived.Test.YtpeejdmbnlhjmaaWN
import Derived.Test.YtpeejdmbnlhjmaaWFootNe
import Derived.Test.YtpeejdmbnlhjmaaWAt
import Derived.Test.YtpeejdmbnlhjmaaWEqStruct
import Derived.Test.YtpeejdmbnlhjmaaWRepsOne
import Derived.Test.YtpeejdmbnlhjmaaWInv
import Derived.Test.YtpeejdmbnlhjmaaWInvWords
import Derived.Test.YtpeejdmbnlhjmaaWGuard
import Derived.Test.YtpeejdmbnlhjmaaWNEv
import Derived.Test.YtpeejdmbnlhjmaaWMore
import Derived.Test.YtpeejdmbnlhjmaaSpre
import Derived.Test.YtpeejdmbnlhjmaaSclone
import Derived.Test.YtpeejdmbnlhjmaaSfunc
import Derived.Test.YtpeejdmbnlhjmaaSdown
import Derived.Test.YtpeejdmbnlhjmaaSrest
import Derived.Test.YtpeejdmbnlhjmaaSshelf
import Derived.Test.YtpeejdmbnlhjmaaSbits
import Derived.Test.YtpeejdmbnlhjmaaSw
import Derived.Test.YtpeejdmbnlhjmaaSwriter
import Derived.Test.YtpeejdmbnlhjmaaSput
import Derived.Test.YtpeejdmbnlhjmaaSplain
import Derived.Test.YtpeejdmbnlhjmaaSawake
namespace Go.Proofs.Ytpeejdmbnlhjmaa.H
open Go.RowKit Go.Proofs.YtpeejdmbnlhjmaaW.PrintWords Go.Proofs.YtpeejdmbnlhjmaaW.PrintLast Go.Proofs.YtpeejdmbnlhjmaaW.PrintMore
attribute [local go_sem] max2_int min2_int max_two min_two max_three min_three max_four min_four   -- for this text's walks alone
set_option linter.unusedVariables false
set_option linter.unusedSimpArgs false
def serinettelaw16_awake.f : Option Bool := some true
theorem serinettelaw16_awake.calls (r : Bool) (w : World) (h : serinettelaw16_awake.f = some r) : Calls Try.prog 45 #[] w fun e w' => e = .returned (.bool r) ∧ Below w.heap.size w w' := by
  obtain rfl := Option.some.inj h
  exact awake16_calls w
def subframe_Bits.f (k : Nat) (l0 : List Int) (a1_0 a1_1 a1_2 a1_3 a1_4 : Int) (l1_5 : List Int) (a1_6 : Bool) (a1_7 : Int) (l1_8 : List S172) (a2 : Int) : Option (Int × Int) := bits01 k l0 a1_0 a1_1 a1_2 a1_3 a1_4 l1_5 a1_6 a1_7 l1_8 a2
theorem subframe_Bits.mono : ∀ a0 a1 a2 a3 a4 a5 a6 a7 a8 a9 a10 k, LeO (subframe_Bits.f k a0 a1 a2 a3 a4 a5 a6 a7 a8 a9 a10) (subframe_Bits.f (k + 1) a0 a1 a2 a3 a4 a5 a6 a7 a8 a9 a10) := by
  intro a0 a1 a2 a3 a4 a5 a6 a7 a8 a9 a10 k
  unfold subframe_Bits.f bits01
  exact LeO.bind (subframe_odd.mono _ _ _ _ _ _ _ _ _ _ _ _) (fun _ => LeO.refl _)
theorem subframe_Bits.calls (k : Nat) (A0 : Option Addr) (c0 : Nat) (l0 : List Int) (a1_0 a1_1 a1_2 a1_3 a1_4 : Int) (A1_5 : Option Addr) (c1_5 : Nat) (l1_5 : List Int) (a1_6 : Bool) (a1_7 : Int) (A1_8 : Option Addr) (c1_8 : Nat) (l1_8 : List S172) (a2 r1 r2 : Int) (w : World)
    (hr0 : Kd.C (Kd.int .i64) w A0 l0.length l0) (hc0 : l0.length ≤ c0) (hr1_5 : Kd.C (Kd.int .i64) w A1_5 l1_5.length l1_5) (hc1_5 : l1_5.length ≤ c1_5) (hr1_8 : Kd.C k172 w A1_8 l1_8.length l1_8) (hc1_8 : l1_8.length ≤ c1_8) (h : subframe_Bits.f k l0 a1_0 a1_1 a1_2 a1_3 a1_4 l1_5 a1_6 a1_7 l1_8 a2 = some (r1, r2)) :
    Calls Try.prog 46 #[.slice A0 l0.length c0, .agg #[.int .i64 a1_0, .int .i64 a1_1, .int .i64 a1_2, .int .i64 a1_3, .int .i64 a1_4, .slice A1_5 l1_5.length c1_5, .bool a1_6, .int .i64 a1_7, .slice A1_8 l1_8.length c1_8], .int .i64 a2] w fun e w' => e = .returned (.tuple #[.int .i64 r1, .int .i64 r2]) ∧ Below w.heap.size w w' := by
  unfold subframe_Bits.f bits01 at h
  obtain ⟨e, ho, h⟩ := Option.bind_eq_some_iff.mp h
  by_cases he : e = 0
  · subst he
    rw [if_pos rfl] at h
    split at h
    case isFalse => cases h
    rename_i hh
    refine bits_good k A0 c0 l0 a1_0 a1_1 a1_2 a1_3 a1_4 A1_5 c1_5 l1_5 a1_6 a1_7 A1_8 c1_8 l1_8 a2 w r1 r2 hr0 hc0 hr1_5 hc1_5 hr1_8 hc1_8 ho hh.1 hh.2.1 hh.2.2.1 hh.2.2.2 ?_
    by_cases h0 : a1_0 = 0
    · rw [if_pos h0] at h
      by_cases hc : compN l0 > 1
      · rw [if_pos hc] at h
        cases h
        exact .inl ⟨h0, .inl ⟨hc, rfl, rfl⟩⟩
      · rw [if_neg hc] at h
        cases h
        exact .inl ⟨h0, .inr ⟨hc, rfl, rfl⟩⟩
    · rw [if_neg h0] at h
      split at h
      · rename_i h1
        cases h
        exact .inr ⟨h1, rfl, rfl⟩
      · cases h
  · rw [if_neg he] at h
    cases h
    exact bits_bad k A0 c0 l0 a1_0 a1_1 a1_2 a1_3 a1_4 A1_5 c1_5 l1_5 a1_6 a1_7 A1_8 c1_8 l1_8 a2 w _ hr0 hc0 hr1_5 hc1_5 hr1_8 hc1_8 ho he
end Go.Proofs.Ytpeejdmbnlhjmaa.H
