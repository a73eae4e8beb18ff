/- Values as blocks, and the document's bodies, in the form in which the print calls them: plain functions, with the proofs that the program's calls come to them. -/
import Derived.Test.YtpeejdmbnlhjmaaProg
import Derived.Below
import Derived.Deep.Draws
import Derived.Deep.AppendLies
import Derived.Maps.AppendAt
import Derived.OwnWalk
import Derived.Laws.BytesArg
import Derived.Laws.MakeOwn
import Derived.Laws.OwnMore
import Derived.Deep.OwnRows
import Derived.Tactics
import Derived.Lib.ConvBytes
import Derived.Laws.Slices
import Derived.WalkKit
import Derived.KernelRfl
import Derived.RowKit3
import Derived.Deep.LoopGhost
import Derived.Deep.QuietTactic
import Derived.BigQuiet
import Derived.WideLaws
import Derived.Deep.DeepCutAuto
import Derived.Deep.CutBlock
import Derived.Deep.RegionHeld3
import Derived.Laws.Rows
import Derived.Lib.AppendStr
import Derived.ArgAppend
import Derived.Laws.IdiomCopy
import Derived.OrdersHeld
import Derived.Laws.BitsLemmas
import Derived.RowKit
import Derived.Test.YtpeejdmbnlhjmaaWWords
import Derived.Test.YtpeejdmbnlhjmaaWLast
import Derived.Test.YtpeejdmbnlhjmaaWTab
import Derived.Test.YtpeejdmbnlhjmaaWFour
import Derived.Test.YtpeejdmbnlhjmaaWQPut
import Derived.Test.YtpeejdmbnlhjmaaWApart
import Derived.Test.YtpeejdmbnlhjmaaWArr
import Derived.Test.YtpeejdmbnlhjmaaWZeros
import Derived.Test.YtpeejdmbnlhjmaaWFoot
import Derived.Test.YtpeejdmbnlhjmaaWKept
import Derived.Test.YtpeejdmbnlhjmaaWShare
import Derived.Test.YtpeejdmbnlhjmaaWN
import Derived.Test.YtpeejdmbnlhjmaaWFootNe
import Derived.Test.YtpeejdmbnlhjmaaWAt
import Derived.Test.YtpeejdmbnlhjmaaWEqStruct
import Derived.Test.YtpeejdmbnlhjmaaWRepsOne
import Derived.Test.YtpeejdmbnlhjmaaWInv
import Derived.Test.YtpeejdmbnlhjmaaWInvWords
import Derived.Test.YtpeejdmbnlhjmaaWGuard
import Derived.Test.YtpeejdmbnlhjmaaWNEv
import Derived.Test.YtpeejdmbnlhjmaaWMore
import Derived.Test.YtpeejdmbnlhjmaaWwrit
import Derived.Test.YtpeejdmbnlhjmaaWoth
import Derived.Test.YtpeejdmbnlhjmaaWcomm
import Derived.Test.YtpeejdmbnlhjmaaWcref
import Derived.Test.YtpeejdmbnlhjmaaWref
import Derived.Test.YtpeejdmbnlhjmaaMforeign
namespace Go.Proofs.Ytpeejdmbnlhjmaa.H
open Go.RowKit Go.Proofs.YtpeejdmbnlhjmaaW.PrintWords Go.Proofs.YtpeejdmbnlhjmaaW.PrintLast Go.Proofs.YtpeejdmbnlhjmaaW.PrintMore
attribute [local go_sem] max2_int min2_int max_two min_two max_three min_three max_four min_four   -- for this text's walks alone
set_option linter.unusedVariables false
set_option linter.unusedSimpArgs false
def MetaPost (w : World) (r1 : Int) (r2 : List Int) (r3 : Int) (e : Ending) (w' : World) : Prop := ∃ v0_ : Value, e = .returned (.tuple #[.agg #[.int .i64 r1, v0_], .int .i64 r3]) ∧ Kd.R (Kd.int .u8) 5 w' w.heap.size (fun _ => True) v0_ r2 ∧ Below w.heap.size w w'
def meta_Info.f (k : Nat) (a0_0 a0_1 a0_2 a0_3 a0_4 a0_5 a0_6 a0_7 a0_8 a0_9 a0_10 a0_11 a0_12 a0_13 a0_14 a0_15 a0_16 a0_17 a0_18 a0_19 a0_20 a0_21 a0_22 a0_23 : Int) : Option (Int × List Int × Int) := (meta_infoRight.f k a0_0 a0_1 a0_2 a0_3 a0_4 a0_5 a0_6 a0_7 a0_8 a0_9 a0_10 a0_11 a0_12 a0_13 a0_14 a0_15 a0_16 a0_17 a0_18 a0_19 a0_20 a0_21 a0_22 a0_23).bind fun b => some (selI b 0 0, selL b (infoL ⟨a0_0, a0_1, a0_2, a0_3, a0_4, a0_5, a0_6, a0_7, a0_8, a0_9, a0_10, a0_11, a0_12, a0_13, a0_14, a0_15, a0_16, a0_17, a0_18, a0_19, a0_20, a0_21, a0_22, a0_23⟩), selI b 0 6)
theorem meta_Info.mono : ∀ a0_0 a0_1 a0_2 a0_3 a0_4 a0_5 a0_6 a0_7 a0_8 a0_9 a0_10 a0_11 a0_12 a0_13 a0_14 a0_15 a0_16 a0_17 a0_18 a0_19 a0_20 a0_21 a0_22 a0_23 k, LeO (meta_Info.f k a0_0 a0_1 a0_2 a0_3 a0_4 a0_5 a0_6 a0_7 a0_8 a0_9 a0_10 a0_11 a0_12 a0_13 a0_14 a0_15 a0_16 a0_17 a0_18 a0_19 a0_20 a0_21 a0_22 a0_23) (meta_Info.f (k + 1) a0_0 a0_1 a0_2 a0_3 a0_4 a0_5 a0_6 a0_7 a0_8 a0_9 a0_10 a0_11 a0_12 a0_13 a0_14 a0_15 a0_16 a0_17 a0_18 a0_19 a0_20 a0_21 a0_22 a0_23) := by
  intro a0_0 a0_1 a0_2 a0_3 a0_4 a0_5 a0_6 a0_7 a0_8 a0_9 a0_10 a0_11 a0_12 a0_13 a0_14 a0_15 a0_16 a0_17 a0_18 a0_19 a0_20 a0_21 a0_22 a0_23 k
  unfold meta_Info.f
  exact LeO.bind (meta_infoRight.mono _ _ _ _ _ _ _ _ _ _ _ _ _ _ _ _ _ _ _ _ _ _ _ _ k) fun _ => LeO.refl _
theorem meta_Info.calls (k : Nat) (a0_0 a0_1 a0_2 a0_3 a0_4 a0_5 a0_6 a0_7 a0_8 a0_9 a0_10 a0_11 a0_12 a0_13 a0_14 a0_15 a0_16 a0_17 a0_18 a0_19 a0_20 a0_21 a0_22 a0_23 : Int) (r1 : Int) (r2 : List Int) (r3 : Int) (w : World) (h : meta_Info.f k a0_0 a0_1 a0_2 a0_3 a0_4 a0_5 a0_6 a0_7 a0_8 a0_9 a0_10 a0_11 a0_12 a0_13 a0_14 a0_15 a0_16 a0_17 a0_18 a0_19 a0_20 a0_21 a0_22 a0_23 = some (r1, r2, r3)) :
    Calls Try.prog 27 #[.agg #[.int .i64 a0_0, .int .i64 a0_1, .int .i64 a0_2, .int .i64 a0_3, .int .i64 a0_4, .int .i64 a0_5, .int .i64 a0_6, .int .i64 a0_7, .int .u8 a0_8, .int .u8 a0_9, .int .u8 a0_10, .int .u8 a0_11, .int .u8 a0_12, .int .u8 a0_13, .int .u8 a0_14, .int .u8 a0_15, .int .u8 a0_16, .int .u8 a0_17, .int .u8 a0_18, .int .u8 a0_19, .int .u8 a0_20, .int .u8 a0_21, .int .u8 a0_22, .int .u8 a0_23]] w (MetaPost w r1 r2 r3) := by
  unfold meta_Info.f at h
  obtain ⟨b, hb, h⟩ := Option.bind_eq_some_iff.mp h
  have e := Option.some.inj h
  rw [Prod.mk.injEq, Prod.mk.injEq] at e
  obtain ⟨rfl, rfl, rfl⟩ := e
  refine (fn_info w ⟨a0_0, a0_1, a0_2, a0_3, a0_4, a0_5, a0_6, a0_7, a0_8, a0_9, a0_10, a0_11, a0_12, a0_13, a0_14, a0_15, a0_16, a0_17, a0_18, a0_19, a0_20, a0_21, a0_22, a0_23⟩ b (infoL ⟨a0_0, a0_1, a0_2, a0_3, a0_4, a0_5, a0_6, a0_7, a0_8, a0_9, a0_10, a0_11, a0_12, a0_13, a0_14, a0_15, a0_16, a0_17, a0_18, a0_19, a0_20, a0_21, a0_22, a0_23⟩) (fun W _ => ?_) (fun _ W _ => ibody_calls W _)).mono ?_
  · refine (meta_infoRight.calls k a0_0 a0_1 a0_2 a0_3 a0_4 a0_5 a0_6 a0_7 a0_8 a0_9 a0_10 a0_11 a0_12 a0_13 a0_14 a0_15 a0_16 a0_17 a0_18 a0_19 a0_20 a0_21 a0_22 a0_23 b W hb).mono ?_
    rintro e w' ⟨he, hd⟩
    exact ⟨he, by first | exact hd | exact hd.below | (obtain ⟨m, rfl⟩ := hd; exact pw_below_drewN (Below.refl _ _) _)⟩
  · rintro e w' ⟨v, he, hr, hd⟩
    exact ⟨v, he, hr, hd⟩
def meta_Pad.f (p : Int) : Option (Int × List Int × Int) := (meta_padRight.f p).bind fun b => some (selI b 1 0, selL b (List.replicate p.toNat 0), selI b 0 6)
theorem pad_rng {p : Int} {b : Bool} (h : meta_padRight.f p = some b) (hb : b = true) : 0 ≤ p ∧ p ≤ 16777215 := by
  unfold meta_padRight.f meta_within.f at h
  subst hb
  split at h
  · simp at h
    omega
  · simp at h
theorem meta_Pad.calls (a0 : Int) (r1 : Int) (r2 : List Int) (r3 : Int) (w : World) (h : meta_Pad.f a0 = some (r1, r2, r3)) :
    Calls Try.prog 30 #[.int .i64 a0] w (MetaPost w r1 r2 r3) := by
  unfold meta_Pad.f at h
  obtain ⟨b, hb, h⟩ := Option.bind_eq_some_iff.mp h
  have e := Option.some.inj h
  rw [Prod.mk.injEq, Prod.mk.injEq] at e
  obtain ⟨rfl, rfl, rfl⟩ := e
  refine (fn_pad w a0 b (List.replicate a0.toNat 0) (fun W _ => ?_) (fun hh => ⟨(pad_rng hb hh).1, (pad_rng hb hh).2, rfl⟩)).mono ?_
  · refine (meta_padRight.calls a0 b W hb).mono ?_
    rintro e w' ⟨he, hd⟩
    exact ⟨he, by first | exact hd | exact hd.below | (obtain ⟨m, rfl⟩ := hd; exact pw_below_drewN (Below.refl _ _) _)⟩
  · rintro e w' ⟨v, he, hr, hd⟩
    exact ⟨v, he, hr, hd⟩
def meta_Seek.f (k : Nat) (l0 : List S122) : Option (Int × List Int × Int) := if l0.length ≤ 1000000 then (meta_seekRight.f k l0).bind fun b => some (selI b 3 0, selL b (seekW l0).1, selI b 0 6) else none
theorem meta_Seek.mono : ∀ l0 k, LeO (meta_Seek.f k l0) (meta_Seek.f (k + 1) l0) := by
  intro l0 k
  unfold meta_Seek.f
  exact LeO.ite (LeO.bind (meta_seekRight.mono l0 k) fun _ => LeO.refl _) (LeO.none _)
theorem meta_Seek.calls (k : Nat) (A0 : Option Addr) (c0 : Nat) (l0 : List S122) (r1 : Int) (r2 : List Int) (r3 : Int) (w : World) (hr0 : Kd.C k122 w A0 l0.length l0) (hc0 : l0.length ≤ c0) (h : meta_Seek.f k l0 = some (r1, r2, r3)) :
    Calls Try.prog 31 #[.slice A0 l0.length c0] w (MetaPost w r1 r2 r3) := by
  unfold meta_Seek.f at h
  split at h
  case isFalse => cases h
  rename_i hl
  obtain ⟨b, hb, h⟩ := Option.bind_eq_some_iff.mp h
  have e := Option.some.inj h
  rw [Prod.mk.injEq, Prod.mk.injEq] at e
  obtain ⟨rfl, rfl, rfl⟩ := e
  refine (fn_seek w A0 l0.length c0 b (seekW l0).1 (fun W hW => ?_) (fun _ W hW => sbody_calls W A0 l0 c0 (Kd.C_below hr0 hW) hl)).mono ?_
  · refine (meta_seekRight.calls k A0 c0 l0 b W (Kd.C_below hr0 hW) hc0 hb).mono ?_
    rintro e w' ⟨he, hd⟩
    exact ⟨he, by first | exact hd | exact hd.below | (obtain ⟨m, rfl⟩ := hd; exact pw_below_drewN (Below.refl _ _) _)⟩
  · rintro e w' ⟨v, he, hr, hd⟩
    exact ⟨v, he, hr, hd⟩
def cSmallB (M : ByteArray) (F : List ByteArray) : Bool := decide (M.size ≤ 1000) && decide (F.length ≤ 1000) && F.all fun x => decide (x.size ≤ 1000)
theorem small_of {M : ByteArray} {F : List ByteArray} (h : cSmallB M F = true) : cSmall M F := by
  unfold cSmallB at h
  rw [Bool.and_eq_true, Bool.and_eq_true] at h
  exact ⟨of_decide_eq_true h.1.1, of_decide_eq_true h.1.2, fun x hx => of_decide_eq_true (List.all_eq_true.mp h.2 x hx)⟩
def meta_Comment.f (a0_0 : ByteArray) (l0_1 : List ByteArray) : Option (Int × List Int × Int) := if cSmallB a0_0 l0_1 = true then some (selI (crightP a0_0 l0_1) 4 0, selL (crightP a0_0 l0_1) (cbodyP a0_0 l0_1), selI (crightP a0_0 l0_1) 0 6) else none
theorem meta_Comment.calls (a0_0 : ByteArray) (A0_1 : Option Addr) (c0_1 : Nat) (l0_1 : List ByteArray) (r1 : Int) (r2 : List Int) (r3 : Int) (w : World) (hr0_1 : Kd.C Kd.string w A0_1 l0_1.length l0_1) (hc0_1 : l0_1.length ≤ c0_1) (h : meta_Comment.f a0_0 l0_1 = some (r1, r2, r3)) :
    Calls Try.prog 34 #[.agg #[.string a0_0, .slice A0_1 l0_1.length c0_1]] w (MetaPost w r1 r2 r3) := by
  unfold meta_Comment.f at h
  split at h
  case isFalse => cases h
  rename_i hs
  have e := Option.some.inj h
  rw [Prod.mk.injEq, Prod.mk.injEq] at e
  obtain ⟨rfl, rfl, rfl⟩ := e
  refine (fn_comm w a0_0 A0_1 l0_1.length c0_1 (crightP a0_0 l0_1) (cbodyP a0_0 l0_1) (fun W hW => cright_calls W a0_0 A0_1 l0_1 c0_1 (Kd.C_below hr0_1 hW) (small_of hs)) (fun _ W hW => cbody_calls W a0_0 A0_1 l0_1 c0_1 (Kd.C_below hr0_1 hW) (small_of hs))).mono ?_
  rintro e w' ⟨v, he, hr, hd⟩
  exact ⟨v, he, hr, hd⟩
def meta_Other.f (k : Nat) (a0_0 : Int) (l0_1 : List Int) : Option (Int × List Int × Int) := if l0_1.length ≤ 1000000000000 then (meta_odd.f k a0_0 l0_1).bind fun e => some (selI (decide (e = 0)) a0_0 0, selL (decide (e = 0)) l0_1, e) else none
theorem meta_Other.mono : ∀ a0_0 l0_1 k, LeO (meta_Other.f k a0_0 l0_1) (meta_Other.f (k + 1) a0_0 l0_1) := by
  intro a0_0 l0_1 k
  unfold meta_Other.f
  exact LeO.ite (LeO.bind (meta_odd.mono a0_0 l0_1 k) fun _ => LeO.refl _) (LeO.none _)
theorem meta_Other.calls (k : Nat) (a0_0 : Int) (A0_1 : Option Addr) (c0_1 : Nat) (l0_1 : List Int) (r1 : Int) (r2 : List Int) (r3 : Int) (w : World) (hr0_1 : Kd.C (Kd.int .u8) w A0_1 l0_1.length l0_1) (hc0_1 : l0_1.length ≤ c0_1) (h : meta_Other.f k a0_0 l0_1 = some (r1, r2, r3)) :
    Calls Try.prog 37 #[.agg #[.int .i64 a0_0, .slice A0_1 l0_1.length c0_1]] w (MetaPost w r1 r2 r3) := by
  unfold meta_Other.f at h
  split at h
  case isFalse => cases h
  rename_i hl
  obtain ⟨b, hb, h⟩ := Option.bind_eq_some_iff.mp h
  have e := Option.some.inj h
  rw [Prod.mk.injEq, Prod.mk.injEq] at e
  obtain ⟨rfl, rfl, rfl⟩ := e
  refine (fn_meta w a0_0 A0_1 l0_1 c0_1 b k hr0_1 hc0_1 hl hb).mono ?_
  rintro e w' ⟨v, he, hr, hd⟩
  exact ⟨v, he, hr, hd⟩
def serinetteref18_CommentBody.f (a0_0 : ByteArray) (l0_1 : List ByteArray) : Option (List Int) := if cSmallB a0_0 l0_1 = true then some (rcbodyP a0_0 l0_1) else none
theorem serinetteref18_CommentBody.calls (a0_0 : ByteArray) (A0_1 : Option Addr) (c0_1 : Nat) (l0_1 : List ByteArray) (r : List Int) (w : World) (hr0_1 : Kd.C Kd.string w A0_1 l0_1.length l0_1) (hc0_1 : l0_1.length ≤ c0_1) (h : serinetteref18_CommentBody.f a0_0 l0_1 = some r) :
    Calls Try.prog 36 #[.agg #[.string a0_0, .slice A0_1 l0_1.length c0_1]] w fun e w' => ∃ v0_ : Value, e = .returned (v0_) ∧ Kd.R (Kd.int .u8) 5 w' w.heap.size (fun _ => True) v0_ r ∧ Below w.heap.size w w' := by
  unfold serinetteref18_CommentBody.f at h
  split at h
  case isFalse => cases h
  rename_i hs
  obtain rfl := Option.some.inj h
  exact rcbody_calls w a0_0 A0_1 l0_1 c0_1 hr0_1 (small_of hs)
end Go.Proofs.Ytpeejdmbnlhjmaa.H
