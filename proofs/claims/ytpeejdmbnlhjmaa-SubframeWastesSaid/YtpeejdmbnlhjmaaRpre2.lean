/- A state and functions on it that the print has told, as plain functions, with the proofs that the program's calls come to them. -/
import Derived.Test.YtpeejdmbnlhjmaaProg
import Derived.Below
import Derived.Deep.Draws
import Derived.Deep.AppendLies
import Derived.Maps.AppendAt
import Derived.OwnWalk
import Derived.Laws.BytesArg
import Derived.Laws.MakeOwn
import Derived.Laws.OwnMore
import Derived.Deep.OwnRows
import Derived.Tactics
import Derived.Lib.ConvBytes
import Derived.Laws.Slices
import Derived.WalkKit
import Derived.KernelRfl
import Derived.RowKit3
import Derived.Deep.LoopGhost
import Derived.Deep.QuietTactic
import Derived.BigQuiet
import Derived.WideLaws
import Derived.Deep.DeepCutAuto
import Derived.Deep.CutBlock
import Derived.Deep.RegionHeld3
import Derived.Laws.Rows
import Derived.Lib.AppendStr
import Derived.ArgAppend
import Derived.Laws.IdiomCopy
import Derived.OrdersHeld
import Derived.Laws.BitsLemmas
import Derived.RowKit
import Derived.Test.YtpeejdmbnlhjmaaSrd
import Derived.Test.YtpeejdmbnlhjmaaWWords
import Derived.Test.YtpeejdmbnlhjmaaWLast
import Derived.Test.YtpeejdmbnlhjmaaWTab
import Derived.Test.YtpeejdmbnlhjmaaWFour
import Derived.Test.YtpeejdmbnlhjmaaWQPut
import Derived.Test.YtpeejdmbnlhjmaaWApart
import Derived.Test.YtpeejdmbnlhjmaaWArr
import Derived.Test.YtpeejdmbnlhjmaaWZeros
import Derived.Test.YtpeejdmbnlhjmaaWFoot
import Derived.Test.YtpeejdmbnlhjmaaWKept
import Derived.Test.YtpeejdmbnlhjmaaWShare
import Derived.Test.YtpeejdmbnlhjmaaWN
import Derived.Test.YtpeejdmbnlhjmaaWFootNe
import Derived.Test.YtpeejdmbnlhjmaaWAt
import Derived.Test.YtpeejdmbnlhjmaaWEqStruct
import Derived.Test.YtpeejdmbnlhjmaaWRepsOne
import Derived.Test.YtpeejdmbnlhjmaaWInv
import Derived.Test.YtpeejdmbnlhjmaaWInvWords
import Derived.Test.YtpeejdmbnlhjmaaWGuard
import Derived.Test.YtpeejdmbnlhjmaaWNEv
import Derived.Test.YtpeejdmbnlhjmaaWMore
namespace Go.Proofs.Ytpeejdmbnlhjmaa.H
open Go.RowKit Go.Proofs.YtpeejdmbnlhjmaaW.PrintWords Go.Proofs.YtpeejdmbnlhjmaaW.PrintLast Go.Proofs.YtpeejdmbnlhjmaaW.PrintMore Go.Proofs.Ytpeejdmbnlhjmaa.H
attribute [local go_sem] max2_int min2_int max_two min_two max_three min_three max_four min_four   -- for this text's walks alone
set_option linter.unusedVariables false
set_option linter.unusedSimpArgs false
/-! ### subframe_kind: function 138 -/
def subframe_kind.j0 : Nat → Int → Bool → Option (Int × Int × Int)
  | 0, _, _ => none
  | k + 1, x0, x9 => if x9 = true then (some (2, wrap64 (x0 - 8), 0)) else (if x0 > 31 then (some (3, wrap64 (x0 - 31), 0)) else (some (0, 0, 8)))
def subframe_kind.f (k : Nat) (a0 : Int) : Option (Int × Int × Int) := if a0 ≤ 1 then (some (a0, 0, 0)) else (if a0 ≥ 8 then (subframe_kind.j0 k a0 (decide (a0 ≤ 12))) else (subframe_kind.j0 k a0 false))
theorem subframe_kind.mono_l : ∀ k, (∀ y0 y1, LeO (subframe_kind.j0 k y0 y1) (subframe_kind.j0 (k + 1) y0 y1))
  | 0 => fun _ _ r h => by simp [subframe_kind.j0] at h
  | k + 1 => by
    have ih0 := subframe_kind.mono_l k
    · intro y0 y1
      unfold subframe_kind.j0
      repeat' first
      | (with_reducible exact ih0 _ _)
      | (with_reducible exact LeO.refl _)
      | (with_reducible exact LeO.none _)
      | (with_reducible refine LeO.ite ?_ ?_)
      | (with_reducible refine LeO.bind ?_ (fun _ => ?_))
      | exact ih0 _ _
      | exact LeO.none _
      | refine LeO.ite ?_ ?_
      | refine LeO.bind ?_ (fun _ => ?_)
theorem subframe_kind.mono : ∀ a0 k, LeO (subframe_kind.f k a0) (subframe_kind.f (k + 1) a0) := by
  intro a0 k
  have ih0 := subframe_kind.mono_l k
  unfold subframe_kind.f
  repeat' first
      | (with_reducible exact ih0 _ _)
      | (with_reducible exact LeO.refl _)
      | (with_reducible exact LeO.none _)
      | (with_reducible refine LeO.ite ?_ ?_)
      | (with_reducible refine LeO.bind ?_ (fun _ => ?_))
      | exact ih0 _ _
      | exact LeO.none _
      | refine LeO.ite ?_ ?_
      | refine LeO.bind ?_ (fun _ => ?_)
set_option maxHeartbeats 8000000 in
set_option maxRecDepth 100000 in
theorem subframe_kind.calls (k : Nat) (a0 : Int) (r1 : Int) (r2 : Int) (r3 : Int) (w : World) (h : subframe_kind.f k a0 = some (r1, r2, r3)) :
    Calls Try.prog 138 #[.int .i64 a0] w fun e w' => e = .returned (.tuple #[.int .i64 r1, .int .i64 r2, .int .i64 r3]) ∧ Drawn0 w w' := by
  have H : (if a0 ≤ 1 then (some (a0, 0, 0)) else (if a0 ≥ 8 then (subframe_kind.j0 k a0 (decide (a0 ≤ 12))) else (subframe_kind.j0 k a0 false))) = some (r1, r2, r3) := h
  clear h
  by_cases c2 : a0 ≤ 1
  · rw [if_pos c2] at H
    have c2b0 : decide (a0 ≤ 1) = true := decide_eq_true c2
    clear c2
    simp only [Option.some.injEq, Prod.mk.injEq] at H
    obtain ⟨rfl, rfl, rfl⟩ := H
    go_enter Try.func138, Try.ntmps138
    go_wp2
    go_ret3
    exact ⟨by first | rfl | (simp; done) | (simp [*]; done), by repeat (first | exact Drawn0.refl _ | apply Drawn0.step)⟩
  · rw [if_neg c2] at H
    have c2b0 : decide (a0 ≤ 1) = false := decide_eq_false c2
    clear c2
    have HC3 := Aside0.mk H
    clear H
    go_enter Try.func138, Try.ntmps138
    go_upto_region 3 with (fail)
    go_cut [9] (fun v9 wc => ∃ (kq : Nat) (x9_2 : Bool), v9 = .bool x9_2 ∧ Aside0 (subframe_kind.j0 kq a0 x9_2 = some (r1, r2, r3)) ∧ Aside0 (kq ≤ k) ∧ Drawn0 w wc)
    case first =>
      have H := HC3.out
      clear HC3
      by_cases c4 : a0 ≥ 8
      · rw [if_pos c4] at H
        have c4b0 : decide (8 ≤ a0) = true := decide_eq_true c4
        clear c4
        (first | rw [c4b0] | (simp only [i64_w, i32_w]; rw [c4b0]) | skip)
        have H' := Aside0.mk H
        clear H
        go_wp2
        go_meet
        case rel => exact ⟨_, (decide (a0 ≤ 12)), (by first | rfl | (simp; done) | (simp [*]; done)), H', ⟨by first | omega | exact Nat.le_refl _⟩, by repeat (first | exact Drawn0.refl _ | apply Drawn0.step)⟩
      · rw [if_neg c4] at H
        have c4b0 : decide (8 ≤ a0) = false := decide_eq_false c4
        clear c4
        (first | rw [c4b0] | (simp only [i64_w, i32_w]; rw [c4b0]) | skip)
        have H' := Aside0.mk H
        clear H
        go_wp2
        go_meet
        case rel => exact ⟨_, (false), (by first | rfl | (simp; done) | (simp [*]; done)), H', ⟨by first | omega | exact Nat.le_refl _⟩, by repeat (first | exact Drawn0.refl _ | apply Drawn0.step)⟩
    case rest =>
      clear HC3
      try clear c1
      try clear c2
      try clear c2b0
      try clear p2
      try clear c4
      try clear c4b0
      obtain ⟨kq, x9_2, rfl, HA, HJ2, ⟨mc2, rfl⟩⟩ := hcut
      cases kq with
      | zero => exact absurd HA.out (by simp [subframe_kind.j0])
      | succ kj2 =>
        have H := HA.out
        clear HA
        simp only [subframe_kind.j0] at H
        by_cases c5 : x9_2 = true
        · subst c5
          have H1 : (some (2, wrap64 (a0 - 8), 0)) = some (r1, r2, r3) := by rw [if_pos rfl] at H; exact H
          clear H
          have H := H1
          clear H1
          simp only [Option.some.injEq, Prod.mk.injEq] at H
          obtain ⟨rfl, rfl, rfl⟩ := H
          go_wp2
          go_ret3
          exact ⟨by first | rfl | (simp; done) | (simp [*]; done), by repeat (first | exact Drawn0.refl _ | apply Drawn0.step)⟩
        · replace c5 := Bool.eq_false_iff.mpr c5
          subst c5
          have H1 : (if a0 > 31 then (some (3, wrap64 (a0 - 31), 0)) else (some (0, 0, 8))) = some (r1, r2, r3) := by rw [if_neg (show ¬ (false = true) by decide)] at H; exact H
          clear H
          have H := H1
          clear H1
          by_cases c6 : a0 > 31
          · rw [if_pos c6] at H
            have c6b0 : decide (31 < a0) = true := decide_eq_true c6
            clear c6
            simp only [Option.some.injEq, Prod.mk.injEq] at H
            obtain ⟨rfl, rfl, rfl⟩ := H
            go_wp2
            go_ret3
            exact ⟨by first | rfl | (simp; done) | (simp [*]; done), by repeat (first | exact Drawn0.refl _ | apply Drawn0.step)⟩
          · rw [if_neg c6] at H
            have c6b0 : decide (31 < a0) = false := decide_eq_false c6
            clear c6
            simp only [Option.some.injEq, Prod.mk.injEq] at H
            obtain ⟨rfl, rfl, rfl⟩ := H
            go_wp2
            go_ret3
            exact ⟨by first | rfl | (simp; done) | (simp [*]; done), by repeat (first | exact Drawn0.refl _ | apply Drawn0.step)⟩

/-! ### subframe_begin: function 88 -/
mutual
def subframe_begin.j0 : Nat → Int → Int → Bool → List Int → Int → Int → Int → Int → Int → Int → Int → Bool → Int → Option (Int × Int × Int × Int × Int × List Int × Bool × Int × (List (S172)) × Int × Int × Int × Int)
  | 0, _, _, _, _, _, _, _, _, _, _, _, _, _ => none
  | k + 1, x1, x2, x20, x1000, x1001, x1002, x166000, x166001, x166002, x166003, x166004, x166006, x166007 => if x20 = true then (some (x166000, x166001, x166002, x166003, x166004, ([] : List Int), x166006, x166007, ([] : List (S172)), 0, 5, x1001, x1002)) else ((bits_Reader_Take.f k x1000 x1001 x1002 6).bind fun bt172 => ((bits_Reader_Fail.f x1000 bt172.2.1 bt172.2.2).bind fun bt175 => (if bt175.1 = 0 then ((subframe_kind.f k (wrap64 (bt172.1))).bind fun bt181 => (if bt181.2.2 = 0 then ((bits_Reader_Take.f k x1000 bt175.2.1 bt175.2.2 1).bind fun bt184 => (subframe_begin.l0 k x1 x2 bt181.2.1 (bt184.1 == 1) x1000 bt184.2.1 bt184.2.2 bt181.1 x166001 x166002 x166003 x166004 x166006 x166007)) else (some (bt181.1, x166001, x166002, x166003, x166004, ([] : List Int), x166006, x166007, ([] : List (S172)), 0, bt181.2.2, bt175.2.1, bt175.2.2)))) else ((bits_Reader_Fail.f x1000 bt175.2.1 bt175.2.2).bind fun bt178 => (some (x166000, x166001, x166002, x166003, x166004, ([] : List Int), x166006, x166007, ([] : List (S172)), 0, bt178.1, bt178.2.1, bt178.2.2))))))
def subframe_begin.l0 : Nat → Int → Int → Int → Bool → List Int → Int → Int → Int → Int → Int → Int → Int → Bool → Int → Option (Int × Int × Int × Int × Int × List Int × Bool × Int × (List (S172)) × Int × Int × Int × Int)
  | 0, _, _, _, _, _, _, _, _, _, _, _, _, _, _ => none
  | k + 1, x1, x2, x7, x11, x1000, x1001, x1002, x166000, x166001, x166002, x166003, x166004, x166006, x166007 => if x11 = true then ((bits_Reader_Fail.f x1000 x1001 x1002).bind fun bt187 => (subframe_begin.j2 k x1 x2 x7 (bt187.1 == 0) x1000 bt187.2.1 bt187.2.2 x166000 x166001 x166002 x166003 x166004 x166006 x166007)) else (subframe_begin.j2 k x1 x2 x7 false x1000 x1001 x1002 x166000 x166001 x166002 x166003 x166004 x166006 x166007)
def subframe_begin.j2 : Nat → Int → Int → Int → Bool → List Int → Int → Int → Int → Int → Int → Int → Int → Bool → Int → Option (Int × Int × Int × Int × Int × List Int × Bool × Int × (List (S172)) × Int × Int × Int × Int)
  | 0, _, _, _, _, _, _, _, _, _, _, _, _, _, _ => none
  | k + 1, x1, x2, x7, x50, x1000, x1001, x1002, x166000, x166001, x166002, x166003, x166004, x166006, x166007 => if x50 = true then (if (wrap64 (x166001 + 1)) ≥ x2 then (some (x166000, wrap64 (x166001 + 1), x166002, x166003, x166004, ([] : List Int), x166006, x166007, ([] : List (S172)), 0, 5, x1001, x1002)) else ((bits_Reader_Take.f k x1000 x1001 x1002 1).bind fun bt190 => (subframe_begin.l0 k x1 x2 x7 (bt190.1 == 0) x1000 bt190.2.1 bt190.2.2 x166000 (wrap64 (x166001 + 1)) x166002 x166003 x166004 x166006 x166007))) else ((bits_Reader_Fail.f x1000 x1001 x1002).bind fun bt193 => (if bt193.1 = 0 then (if x7 ≥ x1 then (some (x166000, x166001, x166002, x166003, x166004, ([] : List Int), x166006, x166007, ([] : List (S172)), 0, 5, bt193.2.1, bt193.2.2)) else ((bits_Reader_Fail.f x1000 bt193.2.1 bt193.2.2).bind fun bt196 => (some (x166000, x166001, x166002, x166003, x166004, ([] : List Int), x166006, x166007, ([] : List (S172)), x7, bt196.1, bt196.2.1, bt196.2.2)))) else ((bits_Reader_Fail.f x1000 bt193.2.1 bt193.2.2).bind fun bt199 => (some (x166000, x166001, x166002, x166003, x166004, ([] : List Int), x166006, x166007, ([] : List (S172)), x7, bt199.1, bt199.2.1, bt199.2.2)))))
end
def subframe_begin.f (k : Nat) (s0_0 : List Int) (s0_1 : Int) (s0_2 : Int) (a1 : Int) (a2 : Int) : Option (Int × Int × Int × Int × Int × List Int × Bool × Int × (List (S172)) × Int × Int × Int × Int) := (bits_Reader_Take.f k s0_0 s0_1 s0_2 1).bind fun bt166 => ((bits_Reader_Fail.f s0_0 bt166.2.1 bt166.2.2).bind fun bt169 => (if bt169.1 = 0 then (subframe_begin.j0 k a1 a2 (bt166.1 != 0) s0_0 bt169.2.1 bt169.2.2 0 0 0 0 0 false 0) else (subframe_begin.j0 k a1 a2 false s0_0 bt169.2.1 bt169.2.2 0 0 0 0 0 false 0)))
theorem subframe_begin.mono_l : ∀ k, (∀ y0 y1 y2 y3 y4 y5 y6 y7 y8 y9 y10 y11 y12, LeO (subframe_begin.j0 k y0 y1 y2 y3 y4 y5 y6 y7 y8 y9 y10 y11 y12) (subframe_begin.j0 (k + 1) y0 y1 y2 y3 y4 y5 y6 y7 y8 y9 y10 y11 y12)) ∧ (∀ y0 y1 y2 y3 y4 y5 y6 y7 y8 y9 y10 y11 y12 y13, LeO (subframe_begin.l0 k y0 y1 y2 y3 y4 y5 y6 y7 y8 y9 y10 y11 y12 y13) (subframe_begin.l0 (k + 1) y0 y1 y2 y3 y4 y5 y6 y7 y8 y9 y10 y11 y12 y13)) ∧ (∀ y0 y1 y2 y3 y4 y5 y6 y7 y8 y9 y10 y11 y12 y13, LeO (subframe_begin.j2 k y0 y1 y2 y3 y4 y5 y6 y7 y8 y9 y10 y11 y12 y13) (subframe_begin.j2 (k + 1) y0 y1 y2 y3 y4 y5 y6 y7 y8 y9 y10 y11 y12 y13))
  | 0 => ⟨fun _ _ _ _ _ _ _ _ _ _ _ _ _ r h => by simp [subframe_begin.j0] at h, fun _ _ _ _ _ _ _ _ _ _ _ _ _ _ r h => by simp [subframe_begin.l0] at h, fun _ _ _ _ _ _ _ _ _ _ _ _ _ _ r h => by simp [subframe_begin.j2] at h⟩
  | k + 1 => by
    obtain ⟨ih0, ih1, ih2⟩ := subframe_begin.mono_l k
    refine ⟨?_, ?_, ?_⟩
    · intro y0 y1 y2 y3 y4 y5 y6 y7 y8 y9 y10 y11 y12
      unfold subframe_begin.j0
      repeat' first
      | (with_reducible exact ih0 _ _ _ _ _ _ _ _ _ _ _ _ _)
      | (with_reducible exact ih1 _ _ _ _ _ _ _ _ _ _ _ _ _ _)
      | (with_reducible exact ih2 _ _ _ _ _ _ _ _ _ _ _ _ _ _)
      | (with_reducible exact bits_Reader_Take.mono _ _ _ _ _)
      | (with_reducible exact subframe_kind.mono _ _)
      | (with_reducible exact LeO.refl _)
      | (with_reducible exact LeO.none _)
      | (with_reducible refine LeO.ite ?_ ?_)
      | (with_reducible refine LeO.bind ?_ (fun _ => ?_))
      | exact ih0 _ _ _ _ _ _ _ _ _ _ _ _ _
      | exact ih1 _ _ _ _ _ _ _ _ _ _ _ _ _ _
      | exact ih2 _ _ _ _ _ _ _ _ _ _ _ _ _ _
      | exact bits_Reader_Take.mono _ _ _ _ _
      | exact subframe_kind.mono _ _
      | exact LeO.none _
      | refine LeO.ite ?_ ?_
      | refine LeO.bind ?_ (fun _ => ?_)
    · intro y0 y1 y2 y3 y4 y5 y6 y7 y8 y9 y10 y11 y12 y13
      unfold subframe_begin.l0
      repeat' first
      | (with_reducible exact ih0 _ _ _ _ _ _ _ _ _ _ _ _ _)
      | (with_reducible exact ih1 _ _ _ _ _ _ _ _ _ _ _ _ _ _)
      | (with_reducible exact ih2 _ _ _ _ _ _ _ _ _ _ _ _ _ _)
      | (with_reducible exact bits_Reader_Take.mono _ _ _ _ _)
      | (with_reducible exact subframe_kind.mono _ _)
      | (with_reducible exact LeO.refl _)
      | (with_reducible exact LeO.none _)
      | (with_reducible refine LeO.ite ?_ ?_)
      | (with_reducible refine LeO.bind ?_ (fun _ => ?_))
      | exact ih0 _ _ _ _ _ _ _ _ _ _ _ _ _
      | exact ih1 _ _ _ _ _ _ _ _ _ _ _ _ _ _
      | exact ih2 _ _ _ _ _ _ _ _ _ _ _ _ _ _
      | exact bits_Reader_Take.mono _ _ _ _ _
      | exact subframe_kind.mono _ _
      | exact LeO.none _
      | refine LeO.ite ?_ ?_
      | refine LeO.bind ?_ (fun _ => ?_)
    · intro y0 y1 y2 y3 y4 y5 y6 y7 y8 y9 y10 y11 y12 y13
      unfold subframe_begin.j2
      repeat' first
      | (with_reducible exact ih0 _ _ _ _ _ _ _ _ _ _ _ _ _)
      | (with_reducible exact ih1 _ _ _ _ _ _ _ _ _ _ _ _ _ _)
      | (with_reducible exact ih2 _ _ _ _ _ _ _ _ _ _ _ _ _ _)
      | (with_reducible exact bits_Reader_Take.mono _ _ _ _ _)
      | (with_reducible exact subframe_kind.mono _ _)
      | (with_reducible exact LeO.refl _)
      | (with_reducible exact LeO.none _)
      | (with_reducible refine LeO.ite ?_ ?_)
      | (with_reducible refine LeO.bind ?_ (fun _ => ?_))
      | exact ih0 _ _ _ _ _ _ _ _ _ _ _ _ _
      | exact ih1 _ _ _ _ _ _ _ _ _ _ _ _ _ _
      | exact ih2 _ _ _ _ _ _ _ _ _ _ _ _ _ _
      | exact bits_Reader_Take.mono _ _ _ _ _
      | exact subframe_kind.mono _ _
      | exact LeO.none _
      | refine LeO.ite ?_ ?_
      | refine LeO.bind ?_ (fun _ => ?_)
theorem subframe_begin.mono : ∀ a0 a1 a2 a3 a4 k, LeO (subframe_begin.f k a0 a1 a2 a3 a4) (subframe_begin.f (k + 1) a0 a1 a2 a3 a4) := by
  intro a0 a1 a2 a3 a4 k
  obtain ⟨ih0, ih1, ih2⟩ := subframe_begin.mono_l k
  unfold subframe_begin.f
  repeat' first
      | (with_reducible exact ih0 _ _ _ _ _ _ _ _ _ _ _ _ _)
      | (with_reducible exact ih1 _ _ _ _ _ _ _ _ _ _ _ _ _ _)
      | (with_reducible exact ih2 _ _ _ _ _ _ _ _ _ _ _ _ _ _)
      | (with_reducible exact bits_Reader_Take.mono _ _ _ _ _)
      | (with_reducible exact subframe_kind.mono _ _)
      | (with_reducible exact LeO.refl _)
      | (with_reducible exact LeO.none _)
      | (with_reducible refine LeO.ite ?_ ?_)
      | (with_reducible refine LeO.bind ?_ (fun _ => ?_))
      | exact ih0 _ _ _ _ _ _ _ _ _ _ _ _ _
      | exact ih1 _ _ _ _ _ _ _ _ _ _ _ _ _ _
      | exact ih2 _ _ _ _ _ _ _ _ _ _ _ _ _ _
      | exact bits_Reader_Take.mono _ _ _ _ _
      | exact subframe_kind.mono _ _
      | exact LeO.none _
      | refine LeO.ite ?_ ?_
      | refine LeO.bind ?_ (fun _ => ?_)
set_option maxHeartbeats 8000000 in
set_option maxRecDepth 100000 in
theorem subframe_begin.calls (k : Nat) (g : Nat) (s0_0 : List Int) (s0_1 : Int) (s0_2 : Int) (a1 : Int) (a2 : Int) (r1 : Int) (r2 : Int) (r3 : Int) (r4 : Int) (r5 : Int) (r6 : List Int) (r7 : Bool) (r8 : Int) (r9 : List (S172)) (r10 : Int) (r11 : Int) (r12 : Int) (r13 : Int) (w0 w : World) (hI : IsS150 w0 w g s0_0 s0_1 s0_2) (hB : Below w0.heap.size w0 w) (h : subframe_begin.f k s0_0 s0_1 s0_2 a1 a2 = some (r1, r2, r3, r4, r5, r6, r7, r8, r9, r10, r11, r12, r13)) :
    Calls Try.prog 88 #[.pointer (some ⟨g, 0, none⟩), .int .i64 a1, .int .i64 a2] w fun e w' => ∃ v5_ v8_ : Value, e = .returned (.tuple #[.agg #[.int .i64 r1, .int .i64 r2, .int .i64 r3, .int .i64 r4, .int .i64 r5, v5_, .bool r7, .int .i64 r8, v8_], .int .i64 r10, .int .i64 r11]) ∧ Kd.R (Kd.int .i64) 3 w' w.heap.size (fun _ => True) v5_ r6 ∧ Kd.R k172 172 w' w.heap.size (fun _ => True) v8_ r9 ∧ IsS150 w0 w' g s0_0 r12 r13 ∧ Below w0.heap.size w0 w' ∧ KeepBut w w' g none := by
  have hu87 := Try.underlying87
  have HI0 := Aside0.mk hI
  have HK := Aside0.mk (KeepBut.refl w g none)
  have HL := Aside0.mk hB.size
  clear hI
  have HW0 := Aside0.mk hB.size
  have HB := Aside0.mk hB
  clear hB
  have H : ((bits_Reader_Take.f k s0_0 s0_1 s0_2 1).bind fun bt166 => ((bits_Reader_Fail.f s0_0 bt166.2.1 bt166.2.2).bind fun bt169 => (if bt169.1 = 0 then (subframe_begin.j0 k a1 a2 (bt166.1 != 0) s0_0 bt169.2.1 bt169.2.2 0 0 0 0 0 false 0) else (subframe_begin.j0 k a1 a2 false s0_0 bt169.2.1 bt169.2.2 0 0 0 0 0 false 0)))) = some (r1, r2, r3, r4, r5, r6, r7, r8, r9, r10, r11, r12, r13) := h
  clear h
  replace H := Option.bind_eq_some_iff.mp H
  obtain ⟨⟨t166, t167, t168⟩, A40, H⟩ := H
  replace H : ((bits_Reader_Fail.f s0_0 t167 t168).bind fun bt169 => (if bt169.1 = 0 then (subframe_begin.j0 k a1 a2 (t166 != 0) s0_0 bt169.2.1 bt169.2.2 0 0 0 0 0 false 0) else (subframe_begin.j0 k a1 a2 false s0_0 bt169.2.1 bt169.2.2 0 0 0 0 0 false 0))) = some (r1, r2, r3, r4, r5, r6, r7, r8, r9, r10, r11, r12, r13) := H
  have A4 := Aside0.mk A40
  clear A40
  have HC5 := Aside0.mk H
  clear H
  go_enter Try.func88, Try.ntmps88
  go_upto_region 2 with (first | ((with_reducible refine gate_dst (N := 6) rfl ?_); refine box_event ?hg (N := 6) ?hd (cs := #[.int .i64 0, .int .i64 0, .int .i64 0, .int .i64 0, .int .i64 0, .slice none 0 0, .bool false, .int .i64 0, .slice none 0 0]) (t := 87) ?hr ?_; (case hd => rfl); (case hg => rfl); (case hr => first | (go_simp; done) | (go_simp; rfl)); intro gb165 hg w6 hbox hb; have n0_ := Aside0.mk (IsS150.below (by repeat (first | (with_reducible first | exact HI0.out | apply IsS150.alloc | apply IsS150.drewN | apply IsS150.drew | apply IsS150.set_1 | apply IsS150.set_2) | exact HI0.out)) hb); have n1_ := Aside0.mk (KeepBut.trans (by repeat (first | (with_reducible first | exact HK.out | apply KeepBut.set_ | apply keep_drewN | apply keep_drew | apply keep_alloc) | exact HK.out)) (KeepBut.of_below hb g none) (.inl rfl)); have n2_ := Aside0.mk (below_step (by repeat (first | (with_reducible first | exact HB.out | apply below_alloc | apply pw_below_drewN | apply below_drew1 | refine below_set ?_ (IsS150.ge HI0.out)) | exact HB.out)) hb); have n3_ := Aside0.mk (hbox); have n4_ := Aside0.mk ((by rw [hg]; exact (keep_size (w := w) (g := g) (row := none) (by repeat (first | (with_reducible first | exact HK.out | apply KeepBut.set_ | apply keep_drewN | apply keep_drew | apply keep_alloc) | exact HK.out))) : w.heap.size ≤ gb165)); have n5_ := Aside0.mk ((Nat.le_trans HW0.out (by rw [hg]; exact (keep_size (w := w) (g := g) (row := none) (by repeat (first | (with_reducible first | exact HK.out | apply KeepBut.set_ | apply keep_drewN | apply keep_drew | apply keep_alloc) | exact HK.out))) : w.heap.size ≤ gb165) : w0.heap.size ≤ gb165)); have n6_ := Aside0.mk ((by rw [hg]; exact Nat.ne_of_lt (IsS150.lt (show IsS150 w0 _ g s0_0 s0_1 s0_2 from by repeat (first | (with_reducible first | exact HI0.out | apply IsS150.alloc | apply IsS150.drewN | apply IsS150.drew | apply IsS150.set_1 | apply IsS150.set_2) | exact HI0.out))) : g ≠ gb165)); have n7_ := Aside0.mk ((by rw [hg]; exact Nat.ne_of_gt (IsS150.lt (show IsS150 w0 _ g s0_0 s0_1 s0_2 from by repeat (first | (with_reducible first | exact HI0.out | apply IsS150.alloc | apply IsS150.drewN | apply IsS150.drew | apply IsS150.set_1 | apply IsS150.set_2) | exact HI0.out))) : gb165 ≠ g)); clear HI0; clear HK; clear HB; have HI0 := n0_; have HK := n1_; have HB := n2_; have BK165 := n3_; have GW165 := n4_; have GE165 := n5_; have NB0_165 := n6_; have NB165_0 := n7_; clear n0_ n1_ n2_ n3_ n4_ n5_ n6_ n7_; clear hb hbox hg) | ((with_reducible refine gate_callee (f := 137) rfl ?_); refine goesL_ (some 13) rfl rfl Try.func137 (by kernel_rfl) rfl #[.pointer (some ⟨g, 0, none⟩), .int .i64 1] rfl (by (try simp only [List.map_toArray, List.map_cons, List.map_nil]); first | done | rfl | (simp only [List.length_drop, List.length_take]; rfl)) ?_; (with_reducible refine (bits_Reader_Take.calls k g s0_0 s0_1 s0_2 1 t166 t167 t168 w0 _ ?side1 ?side2 A4.out).mono ?_); (case side1 => repeat (first | (with_reducible first | exact HI0.out | apply IsS150.alloc | apply IsS150.drewN | apply IsS150.drew | apply IsS150.set_1 | apply IsS150.set_2 | refine IsS150.far ?_ NB0_165.out _) | exact HI0.out)); (case side2 => repeat (first | (with_reducible first | exact HB.out | apply below_alloc | apply pw_below_drewN | apply below_drew1 | refine below_set ?_ (IsS150.ge HI0.out) | refine below_set ?_ GE165.out) | exact HB.out)); rintro e w7 ⟨rfl, hi, hb, hk⟩; refine ⟨_, rfl, ?_⟩; have n0_ := Aside0.mk (KeepBut.blk hk (g' := gb165) (o := .cells #[.int .i64 0, .int .i64 0, .int .i64 0, .int .i64 0, .int .i64 0, .slice none 0 0, .bool false, .int .i64 0, .slice none 0 0] 87 (0, 0)) (by (with_reducible repeat (first | refine blk_drewN ?_ _ | refine blk_drew ?_ | refine blk_alloc ?_ _)); exact BK165.out) NB165_0.out (by simp)); have n1_ := Aside0.mk (KeepBut.trans (by repeat (first | (with_reducible first | exact HK.out | apply KeepBut.set_ | apply keep_drewN | apply keep_drew | apply keep_alloc | refine keep_far ?_ GW165.out _) | exact HK.out)) hk (.inl rfl)); have n2_ := Aside0.mk (hb); have n3_ := Aside0.mk (hi); clear BK165; clear HK; clear HB; clear HI0; have BK165 := n0_; have HK := n1_; have HB := n2_; have HI0 := n3_; clear n0_ n1_ n2_ n3_; (try clear hb); (try clear hb2); (try clear hk); (try clear hi)))
  (try simp only [Act.put, List.setIfInBounds_toArray, List.set_cons_zero, List.set_cons_succ])
  go_cut [20] (fun v20 wc => ∃ (kq : Nat) (x20_4 : Bool) (x1001_4 : Int) (x1002_4 : Int), v20 = .bool x20_4 ∧ Aside0 (subframe_begin.j0 kq a1 a2 x20_4 s0_0 x1001_4 x1002_4 0 0 0 0 0 false 0 = some (r1, r2, r3, r4, r5, r6, r7, r8, r9, r10, r11, r12, r13)) ∧ Aside0 (kq ≤ k) ∧ Aside0 (wc.heap[gb165]? = some (.cells #[.int .i64 0, .int .i64 0, .int .i64 0, .int .i64 0, .int .i64 0, (.slice none 0 0), .bool false, .int .i64 0, (.slice none 0 0)] 87 (0, 0))) ∧ Aside0 (IsS150 w0 wc g s0_0 x1001_4 x1002_4) ∧ Aside0 (KeepBut w wc g none) ∧ Aside0 (Below w0.heap.size w0 wc))
  case first =>
    have H := HC5.out
    clear HC5
    replace H := Option.bind_eq_some_iff.mp H
    obtain ⟨⟨t169, t170, t171⟩, A80, H⟩ := H
    replace H : (if t169 = 0 then (subframe_begin.j0 k a1 a2 (t166 != 0) s0_0 t170 t171 0 0 0 0 0 false 0) else (subframe_begin.j0 k a1 a2 false s0_0 t170 t171 0 0 0 0 0 false 0)) = some (r1, r2, r3, r4, r5, r6, r7, r8, r9, r10, r11, r12, r13) := H
    have A8 := Aside0.mk A80
    clear A80
    by_cases c9 : t169 = 0
    · rw [if_pos c9] at H
      have c9b0 : (t169 == 0) = true := beq_iff_eq.mpr c9
      have c9b1 : (t169 != 0) = false := bne_eq_false_iff_eq.mpr c9
      clear c9
      (first | rw [c9b0] | (simp only [i64_w, i32_w]; rw [c9b0]) | skip)
      have H' := Aside0.mk H
      clear H
      go_wp2_with (first | ((with_reducible refine gate_callee (f := 90) rfl ?_); refine goesL_ (some 15) rfl rfl Try.func90 (by kernel_rfl) rfl #[.pointer (some ⟨g, 0, none⟩)] rfl (by (try simp only [List.map_toArray, List.map_cons, List.map_nil]); first | done | rfl | (simp only [List.length_drop, List.length_take]; rfl)) ?_; (with_reducible refine (bits_Reader_Fail.calls g s0_0 t167 t168 t169 t170 t171 w0 _ ?side1 ?side2 A8.out).mono ?_); (case side1 => repeat (first | (with_reducible first | exact HI0.out | apply IsS150.alloc | apply IsS150.drewN | apply IsS150.drew | apply IsS150.set_1 | apply IsS150.set_2 | refine IsS150.far ?_ NB0_165.out _) | exact HI0.out)); (case side2 => repeat (first | (with_reducible first | exact HB.out | apply below_alloc | apply pw_below_drewN | apply below_drew1 | refine below_set ?_ (IsS150.ge HI0.out) | refine below_set ?_ GE165.out) | exact HB.out)); rintro e w10 ⟨rfl, hi, hb, hk⟩; refine ⟨_, rfl, ?_⟩; have n0_ := Aside0.mk (KeepBut.blk hk (g' := gb165) (o := .cells #[.int .i64 0, .int .i64 0, .int .i64 0, .int .i64 0, .int .i64 0, .slice none 0 0, .bool false, .int .i64 0, .slice none 0 0] 87 (0, 0)) (by (with_reducible repeat (first | refine blk_drewN ?_ _ | refine blk_drew ?_ | refine blk_alloc ?_ _)); exact BK165.out) NB165_0.out (by simp)); have n1_ := Aside0.mk (KeepBut.trans (by repeat (first | (with_reducible first | exact HK.out | apply KeepBut.set_ | apply keep_drewN | apply keep_drew | apply keep_alloc | refine keep_far ?_ GW165.out _) | exact HK.out)) hk (.inl rfl)); have n2_ := Aside0.mk (hb); have n3_ := Aside0.mk (hi); clear BK165; clear HK; clear HB; clear HI0; have BK165 := n0_; have HK := n1_; have HB := n2_; have HI0 := n3_; clear n0_ n1_ n2_ n3_; (try clear hb); (try clear hb2); (try clear hk); (try clear hi)))
      go_meet
      case rel => exact ⟨_, ((t166 != 0)), (t170), (t171), (by first | rfl | (simp; done) | (simp [*]; done)), H', ⟨by first | omega | exact Nat.le_refl _⟩, ⟨by (with_reducible repeat (first | refine blk_drewN ?_ _ | refine blk_drew ?_ | refine blk_alloc ?_ _)); exact BK165.out⟩, ⟨by repeat (first | (with_reducible first | exact HI0.out | apply IsS150.alloc | apply IsS150.drewN | apply IsS150.drew | apply IsS150.set_1 | apply IsS150.set_2 | refine IsS150.far ?_ NB0_165.out _) | exact HI0.out)⟩, ⟨by repeat (first | (with_reducible first | exact HK.out | apply KeepBut.set_ | apply keep_drewN | apply keep_drew | apply keep_alloc | refine keep_far ?_ GW165.out _) | exact HK.out)⟩, ⟨by repeat (first | (with_reducible first | exact HB.out | apply below_alloc | apply pw_below_drewN | apply below_drew1 | refine below_set ?_ (IsS150.ge HI0.out) | refine below_set ?_ GE165.out) | exact HB.out)⟩⟩
    · rw [if_neg c9] at H
      have c9b0 : (t169 == 0) = false := beq_eq_false_iff_ne.mpr c9
      have c9b1 : (t169 != 0) = true := bne_iff_ne.mpr c9
      (first | rw [c9b0] | (simp only [i64_w, i32_w]; rw [c9b0]) | skip)
      have H' := Aside0.mk H
      clear H
      go_wp2_with (first | ((with_reducible refine gate_callee (f := 90) rfl ?_); refine goesL_ (some 15) rfl rfl Try.func90 (by kernel_rfl) rfl #[.pointer (some ⟨g, 0, none⟩)] rfl (by (try simp only [List.map_toArray, List.map_cons, List.map_nil]); first | done | rfl | (simp only [List.length_drop, List.length_take]; rfl)) ?_; (with_reducible refine (bits_Reader_Fail.calls g s0_0 t167 t168 t169 t170 t171 w0 _ ?side1 ?side2 A8.out).mono ?_); (case side1 => repeat (first | (with_reducible first | exact HI0.out | apply IsS150.alloc | apply IsS150.drewN | apply IsS150.drew | apply IsS150.set_1 | apply IsS150.set_2 | refine IsS150.far ?_ NB0_165.out _) | exact HI0.out)); (case side2 => repeat (first | (with_reducible first | exact HB.out | apply below_alloc | apply pw_below_drewN | apply below_drew1 | refine below_set ?_ (IsS150.ge HI0.out) | refine below_set ?_ GE165.out) | exact HB.out)); rintro e w11 ⟨rfl, hi, hb, hk⟩; refine ⟨_, rfl, ?_⟩; have n0_ := Aside0.mk (KeepBut.blk hk (g' := gb165) (o := .cells #[.int .i64 0, .int .i64 0, .int .i64 0, .int .i64 0, .int .i64 0, .slice none 0 0, .bool false, .int .i64 0, .slice none 0 0] 87 (0, 0)) (by (with_reducible repeat (first | refine blk_drewN ?_ _ | refine blk_drew ?_ | refine blk_alloc ?_ _)); exact BK165.out) NB165_0.out (by simp)); have n1_ := Aside0.mk (KeepBut.trans (by repeat (first | (with_reducible first | exact HK.out | apply KeepBut.set_ | apply keep_drewN | apply keep_drew | apply keep_alloc | refine keep_far ?_ GW165.out _) | exact HK.out)) hk (.inl rfl)); have n2_ := Aside0.mk (hb); have n3_ := Aside0.mk (hi); clear BK165; clear HK; clear HB; clear HI0; have BK165 := n0_; have HK := n1_; have HB := n2_; have HI0 := n3_; clear n0_ n1_ n2_ n3_; (try clear hb); (try clear hb2); (try clear hk); (try clear hi)))
      go_meet
      case rel => exact ⟨_, (false), (t170), (t171), (by first | rfl | (simp; done) | (simp [*]; done)), H', ⟨by first | omega | exact Nat.le_refl _⟩, ⟨by (with_reducible repeat (first | refine blk_drewN ?_ _ | refine blk_drew ?_ | refine blk_alloc ?_ _)); exact BK165.out⟩, ⟨by repeat (first | (with_reducible first | exact HI0.out | apply IsS150.alloc | apply IsS150.drewN | apply IsS150.drew | apply IsS150.set_1 | apply IsS150.set_2 | refine IsS150.far ?_ NB0_165.out _) | exact HI0.out)⟩, ⟨by repeat (first | (with_reducible first | exact HK.out | apply KeepBut.set_ | apply keep_drewN | apply keep_drew | apply keep_alloc | refine keep_far ?_ GW165.out _) | exact HK.out)⟩, ⟨by repeat (first | (with_reducible first | exact HB.out | apply below_alloc | apply pw_below_drewN | apply below_drew1 | refine below_set ?_ (IsS150.ge HI0.out) | refine below_set ?_ GE165.out) | exact HB.out)⟩⟩
  case rest =>
    clear HC5
    try clear c1
    try clear p2
    try clear c8
    try clear c9
    try clear c9b0
    try clear c9b1
    obtain ⟨kq, x20_4, x1001_4, x1002_4, rfl, HA, HJ4, BK165, HI0, HK, HB⟩ := hcut
    cases kq with
    | zero => exact absurd HA.out (by simp [subframe_begin.j0])
    | succ kj4 =>
      have H := HA.out
      clear HA
      simp only [subframe_begin.j0] at H
      by_cases c12 : x20_4 = true
      · subst c12
        have H1 : (some (0, 0, 0, 0, 0, ([] : List Int), false, 0, ([] : List (S172)), 0, 5, x1001_4, x1002_4)) = some (r1, r2, r3, r4, r5, r6, r7, r8, r9, r10, r11, r12, r13) := by rw [if_pos rfl] at H; exact H
        clear H
        have H := H1
        clear H1
        simp only [Option.some.injEq, Prod.mk.injEq] at H
        obtain ⟨rfl, rfl, rfl, rfl, rfl, rfl, rfl, rfl, rfl, rfl, rfl, rfl, rfl⟩ := H
        have hnb13 := NB165_0.out
        have hnc13 := NB0_165.out
        have hcz14_0 : wc.cell? ⟨gb165, 0, none⟩ = some (.int .i64 0) := (blk_cell BK165.out 0).trans rfl
        have hcz14_1 : wc.cell? ⟨gb165, 1, none⟩ = some (.int .i64 0) := (blk_cell BK165.out 1).trans rfl
        have hcz14_2 : wc.cell? ⟨gb165, 2, none⟩ = some (.int .i64 0) := (blk_cell BK165.out 2).trans rfl
        have hcz14_3 : wc.cell? ⟨gb165, 3, none⟩ = some (.int .i64 0) := (blk_cell BK165.out 3).trans rfl
        have hcz14_4 : wc.cell? ⟨gb165, 4, none⟩ = some (.int .i64 0) := (blk_cell BK165.out 4).trans rfl
        have hcz14_5 : wc.cell? ⟨gb165, 5, none⟩ = some (.slice none 0 0) := (blk_cell BK165.out 5).trans rfl
        have hcz14_6 : wc.cell? ⟨gb165, 6, none⟩ = some (.bool false) := (blk_cell BK165.out 6).trans rfl
        have hcz14_7 : wc.cell? ⟨gb165, 7, none⟩ = some (.int .i64 0) := (blk_cell BK165.out 7).trans rfl
        have hcz14_8 : wc.cell? ⟨gb165, 8, none⟩ = some (.slice none 0 0) := (blk_cell BK165.out 8).trans rfl
        have hfz14_0 := blk_frozen BK165.out 0
        have hfz14_1 := blk_frozen BK165.out 1
        have hfz14_2 := blk_frozen BK165.out 2
        have hfz14_3 := blk_frozen BK165.out 3
        have hfz14_4 := blk_frozen BK165.out 4
        have hfz14_5 := blk_frozen BK165.out 5
        have hfz14_6 := blk_frozen BK165.out 6
        have hfz14_7 := blk_frozen BK165.out 7
        have hfz14_8 := blk_frozen BK165.out 8
        go_wp2
        refine bodyPost_ret (results_ctt rfl _ _ gb165 87 #[.int .i64 0, .int .i64 0, .int .i64 0, .int .i64 0, .int .i64 0, .slice none 0 0, .bool false, .int .i64 0, .slice none 0 0] (0, 0) _ rfl (by (with_reducible repeat (first | refine blk_drewN ?_ _ | refine blk_drew ?_ | refine blk_alloc ?_ _)); refine blk_put (cs := #[.int .i64 0, .int .i64 0, .int .i64 0, .int .i64 0, .int .i64 0, .slice none 0 0, .bool false, .int .i64 0, .slice none 0 0]) ?_ 8 _ rfl; (with_reducible repeat (first | refine blk_drewN ?_ _ | refine blk_drew ?_ | refine blk_alloc ?_ _)); refine blk_put (cs := #[.int .i64 0, .int .i64 0, .int .i64 0, .int .i64 0, .int .i64 0, .slice none 0 0, .bool false, .int .i64 0, .slice none 0 0]) ?_ 7 _ rfl; (with_reducible repeat (first | refine blk_drewN ?_ _ | refine blk_drew ?_ | refine blk_alloc ?_ _)); refine blk_put (cs := #[.int .i64 0, .int .i64 0, .int .i64 0, .int .i64 0, .int .i64 0, .slice none 0 0, .bool false, .int .i64 0, .slice none 0 0]) ?_ 6 _ rfl; (with_reducible repeat (first | refine blk_drewN ?_ _ | refine blk_drew ?_ | refine blk_alloc ?_ _)); refine blk_put (cs := #[.int .i64 0, .int .i64 0, .int .i64 0, .int .i64 0, .int .i64 0, .slice none 0 0, .bool false, .int .i64 0, .slice none 0 0]) ?_ 5 _ rfl; (with_reducible repeat (first | refine blk_drewN ?_ _ | refine blk_drew ?_ | refine blk_alloc ?_ _)); refine blk_put (cs := #[.int .i64 0, .int .i64 0, .int .i64 0, .int .i64 0, .int .i64 0, .slice none 0 0, .bool false, .int .i64 0, .slice none 0 0]) ?_ 4 _ rfl; (with_reducible repeat (first | refine blk_drewN ?_ _ | refine blk_drew ?_ | refine blk_alloc ?_ _)); refine blk_put (cs := #[.int .i64 0, .int .i64 0, .int .i64 0, .int .i64 0, .int .i64 0, .slice none 0 0, .bool false, .int .i64 0, .slice none 0 0]) ?_ 3 _ rfl; (with_reducible repeat (first | refine blk_drewN ?_ _ | refine blk_drew ?_ | refine blk_alloc ?_ _)); refine blk_put (cs := #[.int .i64 0, .int .i64 0, .int .i64 0, .int .i64 0, .int .i64 0, .slice none 0 0, .bool false, .int .i64 0, .slice none 0 0]) ?_ 2 _ rfl; (with_reducible repeat (first | refine blk_drewN ?_ _ | refine blk_drew ?_ | refine blk_alloc ?_ _)); refine blk_put (cs := #[.int .i64 0, .int .i64 0, .int .i64 0, .int .i64 0, .int .i64 0, .slice none 0 0, .bool false, .int .i64 0, .slice none 0 0]) ?_ 1 _ rfl; (with_reducible repeat (first | refine blk_drewN ?_ _ | refine blk_drew ?_ | refine blk_alloc ?_ _)); refine blk_put (cs := #[.int .i64 0, .int .i64 0, .int .i64 0, .int .i64 0, .int .i64 0, .slice none 0 0, .bool false, .int .i64 0, .slice none 0 0]) ?_ 0 _ rfl; (with_reducible repeat (first | refine blk_drewN ?_ _ | refine blk_drew ?_ | refine blk_alloc ?_ _)); exact BK165.out) Try.underlying87 rfl (by kernel_rfl)) rfl ?_
        exact ⟨_, _, by first | rfl | (simp [errW_none, errW_some] <;> rfl) | (simp [*, errW_none, errW_some] <;> rfl), by first | exact Kd.R_nil _ _ _ _ _ | exact Kd.N_nil _ _ _ _ _ | exact Kd.V_nil _ _ _ _ _ | exact Kd.Q_nil _ _ _ _ _ | exact Kd.S_nil _ _ _ _ _, by first | exact Kd.R_nil _ _ _ _ _ | exact Kd.N_nil _ _ _ _ _ | exact Kd.V_nil _ _ _ _ _ | exact Kd.Q_nil _ _ _ _ _ | exact Kd.S_nil _ _ _ _ _, by repeat (first | (with_reducible first | exact HI0.out | apply IsS150.alloc | apply IsS150.drewN | apply IsS150.drew | apply IsS150.set_1 | apply IsS150.set_2 | refine IsS150.far ?_ NB0_165.out _) | exact HI0.out), by repeat (first | (with_reducible first | exact HB.out | apply below_alloc | apply pw_below_drewN | apply below_drew1 | refine below_set ?_ (IsS150.ge HI0.out) | refine below_set ?_ GE165.out) | exact HB.out), by repeat (first | (with_reducible first | exact HK.out | apply KeepBut.set_ | apply keep_drewN | apply keep_drew | apply keep_alloc | refine keep_far ?_ GW165.out _) | exact HK.out)⟩
      · replace c12 := Bool.eq_false_iff.mpr c12
        subst c12
        have H1 : ((bits_Reader_Take.f kj4 s0_0 x1001_4 x1002_4 6).bind fun bt172 => ((bits_Reader_Fail.f s0_0 bt172.2.1 bt172.2.2).bind fun bt175 => (if bt175.1 = 0 then ((subframe_kind.f kj4 (wrap64 (bt172.1))).bind fun bt181 => (if bt181.2.2 = 0 then ((bits_Reader_Take.f kj4 s0_0 bt175.2.1 bt175.2.2 1).bind fun bt184 => (subframe_begin.l0 kj4 a1 a2 bt181.2.1 (bt184.1 == 1) s0_0 bt184.2.1 bt184.2.2 bt181.1 0 0 0 0 false 0)) else (some (bt181.1, 0, 0, 0, 0, ([] : List Int), false, 0, ([] : List (S172)), 0, bt181.2.2, bt175.2.1, bt175.2.2)))) else ((bits_Reader_Fail.f s0_0 bt175.2.1 bt175.2.2).bind fun bt178 => (some (0, 0, 0, 0, 0, ([] : List Int), false, 0, ([] : List (S172)), 0, bt178.1, bt178.2.1, bt178.2.2)))))) = some (r1, r2, r3, r4, r5, r6, r7, r8, r9, r10, r11, r12, r13) := by rw [if_neg (show ¬ (false = true) by decide)] at H; exact H
        clear H
        have H := H1
        clear H1
        replace H := Option.bind_eq_some_iff.mp H
        obtain ⟨⟨t172, t173, t174⟩, A150, H⟩ := H
        replace H : ((bits_Reader_Fail.f s0_0 t173 t174).bind fun bt175 => (if bt175.1 = 0 then ((subframe_kind.f kj4 (wrap64 (t172))).bind fun bt181 => (if bt181.2.2 = 0 then ((bits_Reader_Take.f kj4 s0_0 bt175.2.1 bt175.2.2 1).bind fun bt184 => (subframe_begin.l0 kj4 a1 a2 bt181.2.1 (bt184.1 == 1) s0_0 bt184.2.1 bt184.2.2 bt181.1 0 0 0 0 false 0)) else (some (bt181.1, 0, 0, 0, 0, ([] : List Int), false, 0, ([] : List (S172)), 0, bt181.2.2, bt175.2.1, bt175.2.2)))) else ((bits_Reader_Fail.f s0_0 bt175.2.1 bt175.2.2).bind fun bt178 => (some (0, 0, 0, 0, 0, ([] : List Int), false, 0, ([] : List (S172)), 0, bt178.1, bt178.2.1, bt178.2.2))))) = some (r1, r2, r3, r4, r5, r6, r7, r8, r9, r10, r11, r12, r13) := H
        have A15 := Aside0.mk A150
        clear A150
        replace H := Option.bind_eq_some_iff.mp H
        obtain ⟨⟨t175, t176, t177⟩, A160, H⟩ := H
        replace H : (if t175 = 0 then ((subframe_kind.f kj4 (wrap64 (t172))).bind fun bt181 => (if bt181.2.2 = 0 then ((bits_Reader_Take.f kj4 s0_0 t176 t177 1).bind fun bt184 => (subframe_begin.l0 kj4 a1 a2 bt181.2.1 (bt184.1 == 1) s0_0 bt184.2.1 bt184.2.2 bt181.1 0 0 0 0 false 0)) else (some (bt181.1, 0, 0, 0, 0, ([] : List Int), false, 0, ([] : List (S172)), 0, bt181.2.2, t176, t177)))) else ((bits_Reader_Fail.f s0_0 t176 t177).bind fun bt178 => (some (0, 0, 0, 0, 0, ([] : List Int), false, 0, ([] : List (S172)), 0, bt178.1, bt178.2.1, bt178.2.2)))) = some (r1, r2, r3, r4, r5, r6, r7, r8, r9, r10, r11, r12, r13) := H
        have A16 := Aside0.mk A160
        clear A160
        by_cases c17 : t175 = 0
        · rw [if_pos c17] at H
          have c17b0 : (t175 == 0) = true := beq_iff_eq.mpr c17
          have c17b1 : (t175 != 0) = false := bne_eq_false_iff_eq.mpr c17
          clear c17
          replace H := Option.bind_eq_some_iff.mp H
          obtain ⟨⟨t181, t182, t183⟩, A180, H⟩ := H
          replace H : (if t183 = 0 then ((bits_Reader_Take.f kj4 s0_0 t176 t177 1).bind fun bt184 => (subframe_begin.l0 kj4 a1 a2 t182 (bt184.1 == 1) s0_0 bt184.2.1 bt184.2.2 t181 0 0 0 0 false 0)) else (some (t181, 0, 0, 0, 0, ([] : List Int), false, 0, ([] : List (S172)), 0, t183, t176, t177))) = some (r1, r2, r3, r4, r5, r6, r7, r8, r9, r10, r11, r12, r13) := H
          have A18 := Aside0.mk A180
          clear A180
          by_cases c19 : t183 = 0
          · rw [if_pos c19] at H
            have c19b0 : (t183 == 0) = true := beq_iff_eq.mpr c19
            have c19b1 : (t183 != 0) = false := bne_eq_false_iff_eq.mpr c19
            clear c19
            replace H := Option.bind_eq_some_iff.mp H
            obtain ⟨⟨t184, t185, t186⟩, A200, H⟩ := H
            replace H : (subframe_begin.l0 kj4 a1 a2 t182 (t184 == 1) s0_0 t185 t186 t181 0 0 0 0 false 0) = some (r1, r2, r3, r4, r5, r6, r7, r8, r9, r10, r11, r12, r13) := H
            have A20 := Aside0.mk A200
            clear A200
            have H' := Aside0.mk H
            clear H
            go_wp2_with (first | ((with_reducible refine gate_callee (f := 137) rfl ?_); refine goesL_ (some 23) rfl rfl Try.func137 (by kernel_rfl) rfl #[.pointer (some ⟨g, 0, none⟩), .int .i64 6] rfl (by (try simp only [List.map_toArray, List.map_cons, List.map_nil]); first | done | rfl | (simp only [List.length_drop, List.length_take]; rfl)) ?_; (with_reducible refine (bits_Reader_Take.calls kj4 g s0_0 x1001_4 x1002_4 6 t172 t173 t174 w0 _ ?side1 ?side2 A15.out).mono ?_); (case side1 => repeat (first | (with_reducible first | exact HI0.out | apply IsS150.alloc | apply IsS150.drewN | apply IsS150.drew | apply IsS150.set_1 | apply IsS150.set_2 | refine IsS150.far ?_ NB0_165.out _) | exact HI0.out)); (case side2 => repeat (first | (with_reducible first | exact HB.out | apply below_alloc | apply pw_below_drewN | apply below_drew1 | refine below_set ?_ (IsS150.ge HI0.out) | refine below_set ?_ GE165.out) | exact HB.out)); rintro e w21 ⟨rfl, hi, hb, hk⟩; refine ⟨_, rfl, ?_⟩; have n0_ := Aside0.mk (KeepBut.blk hk (g' := gb165) (o := .cells #[.int .i64 0, .int .i64 0, .int .i64 0, .int .i64 0, .int .i64 0, .slice none 0 0, .bool false, .int .i64 0, .slice none 0 0] 87 (0, 0)) (by (with_reducible repeat (first | refine blk_drewN ?_ _ | refine blk_drew ?_ | refine blk_alloc ?_ _)); exact BK165.out) NB165_0.out (by simp)); have n1_ := Aside0.mk (KeepBut.trans (by repeat (first | (with_reducible first | exact HK.out | apply KeepBut.set_ | apply keep_drewN | apply keep_drew | apply keep_alloc | refine keep_far ?_ GW165.out _) | exact HK.out)) hk (.inl rfl)); have n2_ := Aside0.mk (hb); have n3_ := Aside0.mk (hi); clear BK165; clear HK; clear HB; clear HI0; have BK165 := n0_; have HK := n1_; have HB := n2_; have HI0 := n3_; clear n0_ n1_ n2_ n3_; (try clear hb); (try clear hb2); (try clear hk); (try clear hi)) | ((with_reducible refine gate_callee (f := 90) rfl ?_); refine goesL_ (some 26) rfl rfl Try.func90 (by kernel_rfl) rfl #[.pointer (some ⟨g, 0, none⟩)] rfl (by (try simp only [List.map_toArray, List.map_cons, List.map_nil]); first | done | rfl | (simp only [List.length_drop, List.length_take]; rfl)) ?_; (with_reducible refine (bits_Reader_Fail.calls g s0_0 t173 t174 t175 t176 t177 w0 _ ?side1 ?side2 A16.out).mono ?_); (case side1 => repeat (first | (with_reducible first | exact HI0.out | apply IsS150.alloc | apply IsS150.drewN | apply IsS150.drew | apply IsS150.set_1 | apply IsS150.set_2 | refine IsS150.far ?_ NB0_165.out _) | exact HI0.out)); (case side2 => repeat (first | (with_reducible first | exact HB.out | apply below_alloc | apply pw_below_drewN | apply below_drew1 | refine below_set ?_ (IsS150.ge HI0.out) | refine below_set ?_ GE165.out) | exact HB.out)); rintro e w22 ⟨rfl, hi, hb, hk⟩; refine ⟨_, rfl, ?_⟩; have n0_ := Aside0.mk (KeepBut.blk hk (g' := gb165) (o := .cells #[.int .i64 0, .int .i64 0, .int .i64 0, .int .i64 0, .int .i64 0, .slice none 0 0, .bool false, .int .i64 0, .slice none 0 0] 87 (0, 0)) (by (with_reducible repeat (first | refine blk_drewN ?_ _ | refine blk_drew ?_ | refine blk_alloc ?_ _)); exact BK165.out) NB165_0.out (by simp)); have n1_ := Aside0.mk (KeepBut.trans (by repeat (first | (with_reducible first | exact HK.out | apply KeepBut.set_ | apply keep_drewN | apply keep_drew | apply keep_alloc | refine keep_far ?_ GW165.out _) | exact HK.out)) hk (.inl rfl)); have n2_ := Aside0.mk (hb); have n3_ := Aside0.mk (hi); clear BK165; clear HK; clear HB; clear HI0; have BK165 := n0_; have HK := n1_; have HB := n2_; have HI0 := n3_; clear n0_ n1_ n2_ n3_; (try clear hb); (try clear hb2); (try clear hk); (try clear hi)) | ((with_reducible refine gate_callee (f := 138) rfl ?_); refine goesL_ (some 33) rfl rfl Try.func138 (by kernel_rfl) rfl #[.int .i64 (wrap64 (t172))] rfl (by (try simp only [List.map_toArray, List.map_cons, List.map_nil]); first | done | rfl | (simp only [List.length_drop, List.length_take]; rfl)) ?_; (with_reducible refine (subframe_kind.calls kj4 (wrap64 (t172)) t181 t182 t183 _ A18.out).mono ?_); rintro e w' ⟨rfl, ⟨nd, rfl⟩⟩; refine ⟨_, rfl, ?_⟩; (try ((try rw [World.drewN_drewN]); rw [drewN_self w22]; generalize hq_ : World.drewN w22 _ = w22; have n0_ : Aside0 (w22.heap[gb165]? = some (.cells #[.int .i64 0, .int .i64 0, .int .i64 0, .int .i64 0, .int .i64 0, .slice none 0 0, .bool false, .int .i64 0, .slice none 0 0] 87 (0, 0))) := ⟨by rw [← hq_]; exact (by (with_reducible repeat (first | refine blk_drewN ?_ _ | refine blk_drew ?_ | refine blk_alloc ?_ _)); exact BK165.out)⟩; have n1_ : Aside0 (IsS150 w0 w22 g s0_0 t176 t177) := ⟨by rw [← hq_]; exact (by repeat (first | (with_reducible first | exact HI0.out | apply IsS150.alloc | apply IsS150.drewN | apply IsS150.drew | apply IsS150.set_1 | apply IsS150.set_2 | refine IsS150.far ?_ NB0_165.out _) | exact HI0.out))⟩; have n2_ : Aside0 (KeepBut w w22 g none) := ⟨by rw [← hq_]; exact (by repeat (first | (with_reducible first | exact HK.out | apply KeepBut.set_ | apply keep_drewN | apply keep_drew | apply keep_alloc | refine keep_far ?_ GW165.out _) | exact HK.out))⟩; have n3_ : Aside0 (Below w0.heap.size w0 w22) := ⟨by rw [← hq_]; exact (by repeat (first | (with_reducible first | exact HB.out | apply below_alloc | apply pw_below_drewN | apply below_drew1 | refine below_set ?_ (IsS150.ge HI0.out) | refine below_set ?_ GE165.out) | exact HB.out))⟩; clear BK165 HI0 HK HB hq_; have BK165 := n0_; have HI0 := n1_; have HK := n2_; have HB := n3_; clear n0_ n1_ n2_ n3_)); have hnb23 := NB165_0.out; have hnc23 := NB0_165.out; have hcz24_0 : w22.cell? ⟨gb165, 0, none⟩ = some (.int .i64 0) := (blk_cell BK165.out 0).trans rfl; have hcz24_1 : w22.cell? ⟨gb165, 1, none⟩ = some (.int .i64 0) := (blk_cell BK165.out 1).trans rfl; have hcz24_2 : w22.cell? ⟨gb165, 2, none⟩ = some (.int .i64 0) := (blk_cell BK165.out 2).trans rfl; have hcz24_3 : w22.cell? ⟨gb165, 3, none⟩ = some (.int .i64 0) := (blk_cell BK165.out 3).trans rfl; have hcz24_4 : w22.cell? ⟨gb165, 4, none⟩ = some (.int .i64 0) := (blk_cell BK165.out 4).trans rfl; have hcz24_5 : w22.cell? ⟨gb165, 5, none⟩ = some (.slice none 0 0) := (blk_cell BK165.out 5).trans rfl; have hcz24_6 : w22.cell? ⟨gb165, 6, none⟩ = some (.bool false) := (blk_cell BK165.out 6).trans rfl; have hcz24_7 : w22.cell? ⟨gb165, 7, none⟩ = some (.int .i64 0) := (blk_cell BK165.out 7).trans rfl; have hcz24_8 : w22.cell? ⟨gb165, 8, none⟩ = some (.slice none 0 0) := (blk_cell BK165.out 8).trans rfl; have hfz24_0 := blk_frozen BK165.out 0; have hfz24_1 := blk_frozen BK165.out 1; have hfz24_2 := blk_frozen BK165.out 2; have hfz24_3 := blk_frozen BK165.out 3; have hfz24_4 := blk_frozen BK165.out 4; have hfz24_5 := blk_frozen BK165.out 5; have hfz24_6 := blk_frozen BK165.out 6; have hfz24_7 := blk_frozen BK165.out 7; have hfz24_8 := blk_frozen BK165.out 8) | ((with_reducible refine gate_callee (f := 137) rfl ?_); refine goesL_ (some 43) rfl rfl Try.func137 (by kernel_rfl) rfl #[.pointer (some ⟨g, 0, none⟩), .int .i64 1] rfl (by (try simp only [List.map_toArray, List.map_cons, List.map_nil]); first | done | rfl | (simp only [List.length_drop, List.length_take]; rfl)) ?_; (with_reducible refine (bits_Reader_Take.calls kj4 g s0_0 t176 t177 1 t184 t185 t186 w0 _ ?side1 ?side2 A20.out).mono ?_); (case side1 => repeat (first | (with_reducible first | exact HI0.out | apply IsS150.alloc | apply IsS150.drewN | apply IsS150.drew | apply IsS150.set_1 | apply IsS150.set_2 | refine IsS150.far ?_ NB0_165.out _) | exact HI0.out)); (case side2 => repeat (first | (with_reducible first | exact HB.out | apply below_alloc | apply pw_below_drewN | apply below_drew1 | refine below_set ?_ (IsS150.ge HI0.out) | refine below_set ?_ GE165.out) | exact HB.out)); rintro e w25 ⟨rfl, hi, hb, hk⟩; refine ⟨_, rfl, ?_⟩; have n0_ := Aside0.mk (KeepBut.blk hk (g' := gb165) (o := .cells #[.int .i64 t181, .int .i64 0, .int .i64 0, .int .i64 0, .int .i64 0, .slice none 0 0, .bool false, .int .i64 0, .slice none 0 0] 87 (0, 0)) (by (with_reducible repeat (first | refine blk_drewN ?_ _ | refine blk_drew ?_ | refine blk_alloc ?_ _)); refine blk_put (cs := #[.int .i64 0, .int .i64 0, .int .i64 0, .int .i64 0, .int .i64 0, .slice none 0 0, .bool false, .int .i64 0, .slice none 0 0]) ?_ 0 _ rfl; (with_reducible repeat (first | refine blk_drewN ?_ _ | refine blk_drew ?_ | refine blk_alloc ?_ _)); exact BK165.out) NB165_0.out (by simp)); have n1_ := Aside0.mk (KeepBut.trans (by repeat (first | (with_reducible first | exact HK.out | apply KeepBut.set_ | apply keep_drewN | apply keep_drew | apply keep_alloc | refine keep_far ?_ GW165.out _) | exact HK.out)) hk (.inl rfl)); have n2_ := Aside0.mk (hb); have n3_ := Aside0.mk (hi); clear BK165; clear HK; clear HB; clear HI0; have BK165 := n0_; have HK := n1_; have HB := n2_; have HI0 := n3_; clear n0_ n1_ n2_ n3_; (try clear hb); (try clear hb2); (try clear hk); (try clear hi)))
            go_loopg [7, 11] kj4 (fun kq v7 v11 w' => ∃ (x7_2 : Int) (x11_2 : Bool) (x1001_2 : Int) (x1002_2 : Int) (x166000_2 : Int) (x166001_2 : Int) (x166002_2 : Int) (x166003_2 : Int) (x166004_2 : Int) (x166006_2 : Bool) (x166007_2 : Int), v7 = .int .i64 x7_2 ∧ v11 = .bool x11_2 ∧ Aside0 (subframe_begin.l0 kq a1 a2 x7_2 x11_2 s0_0 x1001_2 x1002_2 x166000_2 x166001_2 x166002_2 x166003_2 x166004_2 x166006_2 x166007_2 = some (r1, r2, r3, r4, r5, r6, r7, r8, r9, r10, r11, r12, r13)) ∧ Aside0 (kq ≤ kj4) ∧ Aside0 (w'.heap[gb165]? = some (.cells #[.int .i64 x166000_2, .int .i64 x166001_2, .int .i64 x166002_2, .int .i64 x166003_2, .int .i64 x166004_2, (.slice none 0 0), .bool x166006_2, .int .i64 x166007_2, (.slice none 0 0)] 87 (0, 0))) ∧ Aside0 (IsS150 w0 w' g s0_0 x1001_2 x1002_2) ∧ Aside0 (KeepBut w w' g none) ∧ Aside0 (Below w0.heap.size w0 w'))
            case atStart => exact ⟨(t182), ((t184 == 1)), (t185), (t186), (t181), (0), (0), (0), (0), (false), (0), (by first | rfl | (simp; done) | (simp [*]; done)), (by first | rfl | (simp; done) | (simp [*]; done)), H', ⟨Nat.le_refl _⟩, ⟨by (with_reducible repeat (first | refine blk_drewN ?_ _ | refine blk_drew ?_ | refine blk_alloc ?_ _)); exact BK165.out⟩, ⟨by repeat (first | (with_reducible first | exact HI0.out | apply IsS150.alloc | apply IsS150.drewN | apply IsS150.drew | apply IsS150.set_1 | apply IsS150.set_2 | refine IsS150.far ?_ NB0_165.out _) | exact HI0.out)⟩, ⟨by repeat (first | (with_reducible first | exact HK.out | apply KeepBut.set_ | apply keep_drewN | apply keep_drew | apply keep_alloc | refine keep_far ?_ GW165.out _) | exact HK.out)⟩, ⟨by repeat (first | (with_reducible first | exact HB.out | apply below_alloc | apply pw_below_drewN | apply below_drew1 | refine below_set ?_ (IsS150.ge HI0.out) | refine below_set ?_ GE165.out) | exact HB.out)⟩⟩
            case round =>
              clear H'
              try clear c1
              try clear c2
              try clear p2
              try clear p6
              try clear c8
              try clear c9
              try clear c9b0
              try clear c9b1
              try clear c12
              try clear c13
              try clear c17
              try clear c17b0
              try clear c17b1
              try clear c19
              try clear c19b0
              try clear c19b1
              try clear c23
              try clear hcz14_0
              try clear hcz14_1
              try clear hcz14_2
              try clear hcz14_3
              try clear hcz14_4
              try clear hcz14_5
              try clear hcz14_6
              try clear hcz14_7
              try clear hcz14_8
              try clear hcz24_0
              try clear hcz24_1
              try clear hcz24_2
              try clear hcz24_3
              try clear hcz24_4
              try clear hcz24_5
              try clear hcz24_6
              try clear hcz24_7
              try clear hcz24_8
              try clear hfz14_0
              try clear hfz14_1
              try clear hfz14_2
              try clear hfz14_3
              try clear hfz14_4
              try clear hfz14_5
              try clear hfz14_6
              try clear hfz14_7
              try clear hfz14_8
              try clear hfz24_0
              try clear hfz24_1
              try clear hfz24_2
              try clear hfz24_3
              try clear hfz24_4
              try clear hfz24_5
              try clear hfz24_6
              try clear hfz24_7
              try clear hfz24_8
              try clear p2
              obtain ⟨x7_2, x11_2, x1001_2, x1002_2, x166000_2, x166001_2, x166002_2, x166003_2, x166004_2, x166006_2, x166007_2, rfl, rfl, HA, HK2, BK165, HI0, HK, HB⟩ := hrel
              cases gk with
              | zero => exact absurd HA.out (by simp [subframe_begin.l0])
              | succ k2 =>
                have H := HA.out
                clear HA
                simp only [subframe_begin.l0] at H
                have HC26 := Aside0.mk H
                clear H
                go_upto_region 11 with (fail)
                go_cut [50] (fun v50 wc => ∃ (kq : Nat) (x50_25 : Bool) (x1001_25 : Int) (x1002_25 : Int), v50 = .bool x50_25 ∧ Aside0 (subframe_begin.j2 kq a1 a2 x7_2 x50_25 s0_0 x1001_25 x1002_25 x166000_2 x166001_2 x166002_2 x166003_2 x166004_2 x166006_2 x166007_2 = some (r1, r2, r3, r4, r5, r6, r7, r8, r9, r10, r11, r12, r13)) ∧ Aside0 (kq ≤ k2) ∧ Aside0 (wc.heap[gb165]? = some (.cells #[.int .i64 x166000_2, .int .i64 x166001_2, .int .i64 x166002_2, .int .i64 x166003_2, .int .i64 x166004_2, (.slice none 0 0), .bool x166006_2, .int .i64 x166007_2, (.slice none 0 0)] 87 (0, 0))) ∧ Aside0 (IsS150 w0 wc g s0_0 x1001_25 x1002_25) ∧ Aside0 (KeepBut w wc g none) ∧ Aside0 (Below w0.heap.size w0 wc))
                case first =>
                  have H := HC26.out
                  clear HC26
                  by_cases c27 : x11_2 = true
                  · subst c27
                    have H1 : ((bits_Reader_Fail.f s0_0 x1001_2 x1002_2).bind fun bt187 => (subframe_begin.j2 k2 a1 a2 x7_2 (bt187.1 == 0) s0_0 bt187.2.1 bt187.2.2 x166000_2 x166001_2 x166002_2 x166003_2 x166004_2 x166006_2 x166007_2)) = some (r1, r2, r3, r4, r5, r6, r7, r8, r9, r10, r11, r12, r13) := by rw [if_pos rfl] at H; exact H
                    clear H
                    have H := H1
                    clear H1
                    replace H := Option.bind_eq_some_iff.mp H
                    obtain ⟨⟨t187, t188, t189⟩, A280, H⟩ := H
                    replace H : (subframe_begin.j2 k2 a1 a2 x7_2 (t187 == 0) s0_0 t188 t189 x166000_2 x166001_2 x166002_2 x166003_2 x166004_2 x166006_2 x166007_2) = some (r1, r2, r3, r4, r5, r6, r7, r8, r9, r10, r11, r12, r13) := H
                    have A28 := Aside0.mk A280
                    clear A280
                    have H' := Aside0.mk H
                    clear H
                    go_wp2_with (first | (go_at_call 90; (with_reducible refine (bits_Reader_Fail.calls g s0_0 x1001_2 x1002_2 t187 t188 t189 w0 _ ?side1 ?side2 A28.out).mono ?_); (case side1 => repeat (first | (with_reducible first | exact HI0.out | apply IsS150.alloc | apply IsS150.drewN | apply IsS150.drew | apply IsS150.set_1 | apply IsS150.set_2 | refine IsS150.far ?_ NB0_165.out _) | exact HI0.out)); (case side2 => repeat (first | (with_reducible first | exact HB.out | apply below_alloc | apply pw_below_drewN | apply below_drew1 | refine below_set ?_ (IsS150.ge HI0.out) | refine below_set ?_ GE165.out) | exact HB.out)); rintro e w29 ⟨rfl, hi, hb, hk⟩; have n0_ := Aside0.mk (KeepBut.blk hk (g' := gb165) (o := .cells #[.int .i64 x166000_2, .int .i64 x166001_2, .int .i64 x166002_2, .int .i64 x166003_2, .int .i64 x166004_2, .slice none 0 0, .bool x166006_2, .int .i64 x166007_2, .slice none 0 0] 87 (0, 0)) (by (with_reducible repeat (first | refine blk_drewN ?_ _ | refine blk_drew ?_ | refine blk_alloc ?_ _)); exact BK165.out) NB165_0.out (by simp)); have n1_ := Aside0.mk (KeepBut.trans (by repeat (first | (with_reducible first | exact HK.out | apply KeepBut.set_ | apply keep_drewN | apply keep_drew | apply keep_alloc | refine keep_far ?_ GW165.out _) | exact HK.out)) hk (.inl rfl)); have n2_ := Aside0.mk (hb); have n3_ := Aside0.mk (hi); clear BK165; clear HK; clear HB; clear HI0; have BK165 := n0_; have HK := n1_; have HB := n2_; have HI0 := n3_; clear n0_ n1_ n2_ n3_; (try clear hb); (try clear hb2); (try clear hk); (try clear hi)))
                    go_meet
                    case rel => exact ⟨_, ((t187 == 0)), (t188), (t189), (by first | rfl | (simp; done) | (simp [*]; done)), H', ⟨by have := HJ4.out; have := HK2.out; first | omega | exact Nat.le_refl _⟩, ⟨by (with_reducible repeat (first | refine blk_drewN ?_ _ | refine blk_drew ?_ | refine blk_alloc ?_ _)); exact BK165.out⟩, ⟨by repeat (first | (with_reducible first | exact HI0.out | apply IsS150.alloc | apply IsS150.drewN | apply IsS150.drew | apply IsS150.set_1 | apply IsS150.set_2 | refine IsS150.far ?_ NB0_165.out _) | exact HI0.out)⟩, ⟨by repeat (first | (with_reducible first | exact HK.out | apply KeepBut.set_ | apply keep_drewN | apply keep_drew | apply keep_alloc | refine keep_far ?_ GW165.out _) | exact HK.out)⟩, ⟨by repeat (first | (with_reducible first | exact HB.out | apply below_alloc | apply pw_below_drewN | apply below_drew1 | refine below_set ?_ (IsS150.ge HI0.out) | refine below_set ?_ GE165.out) | exact HB.out)⟩⟩
                  · replace c27 := Bool.eq_false_iff.mpr c27
                    subst c27
                    have H1 : (subframe_begin.j2 k2 a1 a2 x7_2 false s0_0 x1001_2 x1002_2 x166000_2 x166001_2 x166002_2 x166003_2 x166004_2 x166006_2 x166007_2) = some (r1, r2, r3, r4, r5, r6, r7, r8, r9, r10, r11, r12, r13) := by rw [if_neg (show ¬ (false = true) by decide)] at H; exact H
                    clear H
                    have H := H1
                    clear H1
                    have H' := Aside0.mk H
                    clear H
                    go_wp2
                    go_meet
                    case rel => exact ⟨_, (false), (x1001_2), (x1002_2), (by first | rfl | (simp; done) | (simp [*]; done)), H', ⟨by have := HJ4.out; have := HK2.out; first | omega | exact Nat.le_refl _⟩, ⟨by (with_reducible repeat (first | refine blk_drewN ?_ _ | refine blk_drew ?_ | refine blk_alloc ?_ _)); exact BK165.out⟩, ⟨by repeat (first | (with_reducible first | exact HI0.out | apply IsS150.alloc | apply IsS150.drewN | apply IsS150.drew | apply IsS150.set_1 | apply IsS150.set_2 | refine IsS150.far ?_ NB0_165.out _) | exact HI0.out)⟩, ⟨by repeat (first | (with_reducible first | exact HK.out | apply KeepBut.set_ | apply keep_drewN | apply keep_drew | apply keep_alloc | refine keep_far ?_ GW165.out _) | exact HK.out)⟩, ⟨by repeat (first | (with_reducible first | exact HB.out | apply below_alloc | apply pw_below_drewN | apply below_drew1 | refine below_set ?_ (IsS150.ge HI0.out) | refine below_set ?_ GE165.out) | exact HB.out)⟩⟩
                case rest =>
                  clear HC26
                  try clear c1
                  try clear c2
                  try clear p2
                  try clear p6
                  try clear c8
                  try clear c9
                  try clear c9b0
                  try clear c9b1
                  try clear c12
                  try clear c13
                  try clear c17
                  try clear c17b0
                  try clear c17b1
                  try clear c19
                  try clear c19b0
                  try clear c19b1
                  try clear c23
                  try clear c27
                  try clear hcz14_0
                  try clear hcz14_1
                  try clear hcz14_2
                  try clear hcz14_3
                  try clear hcz14_4
                  try clear hcz14_5
                  try clear hcz14_6
                  try clear hcz14_7
                  try clear hcz14_8
                  try clear hcz24_0
                  try clear hcz24_1
                  try clear hcz24_2
                  try clear hcz24_3
                  try clear hcz24_4
                  try clear hcz24_5
                  try clear hcz24_6
                  try clear hcz24_7
                  try clear hcz24_8
                  try clear hfz14_0
                  try clear hfz14_1
                  try clear hfz14_2
                  try clear hfz14_3
                  try clear hfz14_4
                  try clear hfz14_5
                  try clear hfz14_6
                  try clear hfz14_7
                  try clear hfz14_8
                  try clear hfz24_0
                  try clear hfz24_1
                  try clear hfz24_2
                  try clear hfz24_3
                  try clear hfz24_4
                  try clear hfz24_5
                  try clear hfz24_6
                  try clear hfz24_7
                  try clear hfz24_8
                  try clear p2
                  try clear p6
                  obtain ⟨kq, x50_25, x1001_25, x1002_25, rfl, HA, HJ25, BK165, HI0, HK, HB⟩ := hcut
                  cases kq with
                  | zero => exact absurd HA.out (by simp [subframe_begin.j2])
                  | succ kj25 =>
                    have H := HA.out
                    clear HA
                    simp only [subframe_begin.j2] at H
                    by_cases c30 : x50_25 = true
                    · subst c30
                      have H1 : (if (wrap64 (x166001_2 + 1)) ≥ a2 then (some (x166000_2, wrap64 (x166001_2 + 1), x166002_2, x166003_2, x166004_2, ([] : List Int), x166006_2, x166007_2, ([] : List (S172)), 0, 5, x1001_25, x1002_25)) else ((bits_Reader_Take.f kj25 s0_0 x1001_25 x1002_25 1).bind fun bt190 => (subframe_begin.l0 kj25 a1 a2 x7_2 (bt190.1 == 0) s0_0 bt190.2.1 bt190.2.2 x166000_2 (wrap64 (x166001_2 + 1)) x166002_2 x166003_2 x166004_2 x166006_2 x166007_2))) = some (r1, r2, r3, r4, r5, r6, r7, r8, r9, r10, r11, r12, r13) := by rw [if_pos rfl] at H; exact H
                      clear H
                      have H := H1
                      clear H1
                      by_cases c31 : (wrap64 (x166001_2 + 1)) ≥ a2
                      · rw [if_pos c31] at H
                        have c31b0 : decide (a2 ≤ (wrap64 (x166001_2 + 1))) = true := decide_eq_true c31
                        clear c31
                        simp only [Option.some.injEq, Prod.mk.injEq] at H
                        obtain ⟨rfl, rfl, rfl, rfl, rfl, rfl, rfl, rfl, rfl, rfl, rfl, rfl, rfl⟩ := H
                        have hnb32 := NB165_0.out
                        have hnc32 := NB0_165.out
                        have hcz33_0 : wc.cell? ⟨gb165, 0, none⟩ = some (.int .i64 x166000_2) := (blk_cell BK165.out 0).trans rfl
                        have hcz33_1 : wc.cell? ⟨gb165, 1, none⟩ = some (.int .i64 x166001_2) := (blk_cell BK165.out 1).trans rfl
                        have hcz33_2 : wc.cell? ⟨gb165, 2, none⟩ = some (.int .i64 x166002_2) := (blk_cell BK165.out 2).trans rfl
                        have hcz33_3 : wc.cell? ⟨gb165, 3, none⟩ = some (.int .i64 x166003_2) := (blk_cell BK165.out 3).trans rfl
                        have hcz33_4 : wc.cell? ⟨gb165, 4, none⟩ = some (.int .i64 x166004_2) := (blk_cell BK165.out 4).trans rfl
                        have hcz33_5 : wc.cell? ⟨gb165, 5, none⟩ = some (.slice none 0 0) := (blk_cell BK165.out 5).trans rfl
                        have hcz33_6 : wc.cell? ⟨gb165, 6, none⟩ = some (.bool x166006_2) := (blk_cell BK165.out 6).trans rfl
                        have hcz33_7 : wc.cell? ⟨gb165, 7, none⟩ = some (.int .i64 x166007_2) := (blk_cell BK165.out 7).trans rfl
                        have hcz33_8 : wc.cell? ⟨gb165, 8, none⟩ = some (.slice none 0 0) := (blk_cell BK165.out 8).trans rfl
                        have hfz33_0 := blk_frozen BK165.out 0
                        have hfz33_1 := blk_frozen BK165.out 1
                        have hfz33_2 := blk_frozen BK165.out 2
                        have hfz33_3 := blk_frozen BK165.out 3
                        have hfz33_4 := blk_frozen BK165.out 4
                        have hfz33_5 := blk_frozen BK165.out 5
                        have hfz33_6 := blk_frozen BK165.out 6
                        have hfz33_7 := blk_frozen BK165.out 7
                        have hfz33_8 := blk_frozen BK165.out 8
                        go_wp2
                        refine bodyPost_ret (results_ctt rfl _ _ gb165 87 #[.int .i64 x166000_2, .int .i64 (wrap64 (x166001_2 + 1)), .int .i64 x166002_2, .int .i64 x166003_2, .int .i64 x166004_2, .slice none 0 0, .bool x166006_2, .int .i64 x166007_2, .slice none 0 0] (0, 0) _ rfl (by (with_reducible repeat (first | refine blk_drewN ?_ _ | refine blk_drew ?_ | refine blk_alloc ?_ _)); refine blk_put (cs := #[.int .i64 x166000_2, .int .i64 (wrap64 (x166001_2 + 1)), .int .i64 x166002_2, .int .i64 x166003_2, .int .i64 x166004_2, .slice none 0 0, .bool x166006_2, .int .i64 x166007_2, .slice none 0 0]) ?_ 8 _ rfl; (with_reducible repeat (first | refine blk_drewN ?_ _ | refine blk_drew ?_ | refine blk_alloc ?_ _)); refine blk_put (cs := #[.int .i64 x166000_2, .int .i64 (wrap64 (x166001_2 + 1)), .int .i64 x166002_2, .int .i64 x166003_2, .int .i64 x166004_2, .slice none 0 0, .bool x166006_2, .int .i64 x166007_2, .slice none 0 0]) ?_ 7 _ rfl; (with_reducible repeat (first | refine blk_drewN ?_ _ | refine blk_drew ?_ | refine blk_alloc ?_ _)); refine blk_put (cs := #[.int .i64 x166000_2, .int .i64 (wrap64 (x166001_2 + 1)), .int .i64 x166002_2, .int .i64 x166003_2, .int .i64 x166004_2, .slice none 0 0, .bool x166006_2, .int .i64 x166007_2, .slice none 0 0]) ?_ 6 _ rfl; (with_reducible repeat (first | refine blk_drewN ?_ _ | refine blk_drew ?_ | refine blk_alloc ?_ _)); refine blk_put (cs := #[.int .i64 x166000_2, .int .i64 (wrap64 (x166001_2 + 1)), .int .i64 x166002_2, .int .i64 x166003_2, .int .i64 x166004_2, .slice none 0 0, .bool x166006_2, .int .i64 x166007_2, .slice none 0 0]) ?_ 5 _ rfl; (with_reducible repeat (first | refine blk_drewN ?_ _ | refine blk_drew ?_ | refine blk_alloc ?_ _)); refine blk_put (cs := #[.int .i64 x166000_2, .int .i64 (wrap64 (x166001_2 + 1)), .int .i64 x166002_2, .int .i64 x166003_2, .int .i64 x166004_2, .slice none 0 0, .bool x166006_2, .int .i64 x166007_2, .slice none 0 0]) ?_ 4 _ rfl; (with_reducible repeat (first | refine blk_drewN ?_ _ | refine blk_drew ?_ | refine blk_alloc ?_ _)); refine blk_put (cs := #[.int .i64 x166000_2, .int .i64 (wrap64 (x166001_2 + 1)), .int .i64 x166002_2, .int .i64 x166003_2, .int .i64 x166004_2, .slice none 0 0, .bool x166006_2, .int .i64 x166007_2, .slice none 0 0]) ?_ 3 _ rfl; (with_reducible repeat (first | refine blk_drewN ?_ _ | refine blk_drew ?_ | refine blk_alloc ?_ _)); refine blk_put (cs := #[.int .i64 x166000_2, .int .i64 (wrap64 (x166001_2 + 1)), .int .i64 x166002_2, .int .i64 x166003_2, .int .i64 x166004_2, .slice none 0 0, .bool x166006_2, .int .i64 x166007_2, .slice none 0 0]) ?_ 2 _ rfl; (with_reducible repeat (first | refine blk_drewN ?_ _ | refine blk_drew ?_ | refine blk_alloc ?_ _)); refine blk_put (cs := #[.int .i64 x166000_2, .int .i64 (wrap64 (x166001_2 + 1)), .int .i64 x166002_2, .int .i64 x166003_2, .int .i64 x166004_2, .slice none 0 0, .bool x166006_2, .int .i64 x166007_2, .slice none 0 0]) ?_ 1 _ rfl; (with_reducible repeat (first | refine blk_drewN ?_ _ | refine blk_drew ?_ | refine blk_alloc ?_ _)); refine blk_put (cs := #[.int .i64 x166000_2, .int .i64 (wrap64 (x166001_2 + 1)), .int .i64 x166002_2, .int .i64 x166003_2, .int .i64 x166004_2, .slice none 0 0, .bool x166006_2, .int .i64 x166007_2, .slice none 0 0]) ?_ 0 _ rfl; (with_reducible repeat (first | refine blk_drewN ?_ _ | refine blk_drew ?_ | refine blk_alloc ?_ _)); refine blk_put (cs := #[.int .i64 x166000_2, .int .i64 x166001_2, .int .i64 x166002_2, .int .i64 x166003_2, .int .i64 x166004_2, .slice none 0 0, .bool x166006_2, .int .i64 x166007_2, .slice none 0 0]) ?_ 1 _ rfl; (with_reducible repeat (first | refine blk_drewN ?_ _ | refine blk_drew ?_ | refine blk_alloc ?_ _)); exact BK165.out) Try.underlying87 rfl (by kernel_rfl)) rfl ?_
                        exact ⟨_, _, by first | rfl | (simp [errW_none, errW_some] <;> rfl) | (simp [*, errW_none, errW_some] <;> rfl), by first | exact Kd.R_nil _ _ _ _ _ | exact Kd.N_nil _ _ _ _ _ | exact Kd.V_nil _ _ _ _ _ | exact Kd.Q_nil _ _ _ _ _ | exact Kd.S_nil _ _ _ _ _, by first | exact Kd.R_nil _ _ _ _ _ | exact Kd.N_nil _ _ _ _ _ | exact Kd.V_nil _ _ _ _ _ | exact Kd.Q_nil _ _ _ _ _ | exact Kd.S_nil _ _ _ _ _, by repeat (first | (with_reducible first | exact HI0.out | apply IsS150.alloc | apply IsS150.drewN | apply IsS150.drew | apply IsS150.set_1 | apply IsS150.set_2 | refine IsS150.far ?_ NB0_165.out _) | exact HI0.out), by repeat (first | (with_reducible first | exact HB.out | apply below_alloc | apply pw_below_drewN | apply below_drew1 | refine below_set ?_ (IsS150.ge HI0.out) | refine below_set ?_ GE165.out) | exact HB.out), by repeat (first | (with_reducible first | exact HK.out | apply KeepBut.set_ | apply keep_drewN | apply keep_drew | apply keep_alloc | refine keep_far ?_ GW165.out _) | exact HK.out)⟩
                      · rw [if_neg c31] at H
                        have c31b0 : decide (a2 ≤ (wrap64 (x166001_2 + 1))) = false := decide_eq_false c31
                        clear c31
                        replace H := Option.bind_eq_some_iff.mp H
                        obtain ⟨⟨t190, t191, t192⟩, A340, H⟩ := H
                        replace H : (subframe_begin.l0 kj25 a1 a2 x7_2 (t190 == 0) s0_0 t191 t192 x166000_2 (wrap64 (x166001_2 + 1)) x166002_2 x166003_2 x166004_2 x166006_2 x166007_2) = some (r1, r2, r3, r4, r5, r6, r7, r8, r9, r10, r11, r12, r13) := H
                        have A34 := Aside0.mk A340
                        clear A340
                        have H' := Aside0.mk H
                        clear H
                        have hnb35 := NB165_0.out
                        have hnc35 := NB0_165.out
                        have hcz36_0 : wc.cell? ⟨gb165, 0, none⟩ = some (.int .i64 x166000_2) := (blk_cell BK165.out 0).trans rfl
                        have hcz36_1 : wc.cell? ⟨gb165, 1, none⟩ = some (.int .i64 x166001_2) := (blk_cell BK165.out 1).trans rfl
                        have hcz36_2 : wc.cell? ⟨gb165, 2, none⟩ = some (.int .i64 x166002_2) := (blk_cell BK165.out 2).trans rfl
                        have hcz36_3 : wc.cell? ⟨gb165, 3, none⟩ = some (.int .i64 x166003_2) := (blk_cell BK165.out 3).trans rfl
                        have hcz36_4 : wc.cell? ⟨gb165, 4, none⟩ = some (.int .i64 x166004_2) := (blk_cell BK165.out 4).trans rfl
                        have hcz36_5 : wc.cell? ⟨gb165, 5, none⟩ = some (.slice none 0 0) := (blk_cell BK165.out 5).trans rfl
                        have hcz36_6 : wc.cell? ⟨gb165, 6, none⟩ = some (.bool x166006_2) := (blk_cell BK165.out 6).trans rfl
                        have hcz36_7 : wc.cell? ⟨gb165, 7, none⟩ = some (.int .i64 x166007_2) := (blk_cell BK165.out 7).trans rfl
                        have hcz36_8 : wc.cell? ⟨gb165, 8, none⟩ = some (.slice none 0 0) := (blk_cell BK165.out 8).trans rfl
                        have hfz36_0 := blk_frozen BK165.out 0
                        have hfz36_1 := blk_frozen BK165.out 1
                        have hfz36_2 := blk_frozen BK165.out 2
                        have hfz36_3 := blk_frozen BK165.out 3
                        have hfz36_4 := blk_frozen BK165.out 4
                        have hfz36_5 := blk_frozen BK165.out 5
                        have hfz36_6 := blk_frozen BK165.out 6
                        have hfz36_7 := blk_frozen BK165.out 7
                        have hfz36_8 := blk_frozen BK165.out 8
                        go_wp2_with (first | ((with_reducible refine gate_callee (f := 137) rfl ?_); refine goesL_ (some 52) rfl rfl Try.func137 (by kernel_rfl) rfl #[.pointer (some ⟨g, 0, none⟩), .int .i64 1] rfl (by (try simp only [List.map_toArray, List.map_cons, List.map_nil]); first | done | rfl | (simp only [List.length_drop, List.length_take]; rfl)) ?_; (with_reducible refine (bits_Reader_Take.calls kj25 g s0_0 x1001_25 x1002_25 1 t190 t191 t192 w0 _ ?side1 ?side2 A34.out).mono ?_); (case side1 => repeat (first | (with_reducible first | exact HI0.out | apply IsS150.alloc | apply IsS150.drewN | apply IsS150.drew | apply IsS150.set_1 | apply IsS150.set_2 | refine IsS150.far ?_ NB0_165.out _) | exact HI0.out)); (case side2 => repeat (first | (with_reducible first | exact HB.out | apply below_alloc | apply pw_below_drewN | apply below_drew1 | refine below_set ?_ (IsS150.ge HI0.out) | refine below_set ?_ GE165.out) | exact HB.out)); rintro e w37 ⟨rfl, hi, hb, hk⟩; refine ⟨_, rfl, ?_⟩; have n0_ := Aside0.mk (KeepBut.blk hk (g' := gb165) (o := .cells #[.int .i64 x166000_2, .int .i64 (wrap64 (x166001_2 + 1)), .int .i64 x166002_2, .int .i64 x166003_2, .int .i64 x166004_2, .slice none 0 0, .bool x166006_2, .int .i64 x166007_2, .slice none 0 0] 87 (0, 0)) (by (with_reducible repeat (first | refine blk_drewN ?_ _ | refine blk_drew ?_ | refine blk_alloc ?_ _)); refine blk_put (cs := #[.int .i64 x166000_2, .int .i64 x166001_2, .int .i64 x166002_2, .int .i64 x166003_2, .int .i64 x166004_2, .slice none 0 0, .bool x166006_2, .int .i64 x166007_2, .slice none 0 0]) ?_ 1 _ rfl; (with_reducible repeat (first | refine blk_drewN ?_ _ | refine blk_drew ?_ | refine blk_alloc ?_ _)); exact BK165.out) NB165_0.out (by simp)); have n1_ := Aside0.mk (KeepBut.trans (by repeat (first | (with_reducible first | exact HK.out | apply KeepBut.set_ | apply keep_drewN | apply keep_drew | apply keep_alloc | refine keep_far ?_ GW165.out _) | exact HK.out)) hk (.inl rfl)); have n2_ := Aside0.mk (hb); have n3_ := Aside0.mk (hi); clear BK165; clear HK; clear HB; clear HI0; have BK165 := n0_; have HK := n1_; have HB := n2_; have HI0 := n3_; clear n0_ n1_ n2_ n3_; (try clear hb); (try clear hb2); (try clear hk); (try clear hi)))
                        go_roundg kj25
                        case measure => have := HJ4.out; have := HK2.out; have := HJ25.out; omega
                        case rel => exact ⟨(x7_2), ((t190 == 0)), (t191), (t192), (x166000_2), (wrap64 (x166001_2 + 1)), (x166002_2), (x166003_2), (x166004_2), (x166006_2), (x166007_2), (by first | rfl | (simp; done) | (simp [*]; done)), (by first | rfl | (simp; done) | (simp [*]; done)), H', ⟨by have := HJ4.out; have := HK2.out; have := HJ25.out; omega⟩, ⟨by (with_reducible repeat (first | refine blk_drewN ?_ _ | refine blk_drew ?_ | refine blk_alloc ?_ _)); exact BK165.out⟩, ⟨by repeat (first | (with_reducible first | exact HI0.out | apply IsS150.alloc | apply IsS150.drewN | apply IsS150.drew | apply IsS150.set_1 | apply IsS150.set_2 | refine IsS150.far ?_ NB0_165.out _) | exact HI0.out)⟩, ⟨by repeat (first | (with_reducible first | exact HK.out | apply KeepBut.set_ | apply keep_drewN | apply keep_drew | apply keep_alloc | refine keep_far ?_ GW165.out _) | exact HK.out)⟩, ⟨by repeat (first | (with_reducible first | exact HB.out | apply below_alloc | apply pw_below_drewN | apply below_drew1 | refine below_set ?_ (IsS150.ge HI0.out) | refine below_set ?_ GE165.out) | exact HB.out)⟩⟩
                    · replace c30 := Bool.eq_false_iff.mpr c30
                      subst c30
                      have H1 : ((bits_Reader_Fail.f s0_0 x1001_25 x1002_25).bind fun bt193 => (if bt193.1 = 0 then (if x7_2 ≥ a1 then (some (x166000_2, x166001_2, x166002_2, x166003_2, x166004_2, ([] : List Int), x166006_2, x166007_2, ([] : List (S172)), 0, 5, bt193.2.1, bt193.2.2)) else ((bits_Reader_Fail.f s0_0 bt193.2.1 bt193.2.2).bind fun bt196 => (some (x166000_2, x166001_2, x166002_2, x166003_2, x166004_2, ([] : List Int), x166006_2, x166007_2, ([] : List (S172)), x7_2, bt196.1, bt196.2.1, bt196.2.2)))) else ((bits_Reader_Fail.f s0_0 bt193.2.1 bt193.2.2).bind fun bt199 => (some (x166000_2, x166001_2, x166002_2, x166003_2, x166004_2, ([] : List Int), x166006_2, x166007_2, ([] : List (S172)), x7_2, bt199.1, bt199.2.1, bt199.2.2))))) = some (r1, r2, r3, r4, r5, r6, r7, r8, r9, r10, r11, r12, r13) := by rw [if_neg (show ¬ (false = true) by decide)] at H; exact H
                      clear H
                      have H := H1
                      clear H1
                      replace H := Option.bind_eq_some_iff.mp H
                      obtain ⟨⟨t193, t194, t195⟩, A380, H⟩ := H
                      replace H : (if t193 = 0 then (if x7_2 ≥ a1 then (some (x166000_2, x166001_2, x166002_2, x166003_2, x166004_2, ([] : List Int), x166006_2, x166007_2, ([] : List (S172)), 0, 5, t194, t195)) else ((bits_Reader_Fail.f s0_0 t194 t195).bind fun bt196 => (some (x166000_2, x166001_2, x166002_2, x166003_2, x166004_2, ([] : List Int), x166006_2, x166007_2, ([] : List (S172)), x7_2, bt196.1, bt196.2.1, bt196.2.2)))) else ((bits_Reader_Fail.f s0_0 t194 t195).bind fun bt199 => (some (x166000_2, x166001_2, x166002_2, x166003_2, x166004_2, ([] : List Int), x166006_2, x166007_2, ([] : List (S172)), x7_2, bt199.1, bt199.2.1, bt199.2.2)))) = some (r1, r2, r3, r4, r5, r6, r7, r8, r9, r10, r11, r12, r13) := H
                      have A38 := Aside0.mk A380
                      clear A380
                      by_cases c39 : t193 = 0
                      · rw [if_pos c39] at H
                        have c39b0 : (t193 == 0) = true := beq_iff_eq.mpr c39
                        have c39b1 : (t193 != 0) = false := bne_eq_false_iff_eq.mpr c39
                        clear c39
                        by_cases c40 : x7_2 ≥ a1
                        · rw [if_pos c40] at H
                          have c40b0 : decide (a1 ≤ x7_2) = true := decide_eq_true c40
                          clear c40
                          simp only [Option.some.injEq, Prod.mk.injEq] at H
                          obtain ⟨rfl, rfl, rfl, rfl, rfl, rfl, rfl, rfl, rfl, rfl, rfl, rfl, rfl⟩ := H
                          go_wp2_with (first | ((with_reducible refine gate_callee (f := 90) rfl ?_); refine goesL_ (some 64) rfl rfl Try.func90 (by kernel_rfl) rfl #[.pointer (some ⟨g, 0, none⟩)] rfl (by (try simp only [List.map_toArray, List.map_cons, List.map_nil]); first | done | rfl | (simp only [List.length_drop, List.length_take]; rfl)) ?_; (with_reducible refine (bits_Reader_Fail.calls g s0_0 x1001_25 x1002_25 t193 t194 t195 w0 _ ?side1 ?side2 A38.out).mono ?_); (case side1 => repeat (first | (with_reducible first | exact HI0.out | apply IsS150.alloc | apply IsS150.drewN | apply IsS150.drew | apply IsS150.set_1 | apply IsS150.set_2 | refine IsS150.far ?_ NB0_165.out _) | exact HI0.out)); (case side2 => repeat (first | (with_reducible first | exact HB.out | apply below_alloc | apply pw_below_drewN | apply below_drew1 | refine below_set ?_ (IsS150.ge HI0.out) | refine below_set ?_ GE165.out) | exact HB.out)); rintro e w41 ⟨rfl, hi, hb, hk⟩; refine ⟨_, rfl, ?_⟩; have n0_ := Aside0.mk (KeepBut.blk hk (g' := gb165) (o := .cells #[.int .i64 x166000_2, .int .i64 x166001_2, .int .i64 x166002_2, .int .i64 x166003_2, .int .i64 x166004_2, .slice none 0 0, .bool x166006_2, .int .i64 x166007_2, .slice none 0 0] 87 (0, 0)) (by (with_reducible repeat (first | refine blk_drewN ?_ _ | refine blk_drew ?_ | refine blk_alloc ?_ _)); exact BK165.out) NB165_0.out (by simp)); have n1_ := Aside0.mk (KeepBut.trans (by repeat (first | (with_reducible first | exact HK.out | apply KeepBut.set_ | apply keep_drewN | apply keep_drew | apply keep_alloc | refine keep_far ?_ GW165.out _) | exact HK.out)) hk (.inl rfl)); have n2_ := Aside0.mk (hb); have n3_ := Aside0.mk (hi); clear BK165; clear HK; clear HB; clear HI0; have BK165 := n0_; have HK := n1_; have HB := n2_; have HI0 := n3_; clear n0_ n1_ n2_ n3_; (try clear hb); (try clear hb2); (try clear hk); (try clear hi); have hnb42 := NB165_0.out; have hnc42 := NB0_165.out; have hcz43_0 : w41.cell? ⟨gb165, 0, none⟩ = some (.int .i64 x166000_2) := (blk_cell BK165.out 0).trans rfl; have hcz43_1 : w41.cell? ⟨gb165, 1, none⟩ = some (.int .i64 x166001_2) := (blk_cell BK165.out 1).trans rfl; have hcz43_2 : w41.cell? ⟨gb165, 2, none⟩ = some (.int .i64 x166002_2) := (blk_cell BK165.out 2).trans rfl; have hcz43_3 : w41.cell? ⟨gb165, 3, none⟩ = some (.int .i64 x166003_2) := (blk_cell BK165.out 3).trans rfl; have hcz43_4 : w41.cell? ⟨gb165, 4, none⟩ = some (.int .i64 x166004_2) := (blk_cell BK165.out 4).trans rfl; have hcz43_5 : w41.cell? ⟨gb165, 5, none⟩ = some (.slice none 0 0) := (blk_cell BK165.out 5).trans rfl; have hcz43_6 : w41.cell? ⟨gb165, 6, none⟩ = some (.bool x166006_2) := (blk_cell BK165.out 6).trans rfl; have hcz43_7 : w41.cell? ⟨gb165, 7, none⟩ = some (.int .i64 x166007_2) := (blk_cell BK165.out 7).trans rfl; have hcz43_8 : w41.cell? ⟨gb165, 8, none⟩ = some (.slice none 0 0) := (blk_cell BK165.out 8).trans rfl; have hfz43_0 := blk_frozen BK165.out 0; have hfz43_1 := blk_frozen BK165.out 1; have hfz43_2 := blk_frozen BK165.out 2; have hfz43_3 := blk_frozen BK165.out 3; have hfz43_4 := blk_frozen BK165.out 4; have hfz43_5 := blk_frozen BK165.out 5; have hfz43_6 := blk_frozen BK165.out 6; have hfz43_7 := blk_frozen BK165.out 7; have hfz43_8 := blk_frozen BK165.out 8))
                          refine bodyPost_ret (results_ctt rfl _ _ gb165 87 #[.int .i64 x166000_2, .int .i64 x166001_2, .int .i64 x166002_2, .int .i64 x166003_2, .int .i64 x166004_2, .slice none 0 0, .bool x166006_2, .int .i64 x166007_2, .slice none 0 0] (0, 0) _ rfl (by (with_reducible repeat (first | refine blk_drewN ?_ _ | refine blk_drew ?_ | refine blk_alloc ?_ _)); refine blk_put (cs := #[.int .i64 x166000_2, .int .i64 x166001_2, .int .i64 x166002_2, .int .i64 x166003_2, .int .i64 x166004_2, .slice none 0 0, .bool x166006_2, .int .i64 x166007_2, .slice none 0 0]) ?_ 8 _ rfl; (with_reducible repeat (first | refine blk_drewN ?_ _ | refine blk_drew ?_ | refine blk_alloc ?_ _)); refine blk_put (cs := #[.int .i64 x166000_2, .int .i64 x166001_2, .int .i64 x166002_2, .int .i64 x166003_2, .int .i64 x166004_2, .slice none 0 0, .bool x166006_2, .int .i64 x166007_2, .slice none 0 0]) ?_ 7 _ rfl; (with_reducible repeat (first | refine blk_drewN ?_ _ | refine blk_drew ?_ | refine blk_alloc ?_ _)); refine blk_put (cs := #[.int .i64 x166000_2, .int .i64 x166001_2, .int .i64 x166002_2, .int .i64 x166003_2, .int .i64 x166004_2, .slice none 0 0, .bool x166006_2, .int .i64 x166007_2, .slice none 0 0]) ?_ 6 _ rfl; (with_reducible repeat (first | refine blk_drewN ?_ _ | refine blk_drew ?_ | refine blk_alloc ?_ _)); refine blk_put (cs := #[.int .i64 x166000_2, .int .i64 x166001_2, .int .i64 x166002_2, .int .i64 x166003_2, .int .i64 x166004_2, .slice none 0 0, .bool x166006_2, .int .i64 x166007_2, .slice none 0 0]) ?_ 5 _ rfl; (with_reducible repeat (first | refine blk_drewN ?_ _ | refine blk_drew ?_ | refine blk_alloc ?_ _)); refine blk_put (cs := #[.int .i64 x166000_2, .int .i64 x166001_2, .int .i64 x166002_2, .int .i64 x166003_2, .int .i64 x166004_2, .slice none 0 0, .bool x166006_2, .int .i64 x166007_2, .slice none 0 0]) ?_ 4 _ rfl; (with_reducible repeat (first | refine blk_drewN ?_ _ | refine blk_drew ?_ | refine blk_alloc ?_ _)); refine blk_put (cs := #[.int .i64 x166000_2, .int .i64 x166001_2, .int .i64 x166002_2, .int .i64 x166003_2, .int .i64 x166004_2, .slice none 0 0, .bool x166006_2, .int .i64 x166007_2, .slice none 0 0]) ?_ 3 _ rfl; (with_reducible repeat (first | refine blk_drewN ?_ _ | refine blk_drew ?_ | refine blk_alloc ?_ _)); refine blk_put (cs := #[.int .i64 x166000_2, .int .i64 x166001_2, .int .i64 x166002_2, .int .i64 x166003_2, .int .i64 x166004_2, .slice none 0 0, .bool x166006_2, .int .i64 x166007_2, .slice none 0 0]) ?_ 2 _ rfl; (with_reducible repeat (first | refine blk_drewN ?_ _ | refine blk_drew ?_ | refine blk_alloc ?_ _)); refine blk_put (cs := #[.int .i64 x166000_2, .int .i64 x166001_2, .int .i64 x166002_2, .int .i64 x166003_2, .int .i64 x166004_2, .slice none 0 0, .bool x166006_2, .int .i64 x166007_2, .slice none 0 0]) ?_ 1 _ rfl; (with_reducible repeat (first | refine blk_drewN ?_ _ | refine blk_drew ?_ | refine blk_alloc ?_ _)); refine blk_put (cs := #[.int .i64 x166000_2, .int .i64 x166001_2, .int .i64 x166002_2, .int .i64 x166003_2, .int .i64 x166004_2, .slice none 0 0, .bool x166006_2, .int .i64 x166007_2, .slice none 0 0]) ?_ 0 _ rfl; (with_reducible repeat (first | refine blk_drewN ?_ _ | refine blk_drew ?_ | refine blk_alloc ?_ _)); exact BK165.out) Try.underlying87 rfl (by kernel_rfl)) rfl ?_
                          exact ⟨_, _, by first | rfl | (simp [errW_none, errW_some] <;> rfl) | (simp [*, errW_none, errW_some] <;> rfl), by first | exact Kd.R_nil _ _ _ _ _ | exact Kd.N_nil _ _ _ _ _ | exact Kd.V_nil _ _ _ _ _ | exact Kd.Q_nil _ _ _ _ _ | exact Kd.S_nil _ _ _ _ _, by first | exact Kd.R_nil _ _ _ _ _ | exact Kd.N_nil _ _ _ _ _ | exact Kd.V_nil _ _ _ _ _ | exact Kd.Q_nil _ _ _ _ _ | exact Kd.S_nil _ _ _ _ _, by repeat (first | (with_reducible first | exact HI0.out | apply IsS150.alloc | apply IsS150.drewN | apply IsS150.drew | apply IsS150.set_1 | apply IsS150.set_2 | refine IsS150.far ?_ NB0_165.out _) | exact HI0.out), by repeat (first | (with_reducible first | exact HB.out | apply below_alloc | apply pw_below_drewN | apply below_drew1 | refine below_set ?_ (IsS150.ge HI0.out) | refine below_set ?_ GE165.out) | exact HB.out), by repeat (first | (with_reducible first | exact HK.out | apply KeepBut.set_ | apply keep_drewN | apply keep_drew | apply keep_alloc | refine keep_far ?_ GW165.out _) | exact HK.out)⟩
                        · rw [if_neg c40] at H
                          have c40b0 : decide (a1 ≤ x7_2) = false := decide_eq_false c40
                          clear c40
                          replace H := Option.bind_eq_some_iff.mp H
                          obtain ⟨⟨t196, t197, t198⟩, A440, H⟩ := H
                          replace H : (some (x166000_2, x166001_2, x166002_2, x166003_2, x166004_2, ([] : List Int), x166006_2, x166007_2, ([] : List (S172)), x7_2, t196, t197, t198)) = some (r1, r2, r3, r4, r5, r6, r7, r8, r9, r10, r11, r12, r13) := H
                          have A44 := Aside0.mk A440
                          clear A440
                          simp only [Option.some.injEq, Prod.mk.injEq] at H
                          obtain ⟨rfl, rfl, rfl, rfl, rfl, rfl, rfl, rfl, rfl, rfl, rfl, rfl, rfl⟩ := H
                          try go_wp2_with (first | ((with_reducible refine gate_callee (f := 90) rfl ?_); refine goesL_ (some 64) rfl rfl Try.func90 (by kernel_rfl) rfl #[.pointer (some ⟨g, 0, none⟩)] rfl (by (try simp only [List.map_toArray, List.map_cons, List.map_nil]); first | done | rfl | (simp only [List.length_drop, List.length_take]; rfl)) ?_; (with_reducible refine (bits_Reader_Fail.calls g s0_0 x1001_25 x1002_25 t193 t194 t195 w0 _ ?side1 ?side2 A38.out).mono ?_); (case side1 => repeat (first | (with_reducible first | exact HI0.out | apply IsS150.alloc | apply IsS150.drewN | apply IsS150.drew | apply IsS150.set_1 | apply IsS150.set_2 | refine IsS150.far ?_ NB0_165.out _) | exact HI0.out)); (case side2 => repeat (first | (with_reducible first | exact HB.out | apply below_alloc | apply pw_below_drewN | apply below_drew1 | refine below_set ?_ (IsS150.ge HI0.out) | refine below_set ?_ GE165.out) | exact HB.out)); rintro e w45 ⟨rfl, hi, hb, hk⟩; refine ⟨_, rfl, ?_⟩; have n0_ := Aside0.mk (KeepBut.blk hk (g' := gb165) (o := .cells #[.int .i64 x166000_2, .int .i64 x166001_2, .int .i64 x166002_2, .int .i64 x166003_2, .int .i64 x166004_2, .slice none 0 0, .bool x166006_2, .int .i64 x166007_2, .slice none 0 0] 87 (0, 0)) (by (with_reducible repeat (first | refine blk_drewN ?_ _ | refine blk_drew ?_ | refine blk_alloc ?_ _)); exact BK165.out) NB165_0.out (by simp)); have n1_ := Aside0.mk (KeepBut.trans (by repeat (first | (with_reducible first | exact HK.out | apply KeepBut.set_ | apply keep_drewN | apply keep_drew | apply keep_alloc | refine keep_far ?_ GW165.out _) | exact HK.out)) hk (.inl rfl)); have n2_ := Aside0.mk (hb); have n3_ := Aside0.mk (hi); clear BK165; clear HK; clear HB; clear HI0; have BK165 := n0_; have HK := n1_; have HB := n2_; have HI0 := n3_; clear n0_ n1_ n2_ n3_; (try clear hb); (try clear hb2); (try clear hk); (try clear hi)))
                          have n0_ := Aside0.mk (blk_drew BK165.out)
                          have n1_ := Aside0.mk (IsS150.drew HI0.out)
                          have n2_ := Aside0.mk (keep_drew HK.out)
                          have n3_ := Aside0.mk (below_drew1 HB.out)
                          clear BK165
                          clear HI0
                          clear HK
                          clear HB
                          have BK165 := n0_
                          have HI0 := n1_
                          have HK := n2_
                          have HB := n3_
                          clear n0_ n1_ n2_ n3_
                          refine start_ (n := 7) (S := fun w' => w'.cell? ⟨gb165, 0, none⟩ = some (.int .i64 x166000_2) ∧ w'.cell? ⟨gb165, 1, none⟩ = some (.int .i64 x166001_2) ∧ w'.cell? ⟨gb165, 2, none⟩ = some (.int .i64 x166002_2) ∧ w'.cell? ⟨gb165, 3, none⟩ = some (.int .i64 x166003_2) ∧ w'.cell? ⟨gb165, 4, none⟩ = some (.int .i64 x166004_2) ∧ w'.cell? ⟨gb165, 5, none⟩ = some (.slice none 0 0) ∧ w'.cell? ⟨gb165, 6, none⟩ = some (.bool x166006_2) ∧ w'.cell? ⟨gb165, 7, none⟩ = some (.int .i64 x166007_2) ∧ w'.cell? ⟨gb165, 8, none⟩ = some (.slice none 0 0)) (ds := [4]) #[false, false, false, false, false, false, false] (by kernel_rfl) rfl rfl ⟨(blk_cell BK165.out 0).trans rfl, (blk_cell BK165.out 1).trans rfl, (blk_cell BK165.out 2).trans rfl, (blk_cell BK165.out 3).trans rfl, (blk_cell BK165.out 4).trans rfl, (blk_cell BK165.out 5).trans rfl, (blk_cell BK165.out 6).trans rfl, (blk_cell BK165.out 7).trans rfl, (blk_cell BK165.out 8).trans rfl⟩ (fun hHeld => ?_)
                          generalize w45.drew = w46 at BK165 HI0 HK HB hHeld ⊢
                          refine pure_ (i := 1) (N := some 73) (v := ?_) (a' := ?_) #[false, true, false, false, false, false, false] rfl rfl (by kernel_rfl) (fun _ _ _ h => h) (Or.inl ⟨by rfl, ?_⟩) ?_ ?_
                          rotate_left
                          · intro w'
                            go_simp
                            with_reducible rfl
                          rotate_left
                          · simp only [Act.put, List.setIfInBounds_toArray, List.set_cons_zero, List.set_cons_succ, i64_w, i32_w]
                            rfl
                          refine pure_ (i := 2) (N := some 74) (v := ?_) (a' := ?_) #[false, true, true, false, false, false, false] rfl rfl (by kernel_rfl) (fun _ _ _ h => h) (Or.inl ⟨by rfl, ?_⟩) ?_ ?_
                          rotate_left
                          · intro w'
                            go_simp
                            with_reducible rfl
                          rotate_left
                          · simp only [Act.put, List.setIfInBounds_toArray, List.set_cons_zero, List.set_cons_succ, i64_w, i32_w]
                            rfl
                          refine take_ (i := 0) (N := some 72) (v := ?_) (a' := ?_) #[true, true, true, false, false, false, false] rfl rfl (by kernel_rfl) (fun _ _ _ h => h) (Or.inl ⟨by rfl, ?_⟩) hHeld ?_ ?_
                          rotate_left
                          · rintro w' ⟨s0, s1, s2, s3, s4, s5, s6, s7, s8⟩
                            go_simp
                            with_reducible rfl
                          rotate_left
                          · simp only [Act.put, List.setIfInBounds_toArray, List.set_cons_zero, List.set_cons_succ, i64_w, i32_w]
                            rfl
                          refine one_ (i := 3) (N := some 75) #[true, true, true, true, false, false, false] rfl rfl (by kernel_rfl) (by decide) (fun K hK => ?_)
                          refine goes_ Try.func90 (by kernel_rfl) rfl #[.pointer (some ⟨g, 0, none⟩)] (by rfl) rfl rfl (by (try simp only [List.map_toArray, List.map_cons, List.map_nil]); first | done | rfl | (simp only [List.length_drop, List.length_take]; rfl)) ?_
                          with_reducible refine (bits_Reader_Fail.calls g s0_0 t194 t195 t196 t197 t198 w0 _ ?side1 ?side2 A44.out).mono ?_
                          (case side1 => repeat (first | (with_reducible first | exact HI0.out | apply IsS150.alloc | apply IsS150.drewN | apply IsS150.drew | apply IsS150.set_1 | apply IsS150.set_2 | refine IsS150.far ?_ NB0_165.out _) | exact HI0.out))
                          (case side2 => repeat (first | (with_reducible first | exact HB.out | apply below_alloc | apply pw_below_drewN | apply below_drew1 | refine below_set ?_ (IsS150.ge HI0.out) | refine below_set ?_ GE165.out) | exact HB.out))
                          rintro e w47 ⟨rfl, hi, hb, hk⟩
                          refine ⟨_, rfl, ?_⟩
                          have n0_ := Aside0.mk (KeepBut.blk hk (g' := gb165) (o := .cells #[.int .i64 x166000_2, .int .i64 x166001_2, .int .i64 x166002_2, .int .i64 x166003_2, .int .i64 x166004_2, .slice none 0 0, .bool x166006_2, .int .i64 x166007_2, .slice none 0 0] 87 (0, 0)) (by (with_reducible repeat (first | refine blk_drewN ?_ _ | refine blk_drew ?_ | refine blk_alloc ?_ _)); exact BK165.out) NB165_0.out (by simp))
                          have n1_ := Aside0.mk (KeepBut.trans (by repeat (first | (with_reducible first | exact HK.out | apply KeepBut.set_ | apply keep_drewN | apply keep_drew | apply keep_alloc | refine keep_far ?_ GW165.out _) | exact HK.out)) hk (.inl rfl))
                          have n2_ := Aside0.mk (hb)
                          have n3_ := Aside0.mk (hi)
                          clear BK165
                          clear HK
                          clear HB
                          clear HI0
                          have BK165 := n0_
                          have HK := n1_
                          have HB := n2_
                          have HI0 := n3_
                          clear n0_ n1_ n2_ n3_
                          (try clear hb)
                          (try clear hb2)
                          (try clear hk)
                          (try clear hi)
                          refine hK.out _ _ ⟨(blk_cell BK165.out 0).trans rfl, (blk_cell BK165.out 1).trans rfl, (blk_cell BK165.out 2).trans rfl, (blk_cell BK165.out 3).trans rfl, (blk_cell BK165.out 4).trans rfl, (blk_cell BK165.out 5).trans rfl, (blk_cell BK165.out 6).trans rfl, (blk_cell BK165.out 7).trans rfl, (blk_cell BK165.out 8).trans rfl⟩ (fun hHeld => ?_)
                          clear hK K
                          refine norm_ (a' := ?_) ?_ ?_
                          rotate_left
                          · show Act.put _ (some 75) _ = _
                            simp only [Act.put, List.setIfInBounds_toArray, List.set_cons_zero, List.set_cons_succ, i64_w, i32_w]
                            rfl
                          refine last_ (i := 4) (N := none) #[true, true, true, true, true, false, false] rfl rfl (by kernel_rfl) (by decide) (fun K hK => ?_)
                          have hs48 : w47.cell? ⟨gb165, 0, none⟩ = some (.int .i64 x166000_2) := (blk_cell BK165.out 0).trans rfl
                          have hfs48 := blk_frozen BK165.out 0
                          have hs49 : w47.cell? ⟨gb165, 1, none⟩ = some (.int .i64 x166001_2) := (blk_cell BK165.out 1).trans rfl
                          have hfs49 := blk_frozen BK165.out 1
                          have hs50 : w47.cell? ⟨gb165, 2, none⟩ = some (.int .i64 x166002_2) := (blk_cell BK165.out 2).trans rfl
                          have hfs50 := blk_frozen BK165.out 2
                          have hs51 : w47.cell? ⟨gb165, 3, none⟩ = some (.int .i64 x166003_2) := (blk_cell BK165.out 3).trans rfl
                          have hfs51 := blk_frozen BK165.out 3
                          have hs52 : w47.cell? ⟨gb165, 4, none⟩ = some (.int .i64 x166004_2) := (blk_cell BK165.out 4).trans rfl
                          have hfs52 := blk_frozen BK165.out 4
                          have hs53 : w47.cell? ⟨gb165, 5, none⟩ = some (.slice none 0 0) := (blk_cell BK165.out 5).trans rfl
                          have hfs53 := blk_frozen BK165.out 5
                          have hs54 : w47.cell? ⟨gb165, 6, none⟩ = some (.bool x166006_2) := (blk_cell BK165.out 6).trans rfl
                          have hfs54 := blk_frozen BK165.out 6
                          have hs55 : w47.cell? ⟨gb165, 7, none⟩ = some (.int .i64 x166007_2) := (blk_cell BK165.out 7).trans rfl
                          have hfs55 := blk_frozen BK165.out 7
                          have hs56 : w47.cell? ⟨gb165, 8, none⟩ = some (.slice none 0 0) := (blk_cell BK165.out 8).trans rfl
                          have hfs56 := blk_frozen BK165.out 8
                          refine skip_ (w1 := ?_) (by rfl) rfl ?_ ?_
                          rotate_left
                          · go_simp
                            rfl
                          refine hK.out _ _ ?_
                          clear hK K
                          refine pure_ (i := 5) (N := some 7) (v := ?_) (a' := ?_) #[true, true, true, true, true, true, false] rfl rfl (by kernel_rfl) (fun _ _ _ h => h) (Or.inl ⟨by rfl, ?_⟩) ?_ ?_
                          rotate_left
                          · intro w'
                            go_simp
                            with_reducible rfl
                          rotate_left
                          · simp only [Act.put, List.setIfInBounds_toArray, List.set_cons_zero, List.set_cons_succ, i64_w, i32_w]
                            rfl
                          refine pure_ (i := 6) (N := some 8) (v := ?_) (a' := ?_) #[true, true, true, true, true, true, true] rfl rfl (by kernel_rfl) (fun _ _ _ h => h) (Or.inl ⟨by rfl, ?_⟩) ?_ ?_
                          rotate_left
                          · intro w'
                            go_simp
                            with_reducible rfl
                          rotate_left
                          · simp only [Act.put, List.setIfInBounds_toArray, List.set_cons_zero, List.set_cons_succ, i64_w, i32_w]
                            rfl
                          refine done_ (by kernel_rfl) ?_
                          try go_wp2
                          refine bodyPost_ret (results_ctt rfl _ _ gb165 87 #[.int .i64 x166000_2, .int .i64 x166001_2, .int .i64 x166002_2, .int .i64 x166003_2, .int .i64 x166004_2, .slice none 0 0, .bool x166006_2, .int .i64 x166007_2, .slice none 0 0] (0, 0) _ rfl (by (with_reducible repeat (first | refine blk_drewN ?_ _ | refine blk_drew ?_ | refine blk_alloc ?_ _)); refine blk_put (cs := #[.int .i64 x166000_2, .int .i64 x166001_2, .int .i64 x166002_2, .int .i64 x166003_2, .int .i64 x166004_2, .slice none 0 0, .bool x166006_2, .int .i64 x166007_2, .slice none 0 0]) ?_ 8 _ rfl; (with_reducible repeat (first | refine blk_drewN ?_ _ | refine blk_drew ?_ | refine blk_alloc ?_ _)); refine blk_put (cs := #[.int .i64 x166000_2, .int .i64 x166001_2, .int .i64 x166002_2, .int .i64 x166003_2, .int .i64 x166004_2, .slice none 0 0, .bool x166006_2, .int .i64 x166007_2, .slice none 0 0]) ?_ 7 _ rfl; (with_reducible repeat (first | refine blk_drewN ?_ _ | refine blk_drew ?_ | refine blk_alloc ?_ _)); refine blk_put (cs := #[.int .i64 x166000_2, .int .i64 x166001_2, .int .i64 x166002_2, .int .i64 x166003_2, .int .i64 x166004_2, .slice none 0 0, .bool x166006_2, .int .i64 x166007_2, .slice none 0 0]) ?_ 6 _ rfl; (with_reducible repeat (first | refine blk_drewN ?_ _ | refine blk_drew ?_ | refine blk_alloc ?_ _)); refine blk_put (cs := #[.int .i64 x166000_2, .int .i64 x166001_2, .int .i64 x166002_2, .int .i64 x166003_2, .int .i64 x166004_2, .slice none 0 0, .bool x166006_2, .int .i64 x166007_2, .slice none 0 0]) ?_ 5 _ rfl; (with_reducible repeat (first | refine blk_drewN ?_ _ | refine blk_drew ?_ | refine blk_alloc ?_ _)); refine blk_put (cs := #[.int .i64 x166000_2, .int .i64 x166001_2, .int .i64 x166002_2, .int .i64 x166003_2, .int .i64 x166004_2, .slice none 0 0, .bool x166006_2, .int .i64 x166007_2, .slice none 0 0]) ?_ 4 _ rfl; (with_reducible repeat (first | refine blk_drewN ?_ _ | refine blk_drew ?_ | refine blk_alloc ?_ _)); refine blk_put (cs := #[.int .i64 x166000_2, .int .i64 x166001_2, .int .i64 x166002_2, .int .i64 x166003_2, .int .i64 x166004_2, .slice none 0 0, .bool x166006_2, .int .i64 x166007_2, .slice none 0 0]) ?_ 3 _ rfl; (with_reducible repeat (first | refine blk_drewN ?_ _ | refine blk_drew ?_ | refine blk_alloc ?_ _)); refine blk_put (cs := #[.int .i64 x166000_2, .int .i64 x166001_2, .int .i64 x166002_2, .int .i64 x166003_2, .int .i64 x166004_2, .slice none 0 0, .bool x166006_2, .int .i64 x166007_2, .slice none 0 0]) ?_ 2 _ rfl; (with_reducible repeat (first | refine blk_drewN ?_ _ | refine blk_drew ?_ | refine blk_alloc ?_ _)); refine blk_put (cs := #[.int .i64 x166000_2, .int .i64 x166001_2, .int .i64 x166002_2, .int .i64 x166003_2, .int .i64 x166004_2, .slice none 0 0, .bool x166006_2, .int .i64 x166007_2, .slice none 0 0]) ?_ 1 _ rfl; (with_reducible repeat (first | refine blk_drewN ?_ _ | refine blk_drew ?_ | refine blk_alloc ?_ _)); refine blk_put (cs := #[.int .i64 x166000_2, .int .i64 x166001_2, .int .i64 x166002_2, .int .i64 x166003_2, .int .i64 x166004_2, .slice none 0 0, .bool x166006_2, .int .i64 x166007_2, .slice none 0 0]) ?_ 0 _ rfl; (with_reducible repeat (first | refine blk_drewN ?_ _ | refine blk_drew ?_ | refine blk_alloc ?_ _)); exact BK165.out) Try.underlying87 rfl (by kernel_rfl)) rfl ?_
                          exact ⟨_, _, by first | rfl | (simp [errW_none, errW_some] <;> rfl) | (simp [*, errW_none, errW_some] <;> rfl), by first | exact Kd.R_nil _ _ _ _ _ | exact Kd.N_nil _ _ _ _ _ | exact Kd.V_nil _ _ _ _ _ | exact Kd.Q_nil _ _ _ _ _ | exact Kd.S_nil _ _ _ _ _, by first | exact Kd.R_nil _ _ _ _ _ | exact Kd.N_nil _ _ _ _ _ | exact Kd.V_nil _ _ _ _ _ | exact Kd.Q_nil _ _ _ _ _ | exact Kd.S_nil _ _ _ _ _, by repeat (first | (with_reducible first | exact HI0.out | apply IsS150.alloc | apply IsS150.drewN | apply IsS150.drew | apply IsS150.set_1 | apply IsS150.set_2 | refine IsS150.far ?_ NB0_165.out _) | exact HI0.out), by repeat (first | (with_reducible first | exact HB.out | apply below_alloc | apply pw_below_drewN | apply below_drew1 | refine below_set ?_ (IsS150.ge HI0.out) | refine below_set ?_ GE165.out) | exact HB.out), by repeat (first | (with_reducible first | exact HK.out | apply KeepBut.set_ | apply keep_drewN | apply keep_drew | apply keep_alloc | refine keep_far ?_ GW165.out _) | exact HK.out)⟩
                      · rw [if_neg c39] at H
                        have c39b0 : (t193 == 0) = false := beq_eq_false_iff_ne.mpr c39
                        have c39b1 : (t193 != 0) = true := bne_iff_ne.mpr c39
                        replace H := Option.bind_eq_some_iff.mp H
                        obtain ⟨⟨t199, t200, t201⟩, A570, H⟩ := H
                        replace H : (some (x166000_2, x166001_2, x166002_2, x166003_2, x166004_2, ([] : List Int), x166006_2, x166007_2, ([] : List (S172)), x7_2, t199, t200, t201)) = some (r1, r2, r3, r4, r5, r6, r7, r8, r9, r10, r11, r12, r13) := H
                        have A57 := Aside0.mk A570
                        clear A570
                        simp only [Option.some.injEq, Prod.mk.injEq] at H
                        obtain ⟨rfl, rfl, rfl, rfl, rfl, rfl, rfl, rfl, rfl, rfl, rfl, rfl, rfl⟩ := H
                        try go_wp2_with (first | ((with_reducible refine gate_callee (f := 90) rfl ?_); refine goesL_ (some 64) rfl rfl Try.func90 (by kernel_rfl) rfl #[.pointer (some ⟨g, 0, none⟩)] rfl (by (try simp only [List.map_toArray, List.map_cons, List.map_nil]); first | done | rfl | (simp only [List.length_drop, List.length_take]; rfl)) ?_; (with_reducible refine (bits_Reader_Fail.calls g s0_0 x1001_25 x1002_25 t193 t194 t195 w0 _ ?side1 ?side2 A38.out).mono ?_); (case side1 => repeat (first | (with_reducible first | exact HI0.out | apply IsS150.alloc | apply IsS150.drewN | apply IsS150.drew | apply IsS150.set_1 | apply IsS150.set_2 | refine IsS150.far ?_ NB0_165.out _) | exact HI0.out)); (case side2 => repeat (first | (with_reducible first | exact HB.out | apply below_alloc | apply pw_below_drewN | apply below_drew1 | refine below_set ?_ (IsS150.ge HI0.out) | refine below_set ?_ GE165.out) | exact HB.out)); rintro e w58 ⟨rfl, hi, hb, hk⟩; refine ⟨_, rfl, ?_⟩; have n0_ := Aside0.mk (KeepBut.blk hk (g' := gb165) (o := .cells #[.int .i64 x166000_2, .int .i64 x166001_2, .int .i64 x166002_2, .int .i64 x166003_2, .int .i64 x166004_2, .slice none 0 0, .bool x166006_2, .int .i64 x166007_2, .slice none 0 0] 87 (0, 0)) (by (with_reducible repeat (first | refine blk_drewN ?_ _ | refine blk_drew ?_ | refine blk_alloc ?_ _)); exact BK165.out) NB165_0.out (by simp)); have n1_ := Aside0.mk (KeepBut.trans (by repeat (first | (with_reducible first | exact HK.out | apply KeepBut.set_ | apply keep_drewN | apply keep_drew | apply keep_alloc | refine keep_far ?_ GW165.out _) | exact HK.out)) hk (.inl rfl)); have n2_ := Aside0.mk (hb); have n3_ := Aside0.mk (hi); clear BK165; clear HK; clear HB; clear HI0; have BK165 := n0_; have HK := n1_; have HB := n2_; have HI0 := n3_; clear n0_ n1_ n2_ n3_; (try clear hb); (try clear hb2); (try clear hk); (try clear hi)))
                        have n0_ := Aside0.mk (blk_drew BK165.out)
                        have n1_ := Aside0.mk (IsS150.drew HI0.out)
                        have n2_ := Aside0.mk (keep_drew HK.out)
                        have n3_ := Aside0.mk (below_drew1 HB.out)
                        clear BK165
                        clear HI0
                        clear HK
                        clear HB
                        have BK165 := n0_
                        have HI0 := n1_
                        have HK := n2_
                        have HB := n3_
                        clear n0_ n1_ n2_ n3_
                        refine start_ (n := 7) (S := fun w' => w'.cell? ⟨gb165, 0, none⟩ = some (.int .i64 x166000_2) ∧ w'.cell? ⟨gb165, 1, none⟩ = some (.int .i64 x166001_2) ∧ w'.cell? ⟨gb165, 2, none⟩ = some (.int .i64 x166002_2) ∧ w'.cell? ⟨gb165, 3, none⟩ = some (.int .i64 x166003_2) ∧ w'.cell? ⟨gb165, 4, none⟩ = some (.int .i64 x166004_2) ∧ w'.cell? ⟨gb165, 5, none⟩ = some (.slice none 0 0) ∧ w'.cell? ⟨gb165, 6, none⟩ = some (.bool x166006_2) ∧ w'.cell? ⟨gb165, 7, none⟩ = some (.int .i64 x166007_2) ∧ w'.cell? ⟨gb165, 8, none⟩ = some (.slice none 0 0)) (ds := [4]) #[false, false, false, false, false, false, false] (by kernel_rfl) rfl rfl ⟨(blk_cell BK165.out 0).trans rfl, (blk_cell BK165.out 1).trans rfl, (blk_cell BK165.out 2).trans rfl, (blk_cell BK165.out 3).trans rfl, (blk_cell BK165.out 4).trans rfl, (blk_cell BK165.out 5).trans rfl, (blk_cell BK165.out 6).trans rfl, (blk_cell BK165.out 7).trans rfl, (blk_cell BK165.out 8).trans rfl⟩ (fun hHeld => ?_)
                        generalize w58.drew = w59 at BK165 HI0 HK HB hHeld ⊢
                        refine pure_ (i := 1) (N := some 73) (v := ?_) (a' := ?_) #[false, true, false, false, false, false, false] rfl rfl (by kernel_rfl) (fun _ _ _ h => h) (Or.inl ⟨by rfl, ?_⟩) ?_ ?_
                        rotate_left
                        · intro w'
                          go_simp
                          with_reducible rfl
                        rotate_left
                        · simp only [Act.put, List.setIfInBounds_toArray, List.set_cons_zero, List.set_cons_succ, i64_w, i32_w]
                          rfl
                        refine pure_ (i := 2) (N := some 74) (v := ?_) (a' := ?_) #[false, true, true, false, false, false, false] rfl rfl (by kernel_rfl) (fun _ _ _ h => h) (Or.inl ⟨by rfl, ?_⟩) ?_ ?_
                        rotate_left
                        · intro w'
                          go_simp
                          with_reducible rfl
                        rotate_left
                        · simp only [Act.put, List.setIfInBounds_toArray, List.set_cons_zero, List.set_cons_succ, i64_w, i32_w]
                          rfl
                        refine take_ (i := 0) (N := some 72) (v := ?_) (a' := ?_) #[true, true, true, false, false, false, false] rfl rfl (by kernel_rfl) (fun _ _ _ h => h) (Or.inl ⟨by rfl, ?_⟩) hHeld ?_ ?_
                        rotate_left
                        · rintro w' ⟨s0, s1, s2, s3, s4, s5, s6, s7, s8⟩
                          go_simp
                          with_reducible rfl
                        rotate_left
                        · simp only [Act.put, List.setIfInBounds_toArray, List.set_cons_zero, List.set_cons_succ, i64_w, i32_w]
                          rfl
                        refine one_ (i := 3) (N := some 75) #[true, true, true, true, false, false, false] rfl rfl (by kernel_rfl) (by decide) (fun K hK => ?_)
                        refine goes_ Try.func90 (by kernel_rfl) rfl #[.pointer (some ⟨g, 0, none⟩)] (by rfl) rfl rfl (by (try simp only [List.map_toArray, List.map_cons, List.map_nil]); first | done | rfl | (simp only [List.length_drop, List.length_take]; rfl)) ?_
                        with_reducible refine (bits_Reader_Fail.calls g s0_0 t194 t195 t199 t200 t201 w0 _ ?side1 ?side2 A57.out).mono ?_
                        (case side1 => repeat (first | (with_reducible first | exact HI0.out | apply IsS150.alloc | apply IsS150.drewN | apply IsS150.drew | apply IsS150.set_1 | apply IsS150.set_2 | refine IsS150.far ?_ NB0_165.out _) | exact HI0.out))
                        (case side2 => repeat (first | (with_reducible first | exact HB.out | apply below_alloc | apply pw_below_drewN | apply below_drew1 | refine below_set ?_ (IsS150.ge HI0.out) | refine below_set ?_ GE165.out) | exact HB.out))
                        rintro e w60 ⟨rfl, hi, hb, hk⟩
                        refine ⟨_, rfl, ?_⟩
                        have n0_ := Aside0.mk (KeepBut.blk hk (g' := gb165) (o := .cells #[.int .i64 x166000_2, .int .i64 x166001_2, .int .i64 x166002_2, .int .i64 x166003_2, .int .i64 x166004_2, .slice none 0 0, .bool x166006_2, .int .i64 x166007_2, .slice none 0 0] 87 (0, 0)) (by (with_reducible repeat (first | refine blk_drewN ?_ _ | refine blk_drew ?_ | refine blk_alloc ?_ _)); exact BK165.out) NB165_0.out (by simp))
                        have n1_ := Aside0.mk (KeepBut.trans (by repeat (first | (with_reducible first | exact HK.out | apply KeepBut.set_ | apply keep_drewN | apply keep_drew | apply keep_alloc | refine keep_far ?_ GW165.out _) | exact HK.out)) hk (.inl rfl))
                        have n2_ := Aside0.mk (hb)
                        have n3_ := Aside0.mk (hi)
                        clear BK165
                        clear HK
                        clear HB
                        clear HI0
                        have BK165 := n0_
                        have HK := n1_
                        have HB := n2_
                        have HI0 := n3_
                        clear n0_ n1_ n2_ n3_
                        (try clear hb)
                        (try clear hb2)
                        (try clear hk)
                        (try clear hi)
                        refine hK.out _ _ ⟨(blk_cell BK165.out 0).trans rfl, (blk_cell BK165.out 1).trans rfl, (blk_cell BK165.out 2).trans rfl, (blk_cell BK165.out 3).trans rfl, (blk_cell BK165.out 4).trans rfl, (blk_cell BK165.out 5).trans rfl, (blk_cell BK165.out 6).trans rfl, (blk_cell BK165.out 7).trans rfl, (blk_cell BK165.out 8).trans rfl⟩ (fun hHeld => ?_)
                        clear hK K
                        refine norm_ (a' := ?_) ?_ ?_
                        rotate_left
                        · show Act.put _ (some 75) _ = _
                          simp only [Act.put, List.setIfInBounds_toArray, List.set_cons_zero, List.set_cons_succ, i64_w, i32_w]
                          rfl
                        refine last_ (i := 4) (N := none) #[true, true, true, true, true, false, false] rfl rfl (by kernel_rfl) (by decide) (fun K hK => ?_)
                        have hs61 : w60.cell? ⟨gb165, 0, none⟩ = some (.int .i64 x166000_2) := (blk_cell BK165.out 0).trans rfl
                        have hfs61 := blk_frozen BK165.out 0
                        have hs62 : w60.cell? ⟨gb165, 1, none⟩ = some (.int .i64 x166001_2) := (blk_cell BK165.out 1).trans rfl
                        have hfs62 := blk_frozen BK165.out 1
                        have hs63 : w60.cell? ⟨gb165, 2, none⟩ = some (.int .i64 x166002_2) := (blk_cell BK165.out 2).trans rfl
                        have hfs63 := blk_frozen BK165.out 2
                        have hs64 : w60.cell? ⟨gb165, 3, none⟩ = some (.int .i64 x166003_2) := (blk_cell BK165.out 3).trans rfl
                        have hfs64 := blk_frozen BK165.out 3
                        have hs65 : w60.cell? ⟨gb165, 4, none⟩ = some (.int .i64 x166004_2) := (blk_cell BK165.out 4).trans rfl
                        have hfs65 := blk_frozen BK165.out 4
                        have hs66 : w60.cell? ⟨gb165, 5, none⟩ = some (.slice none 0 0) := (blk_cell BK165.out 5).trans rfl
                        have hfs66 := blk_frozen BK165.out 5
                        have hs67 : w60.cell? ⟨gb165, 6, none⟩ = some (.bool x166006_2) := (blk_cell BK165.out 6).trans rfl
                        have hfs67 := blk_frozen BK165.out 6
                        have hs68 : w60.cell? ⟨gb165, 7, none⟩ = some (.int .i64 x166007_2) := (blk_cell BK165.out 7).trans rfl
                        have hfs68 := blk_frozen BK165.out 7
                        have hs69 : w60.cell? ⟨gb165, 8, none⟩ = some (.slice none 0 0) := (blk_cell BK165.out 8).trans rfl
                        have hfs69 := blk_frozen BK165.out 8
                        refine skip_ (w1 := ?_) (by rfl) rfl ?_ ?_
                        rotate_left
                        · go_simp
                          rfl
                        refine hK.out _ _ ?_
                        clear hK K
                        refine pure_ (i := 5) (N := some 7) (v := ?_) (a' := ?_) #[true, true, true, true, true, true, false] rfl rfl (by kernel_rfl) (fun _ _ _ h => h) (Or.inl ⟨by rfl, ?_⟩) ?_ ?_
                        rotate_left
                        · intro w'
                          go_simp
                          with_reducible rfl
                        rotate_left
                        · simp only [Act.put, List.setIfInBounds_toArray, List.set_cons_zero, List.set_cons_succ, i64_w, i32_w]
                          rfl
                        refine pure_ (i := 6) (N := some 8) (v := ?_) (a' := ?_) #[true, true, true, true, true, true, true] rfl rfl (by kernel_rfl) (fun _ _ _ h => h) (Or.inl ⟨by rfl, ?_⟩) ?_ ?_
                        rotate_left
                        · intro w'
                          go_simp
                          with_reducible rfl
                        rotate_left
                        · simp only [Act.put, List.setIfInBounds_toArray, List.set_cons_zero, List.set_cons_succ, i64_w, i32_w]
                          rfl
                        refine done_ (by kernel_rfl) ?_
                        try go_wp2
                        refine bodyPost_ret (results_ctt rfl _ _ gb165 87 #[.int .i64 x166000_2, .int .i64 x166001_2, .int .i64 x166002_2, .int .i64 x166003_2, .int .i64 x166004_2, .slice none 0 0, .bool x166006_2, .int .i64 x166007_2, .slice none 0 0] (0, 0) _ rfl (by (with_reducible repeat (first | refine blk_drewN ?_ _ | refine blk_drew ?_ | refine blk_alloc ?_ _)); refine blk_put (cs := #[.int .i64 x166000_2, .int .i64 x166001_2, .int .i64 x166002_2, .int .i64 x166003_2, .int .i64 x166004_2, .slice none 0 0, .bool x166006_2, .int .i64 x166007_2, .slice none 0 0]) ?_ 8 _ rfl; (with_reducible repeat (first | refine blk_drewN ?_ _ | refine blk_drew ?_ | refine blk_alloc ?_ _)); refine blk_put (cs := #[.int .i64 x166000_2, .int .i64 x166001_2, .int .i64 x166002_2, .int .i64 x166003_2, .int .i64 x166004_2, .slice none 0 0, .bool x166006_2, .int .i64 x166007_2, .slice none 0 0]) ?_ 7 _ rfl; (with_reducible repeat (first | refine blk_drewN ?_ _ | refine blk_drew ?_ | refine blk_alloc ?_ _)); refine blk_put (cs := #[.int .i64 x166000_2, .int .i64 x166001_2, .int .i64 x166002_2, .int .i64 x166003_2, .int .i64 x166004_2, .slice none 0 0, .bool x166006_2, .int .i64 x166007_2, .slice none 0 0]) ?_ 6 _ rfl; (with_reducible repeat (first | refine blk_drewN ?_ _ | refine blk_drew ?_ | refine blk_alloc ?_ _)); refine blk_put (cs := #[.int .i64 x166000_2, .int .i64 x166001_2, .int .i64 x166002_2, .int .i64 x166003_2, .int .i64 x166004_2, .slice none 0 0, .bool x166006_2, .int .i64 x166007_2, .slice none 0 0]) ?_ 5 _ rfl; (with_reducible repeat (first | refine blk_drewN ?_ _ | refine blk_drew ?_ | refine blk_alloc ?_ _)); refine blk_put (cs := #[.int .i64 x166000_2, .int .i64 x166001_2, .int .i64 x166002_2, .int .i64 x166003_2, .int .i64 x166004_2, .slice none 0 0, .bool x166006_2, .int .i64 x166007_2, .slice none 0 0]) ?_ 4 _ rfl; (with_reducible repeat (first | refine blk_drewN ?_ _ | refine blk_drew ?_ | refine blk_alloc ?_ _)); refine blk_put (cs := #[.int .i64 x166000_2, .int .i64 x166001_2, .int .i64 x166002_2, .int .i64 x166003_2, .int .i64 x166004_2, .slice none 0 0, .bool x166006_2, .int .i64 x166007_2, .slice none 0 0]) ?_ 3 _ rfl; (with_reducible repeat (first | refine blk_drewN ?_ _ | refine blk_drew ?_ | refine blk_alloc ?_ _)); refine blk_put (cs := #[.int .i64 x166000_2, .int .i64 x166001_2, .int .i64 x166002_2, .int .i64 x166003_2, .int .i64 x166004_2, .slice none 0 0, .bool x166006_2, .int .i64 x166007_2, .slice none 0 0]) ?_ 2 _ rfl; (with_reducible repeat (first | refine blk_drewN ?_ _ | refine blk_drew ?_ | refine blk_alloc ?_ _)); refine blk_put (cs := #[.int .i64 x166000_2, .int .i64 x166001_2, .int .i64 x166002_2, .int .i64 x166003_2, .int .i64 x166004_2, .slice none 0 0, .bool x166006_2, .int .i64 x166007_2, .slice none 0 0]) ?_ 1 _ rfl; (with_reducible repeat (first | refine blk_drewN ?_ _ | refine blk_drew ?_ | refine blk_alloc ?_ _)); refine blk_put (cs := #[.int .i64 x166000_2, .int .i64 x166001_2, .int .i64 x166002_2, .int .i64 x166003_2, .int .i64 x166004_2, .slice none 0 0, .bool x166006_2, .int .i64 x166007_2, .slice none 0 0]) ?_ 0 _ rfl; (with_reducible repeat (first | refine blk_drewN ?_ _ | refine blk_drew ?_ | refine blk_alloc ?_ _)); exact BK165.out) Try.underlying87 rfl (by kernel_rfl)) rfl ?_
                        exact ⟨_, _, by first | rfl | (simp [errW_none, errW_some] <;> rfl) | (simp [*, errW_none, errW_some] <;> rfl), by first | exact Kd.R_nil _ _ _ _ _ | exact Kd.N_nil _ _ _ _ _ | exact Kd.V_nil _ _ _ _ _ | exact Kd.Q_nil _ _ _ _ _ | exact Kd.S_nil _ _ _ _ _, by first | exact Kd.R_nil _ _ _ _ _ | exact Kd.N_nil _ _ _ _ _ | exact Kd.V_nil _ _ _ _ _ | exact Kd.Q_nil _ _ _ _ _ | exact Kd.S_nil _ _ _ _ _, by repeat (first | (with_reducible first | exact HI0.out | apply IsS150.alloc | apply IsS150.drewN | apply IsS150.drew | apply IsS150.set_1 | apply IsS150.set_2 | refine IsS150.far ?_ NB0_165.out _) | exact HI0.out), by repeat (first | (with_reducible first | exact HB.out | apply below_alloc | apply pw_below_drewN | apply below_drew1 | refine below_set ?_ (IsS150.ge HI0.out) | refine below_set ?_ GE165.out) | exact HB.out), by repeat (first | (with_reducible first | exact HK.out | apply KeepBut.set_ | apply keep_drewN | apply keep_drew | apply keep_alloc | refine keep_far ?_ GW165.out _) | exact HK.out)⟩
          · rw [if_neg c19] at H
            have c19b0 : (t183 == 0) = false := beq_eq_false_iff_ne.mpr c19
            have c19b1 : (t183 != 0) = true := bne_iff_ne.mpr c19
            simp only [Option.some.injEq, Prod.mk.injEq] at H
            obtain ⟨rfl, rfl, rfl, rfl, rfl, rfl, rfl, rfl, rfl, rfl, rfl, rfl, rfl⟩ := H
            go_wp2_with (first | ((with_reducible refine gate_callee (f := 137) rfl ?_); refine goesL_ (some 23) rfl rfl Try.func137 (by kernel_rfl) rfl #[.pointer (some ⟨g, 0, none⟩), .int .i64 6] rfl (by (try simp only [List.map_toArray, List.map_cons, List.map_nil]); first | done | rfl | (simp only [List.length_drop, List.length_take]; rfl)) ?_; (with_reducible refine (bits_Reader_Take.calls kj4 g s0_0 x1001_4 x1002_4 6 t172 t173 t174 w0 _ ?side1 ?side2 A15.out).mono ?_); (case side1 => repeat (first | (with_reducible first | exact HI0.out | apply IsS150.alloc | apply IsS150.drewN | apply IsS150.drew | apply IsS150.set_1 | apply IsS150.set_2 | refine IsS150.far ?_ NB0_165.out _) | exact HI0.out)); (case side2 => repeat (first | (with_reducible first | exact HB.out | apply below_alloc | apply pw_below_drewN | apply below_drew1 | refine below_set ?_ (IsS150.ge HI0.out) | refine below_set ?_ GE165.out) | exact HB.out)); rintro e w70 ⟨rfl, hi, hb, hk⟩; refine ⟨_, rfl, ?_⟩; have n0_ := Aside0.mk (KeepBut.blk hk (g' := gb165) (o := .cells #[.int .i64 0, .int .i64 0, .int .i64 0, .int .i64 0, .int .i64 0, .slice none 0 0, .bool false, .int .i64 0, .slice none 0 0] 87 (0, 0)) (by (with_reducible repeat (first | refine blk_drewN ?_ _ | refine blk_drew ?_ | refine blk_alloc ?_ _)); exact BK165.out) NB165_0.out (by simp)); have n1_ := Aside0.mk (KeepBut.trans (by repeat (first | (with_reducible first | exact HK.out | apply KeepBut.set_ | apply keep_drewN | apply keep_drew | apply keep_alloc | refine keep_far ?_ GW165.out _) | exact HK.out)) hk (.inl rfl)); have n2_ := Aside0.mk (hb); have n3_ := Aside0.mk (hi); clear BK165; clear HK; clear HB; clear HI0; have BK165 := n0_; have HK := n1_; have HB := n2_; have HI0 := n3_; clear n0_ n1_ n2_ n3_; (try clear hb); (try clear hb2); (try clear hk); (try clear hi)) | ((with_reducible refine gate_callee (f := 90) rfl ?_); refine goesL_ (some 26) rfl rfl Try.func90 (by kernel_rfl) rfl #[.pointer (some ⟨g, 0, none⟩)] rfl (by (try simp only [List.map_toArray, List.map_cons, List.map_nil]); first | done | rfl | (simp only [List.length_drop, List.length_take]; rfl)) ?_; (with_reducible refine (bits_Reader_Fail.calls g s0_0 t173 t174 t175 t176 t177 w0 _ ?side1 ?side2 A16.out).mono ?_); (case side1 => repeat (first | (with_reducible first | exact HI0.out | apply IsS150.alloc | apply IsS150.drewN | apply IsS150.drew | apply IsS150.set_1 | apply IsS150.set_2 | refine IsS150.far ?_ NB0_165.out _) | exact HI0.out)); (case side2 => repeat (first | (with_reducible first | exact HB.out | apply below_alloc | apply pw_below_drewN | apply below_drew1 | refine below_set ?_ (IsS150.ge HI0.out) | refine below_set ?_ GE165.out) | exact HB.out)); rintro e w71 ⟨rfl, hi, hb, hk⟩; refine ⟨_, rfl, ?_⟩; have n0_ := Aside0.mk (KeepBut.blk hk (g' := gb165) (o := .cells #[.int .i64 0, .int .i64 0, .int .i64 0, .int .i64 0, .int .i64 0, .slice none 0 0, .bool false, .int .i64 0, .slice none 0 0] 87 (0, 0)) (by (with_reducible repeat (first | refine blk_drewN ?_ _ | refine blk_drew ?_ | refine blk_alloc ?_ _)); exact BK165.out) NB165_0.out (by simp)); have n1_ := Aside0.mk (KeepBut.trans (by repeat (first | (with_reducible first | exact HK.out | apply KeepBut.set_ | apply keep_drewN | apply keep_drew | apply keep_alloc | refine keep_far ?_ GW165.out _) | exact HK.out)) hk (.inl rfl)); have n2_ := Aside0.mk (hb); have n3_ := Aside0.mk (hi); clear BK165; clear HK; clear HB; clear HI0; have BK165 := n0_; have HK := n1_; have HB := n2_; have HI0 := n3_; clear n0_ n1_ n2_ n3_; (try clear hb); (try clear hb2); (try clear hk); (try clear hi)) | ((with_reducible refine gate_callee (f := 138) rfl ?_); refine goesL_ (some 33) rfl rfl Try.func138 (by kernel_rfl) rfl #[.int .i64 (wrap64 (t172))] rfl (by (try simp only [List.map_toArray, List.map_cons, List.map_nil]); first | done | rfl | (simp only [List.length_drop, List.length_take]; rfl)) ?_; (with_reducible refine (subframe_kind.calls kj4 (wrap64 (t172)) t181 t182 t183 _ A18.out).mono ?_); rintro e w' ⟨rfl, ⟨nd, rfl⟩⟩; refine ⟨_, rfl, ?_⟩; (try ((try rw [World.drewN_drewN]); rw [drewN_self w71]; generalize hq_ : World.drewN w71 _ = w71; have n0_ : Aside0 (w71.heap[gb165]? = some (.cells #[.int .i64 0, .int .i64 0, .int .i64 0, .int .i64 0, .int .i64 0, .slice none 0 0, .bool false, .int .i64 0, .slice none 0 0] 87 (0, 0))) := ⟨by rw [← hq_]; exact (by (with_reducible repeat (first | refine blk_drewN ?_ _ | refine blk_drew ?_ | refine blk_alloc ?_ _)); exact BK165.out)⟩; have n1_ : Aside0 (IsS150 w0 w71 g s0_0 t176 t177) := ⟨by rw [← hq_]; exact (by repeat (first | (with_reducible first | exact HI0.out | apply IsS150.alloc | apply IsS150.drewN | apply IsS150.drew | apply IsS150.set_1 | apply IsS150.set_2 | refine IsS150.far ?_ NB0_165.out _) | exact HI0.out))⟩; have n2_ : Aside0 (KeepBut w w71 g none) := ⟨by rw [← hq_]; exact (by repeat (first | (with_reducible first | exact HK.out | apply KeepBut.set_ | apply keep_drewN | apply keep_drew | apply keep_alloc | refine keep_far ?_ GW165.out _) | exact HK.out))⟩; have n3_ : Aside0 (Below w0.heap.size w0 w71) := ⟨by rw [← hq_]; exact (by repeat (first | (with_reducible first | exact HB.out | apply below_alloc | apply pw_below_drewN | apply below_drew1 | refine below_set ?_ (IsS150.ge HI0.out) | refine below_set ?_ GE165.out) | exact HB.out))⟩; clear BK165 HI0 HK HB hq_; have BK165 := n0_; have HI0 := n1_; have HK := n2_; have HB := n3_; clear n0_ n1_ n2_ n3_)); have hnb72 := NB165_0.out; have hnc72 := NB0_165.out; have hcz73_0 : w71.cell? ⟨gb165, 0, none⟩ = some (.int .i64 0) := (blk_cell BK165.out 0).trans rfl; have hcz73_1 : w71.cell? ⟨gb165, 1, none⟩ = some (.int .i64 0) := (blk_cell BK165.out 1).trans rfl; have hcz73_2 : w71.cell? ⟨gb165, 2, none⟩ = some (.int .i64 0) := (blk_cell BK165.out 2).trans rfl; have hcz73_3 : w71.cell? ⟨gb165, 3, none⟩ = some (.int .i64 0) := (blk_cell BK165.out 3).trans rfl; have hcz73_4 : w71.cell? ⟨gb165, 4, none⟩ = some (.int .i64 0) := (blk_cell BK165.out 4).trans rfl; have hcz73_5 : w71.cell? ⟨gb165, 5, none⟩ = some (.slice none 0 0) := (blk_cell BK165.out 5).trans rfl; have hcz73_6 : w71.cell? ⟨gb165, 6, none⟩ = some (.bool false) := (blk_cell BK165.out 6).trans rfl; have hcz73_7 : w71.cell? ⟨gb165, 7, none⟩ = some (.int .i64 0) := (blk_cell BK165.out 7).trans rfl; have hcz73_8 : w71.cell? ⟨gb165, 8, none⟩ = some (.slice none 0 0) := (blk_cell BK165.out 8).trans rfl; have hfz73_0 := blk_frozen BK165.out 0; have hfz73_1 := blk_frozen BK165.out 1; have hfz73_2 := blk_frozen BK165.out 2; have hfz73_3 := blk_frozen BK165.out 3; have hfz73_4 := blk_frozen BK165.out 4; have hfz73_5 := blk_frozen BK165.out 5; have hfz73_6 := blk_frozen BK165.out 6; have hfz73_7 := blk_frozen BK165.out 7; have hfz73_8 := blk_frozen BK165.out 8))
            refine bodyPost_ret (results_ctt rfl _ _ gb165 87 #[.int .i64 t181, .int .i64 0, .int .i64 0, .int .i64 0, .int .i64 0, .slice none 0 0, .bool false, .int .i64 0, .slice none 0 0] (0, 0) _ rfl (by (with_reducible repeat (first | refine blk_drewN ?_ _ | refine blk_drew ?_ | refine blk_alloc ?_ _)); refine blk_put (cs := #[.int .i64 t181, .int .i64 0, .int .i64 0, .int .i64 0, .int .i64 0, .slice none 0 0, .bool false, .int .i64 0, .slice none 0 0]) ?_ 8 _ rfl; (with_reducible repeat (first | refine blk_drewN ?_ _ | refine blk_drew ?_ | refine blk_alloc ?_ _)); refine blk_put (cs := #[.int .i64 t181, .int .i64 0, .int .i64 0, .int .i64 0, .int .i64 0, .slice none 0 0, .bool false, .int .i64 0, .slice none 0 0]) ?_ 7 _ rfl; (with_reducible repeat (first | refine blk_drewN ?_ _ | refine blk_drew ?_ | refine blk_alloc ?_ _)); refine blk_put (cs := #[.int .i64 t181, .int .i64 0, .int .i64 0, .int .i64 0, .int .i64 0, .slice none 0 0, .bool false, .int .i64 0, .slice none 0 0]) ?_ 6 _ rfl; (with_reducible repeat (first | refine blk_drewN ?_ _ | refine blk_drew ?_ | refine blk_alloc ?_ _)); refine blk_put (cs := #[.int .i64 t181, .int .i64 0, .int .i64 0, .int .i64 0, .int .i64 0, .slice none 0 0, .bool false, .int .i64 0, .slice none 0 0]) ?_ 5 _ rfl; (with_reducible repeat (first | refine blk_drewN ?_ _ | refine blk_drew ?_ | refine blk_alloc ?_ _)); refine blk_put (cs := #[.int .i64 t181, .int .i64 0, .int .i64 0, .int .i64 0, .int .i64 0, .slice none 0 0, .bool false, .int .i64 0, .slice none 0 0]) ?_ 4 _ rfl; (with_reducible repeat (first | refine blk_drewN ?_ _ | refine blk_drew ?_ | refine blk_alloc ?_ _)); refine blk_put (cs := #[.int .i64 t181, .int .i64 0, .int .i64 0, .int .i64 0, .int .i64 0, .slice none 0 0, .bool false, .int .i64 0, .slice none 0 0]) ?_ 3 _ rfl; (with_reducible repeat (first | refine blk_drewN ?_ _ | refine blk_drew ?_ | refine blk_alloc ?_ _)); refine blk_put (cs := #[.int .i64 t181, .int .i64 0, .int .i64 0, .int .i64 0, .int .i64 0, .slice none 0 0, .bool false, .int .i64 0, .slice none 0 0]) ?_ 2 _ rfl; (with_reducible repeat (first | refine blk_drewN ?_ _ | refine blk_drew ?_ | refine blk_alloc ?_ _)); refine blk_put (cs := #[.int .i64 t181, .int .i64 0, .int .i64 0, .int .i64 0, .int .i64 0, .slice none 0 0, .bool false, .int .i64 0, .slice none 0 0]) ?_ 1 _ rfl; (with_reducible repeat (first | refine blk_drewN ?_ _ | refine blk_drew ?_ | refine blk_alloc ?_ _)); refine blk_put (cs := #[.int .i64 t181, .int .i64 0, .int .i64 0, .int .i64 0, .int .i64 0, .slice none 0 0, .bool false, .int .i64 0, .slice none 0 0]) ?_ 0 _ rfl; (with_reducible repeat (first | refine blk_drewN ?_ _ | refine blk_drew ?_ | refine blk_alloc ?_ _)); refine blk_put (cs := #[.int .i64 0, .int .i64 0, .int .i64 0, .int .i64 0, .int .i64 0, .slice none 0 0, .bool false, .int .i64 0, .slice none 0 0]) ?_ 0 _ rfl; (with_reducible repeat (first | refine blk_drewN ?_ _ | refine blk_drew ?_ | refine blk_alloc ?_ _)); exact BK165.out) Try.underlying87 rfl (by kernel_rfl)) rfl ?_
            exact ⟨_, _, by first | rfl | (simp [errW_none, errW_some] <;> rfl) | (simp [*, errW_none, errW_some] <;> rfl), by first | exact Kd.R_nil _ _ _ _ _ | exact Kd.N_nil _ _ _ _ _ | exact Kd.V_nil _ _ _ _ _ | exact Kd.Q_nil _ _ _ _ _ | exact Kd.S_nil _ _ _ _ _, by first | exact Kd.R_nil _ _ _ _ _ | exact Kd.N_nil _ _ _ _ _ | exact Kd.V_nil _ _ _ _ _ | exact Kd.Q_nil _ _ _ _ _ | exact Kd.S_nil _ _ _ _ _, by repeat (first | (with_reducible first | exact HI0.out | apply IsS150.alloc | apply IsS150.drewN | apply IsS150.drew | apply IsS150.set_1 | apply IsS150.set_2 | refine IsS150.far ?_ NB0_165.out _) | exact HI0.out), by repeat (first | (with_reducible first | exact HB.out | apply below_alloc | apply pw_below_drewN | apply below_drew1 | refine below_set ?_ (IsS150.ge HI0.out) | refine below_set ?_ GE165.out) | exact HB.out), by repeat (first | (with_reducible first | exact HK.out | apply KeepBut.set_ | apply keep_drewN | apply keep_drew | apply keep_alloc | refine keep_far ?_ GW165.out _) | exact HK.out)⟩
        · rw [if_neg c17] at H
          have c17b0 : (t175 == 0) = false := beq_eq_false_iff_ne.mpr c17
          have c17b1 : (t175 != 0) = true := bne_iff_ne.mpr c17
          replace H := Option.bind_eq_some_iff.mp H
          obtain ⟨⟨t178, t179, t180⟩, A740, H⟩ := H
          replace H : (some (0, 0, 0, 0, 0, ([] : List Int), false, 0, ([] : List (S172)), 0, t178, t179, t180)) = some (r1, r2, r3, r4, r5, r6, r7, r8, r9, r10, r11, r12, r13) := H
          have A74 := Aside0.mk A740
          clear A740
          simp only [Option.some.injEq, Prod.mk.injEq] at H
          obtain ⟨rfl, rfl, rfl, rfl, rfl, rfl, rfl, rfl, rfl, rfl, rfl, rfl, rfl⟩ := H
          try go_wp2_with (first | ((with_reducible refine gate_callee (f := 137) rfl ?_); refine goesL_ (some 23) rfl rfl Try.func137 (by kernel_rfl) rfl #[.pointer (some ⟨g, 0, none⟩), .int .i64 6] rfl (by (try simp only [List.map_toArray, List.map_cons, List.map_nil]); first | done | rfl | (simp only [List.length_drop, List.length_take]; rfl)) ?_; (with_reducible refine (bits_Reader_Take.calls kj4 g s0_0 x1001_4 x1002_4 6 t172 t173 t174 w0 _ ?side1 ?side2 A15.out).mono ?_); (case side1 => repeat (first | (with_reducible first | exact HI0.out | apply IsS150.alloc | apply IsS150.drewN | apply IsS150.drew | apply IsS150.set_1 | apply IsS150.set_2 | refine IsS150.far ?_ NB0_165.out _) | exact HI0.out)); (case side2 => repeat (first | (with_reducible first | exact HB.out | apply below_alloc | apply pw_below_drewN | apply below_drew1 | refine below_set ?_ (IsS150.ge HI0.out) | refine below_set ?_ GE165.out) | exact HB.out)); rintro e w75 ⟨rfl, hi, hb, hk⟩; refine ⟨_, rfl, ?_⟩; have n0_ := Aside0.mk (KeepBut.blk hk (g' := gb165) (o := .cells #[.int .i64 0, .int .i64 0, .int .i64 0, .int .i64 0, .int .i64 0, .slice none 0 0, .bool false, .int .i64 0, .slice none 0 0] 87 (0, 0)) (by (with_reducible repeat (first | refine blk_drewN ?_ _ | refine blk_drew ?_ | refine blk_alloc ?_ _)); exact BK165.out) NB165_0.out (by simp)); have n1_ := Aside0.mk (KeepBut.trans (by repeat (first | (with_reducible first | exact HK.out | apply KeepBut.set_ | apply keep_drewN | apply keep_drew | apply keep_alloc | refine keep_far ?_ GW165.out _) | exact HK.out)) hk (.inl rfl)); have n2_ := Aside0.mk (hb); have n3_ := Aside0.mk (hi); clear BK165; clear HK; clear HB; clear HI0; have BK165 := n0_; have HK := n1_; have HB := n2_; have HI0 := n3_; clear n0_ n1_ n2_ n3_; (try clear hb); (try clear hb2); (try clear hk); (try clear hi)) | ((with_reducible refine gate_callee (f := 90) rfl ?_); refine goesL_ (some 26) rfl rfl Try.func90 (by kernel_rfl) rfl #[.pointer (some ⟨g, 0, none⟩)] rfl (by (try simp only [List.map_toArray, List.map_cons, List.map_nil]); first | done | rfl | (simp only [List.length_drop, List.length_take]; rfl)) ?_; (with_reducible refine (bits_Reader_Fail.calls g s0_0 t173 t174 t175 t176 t177 w0 _ ?side1 ?side2 A16.out).mono ?_); (case side1 => repeat (first | (with_reducible first | exact HI0.out | apply IsS150.alloc | apply IsS150.drewN | apply IsS150.drew | apply IsS150.set_1 | apply IsS150.set_2 | refine IsS150.far ?_ NB0_165.out _) | exact HI0.out)); (case side2 => repeat (first | (with_reducible first | exact HB.out | apply below_alloc | apply pw_below_drewN | apply below_drew1 | refine below_set ?_ (IsS150.ge HI0.out) | refine below_set ?_ GE165.out) | exact HB.out)); rintro e w76 ⟨rfl, hi, hb, hk⟩; refine ⟨_, rfl, ?_⟩; have n0_ := Aside0.mk (KeepBut.blk hk (g' := gb165) (o := .cells #[.int .i64 0, .int .i64 0, .int .i64 0, .int .i64 0, .int .i64 0, .slice none 0 0, .bool false, .int .i64 0, .slice none 0 0] 87 (0, 0)) (by (with_reducible repeat (first | refine blk_drewN ?_ _ | refine blk_drew ?_ | refine blk_alloc ?_ _)); exact BK165.out) NB165_0.out (by simp)); have n1_ := Aside0.mk (KeepBut.trans (by repeat (first | (with_reducible first | exact HK.out | apply KeepBut.set_ | apply keep_drewN | apply keep_drew | apply keep_alloc | refine keep_far ?_ GW165.out _) | exact HK.out)) hk (.inl rfl)); have n2_ := Aside0.mk (hb); have n3_ := Aside0.mk (hi); clear BK165; clear HK; clear HB; clear HI0; have BK165 := n0_; have HK := n1_; have HB := n2_; have HI0 := n3_; clear n0_ n1_ n2_ n3_; (try clear hb); (try clear hb2); (try clear hk); (try clear hi)))
          have n0_ := Aside0.mk (blk_drew BK165.out)
          have n1_ := Aside0.mk (IsS150.drew HI0.out)
          have n2_ := Aside0.mk (keep_drew HK.out)
          have n3_ := Aside0.mk (below_drew1 HB.out)
          clear BK165
          clear HI0
          clear HK
          clear HB
          have BK165 := n0_
          have HI0 := n1_
          have HK := n2_
          have HB := n3_
          clear n0_ n1_ n2_ n3_
          refine start_ (n := 6) (S := fun w' => w'.cell? ⟨gb165, 0, none⟩ = some (.int .i64 0) ∧ w'.cell? ⟨gb165, 1, none⟩ = some (.int .i64 0) ∧ w'.cell? ⟨gb165, 2, none⟩ = some (.int .i64 0) ∧ w'.cell? ⟨gb165, 3, none⟩ = some (.int .i64 0) ∧ w'.cell? ⟨gb165, 4, none⟩ = some (.int .i64 0) ∧ w'.cell? ⟨gb165, 5, none⟩ = some (.slice none 0 0) ∧ w'.cell? ⟨gb165, 6, none⟩ = some (.bool false) ∧ w'.cell? ⟨gb165, 7, none⟩ = some (.int .i64 0) ∧ w'.cell? ⟨gb165, 8, none⟩ = some (.slice none 0 0)) (ds := [3]) #[false, false, false, false, false, false] (by kernel_rfl) rfl rfl ⟨(blk_cell BK165.out 0).trans rfl, (blk_cell BK165.out 1).trans rfl, (blk_cell BK165.out 2).trans rfl, (blk_cell BK165.out 3).trans rfl, (blk_cell BK165.out 4).trans rfl, (blk_cell BK165.out 5).trans rfl, (blk_cell BK165.out 6).trans rfl, (blk_cell BK165.out 7).trans rfl, (blk_cell BK165.out 8).trans rfl⟩ (fun hHeld => ?_)
          generalize w76.drew = w77 at BK165 HI0 HK HB hHeld ⊢
          refine pure_ (i := 1) (N := some 29) (v := ?_) (a' := ?_) #[false, true, false, false, false, false] rfl rfl (by kernel_rfl) (fun _ _ _ h => h) (Or.inl ⟨by rfl, ?_⟩) ?_ ?_
          rotate_left
          · intro w'
            go_simp
            with_reducible rfl
          rotate_left
          · simp only [Act.put, List.setIfInBounds_toArray, List.set_cons_zero, List.set_cons_succ, i64_w, i32_w]
            rfl
          refine take_ (i := 0) (N := some 28) (v := ?_) (a' := ?_) #[true, true, false, false, false, false] rfl rfl (by kernel_rfl) (fun _ _ _ h => h) (Or.inl ⟨by rfl, ?_⟩) hHeld ?_ ?_
          rotate_left
          · rintro w' ⟨s0, s1, s2, s3, s4, s5, s6, s7, s8⟩
            go_simp
            with_reducible rfl
          rotate_left
          · simp only [Act.put, List.setIfInBounds_toArray, List.set_cons_zero, List.set_cons_succ, i64_w, i32_w]
            rfl
          refine one_ (i := 2) (N := some 30) #[true, true, true, false, false, false] rfl rfl (by kernel_rfl) (by decide) (fun K hK => ?_)
          refine goes_ Try.func90 (by kernel_rfl) rfl #[.pointer (some ⟨g, 0, none⟩)] (by rfl) rfl rfl (by (try simp only [List.map_toArray, List.map_cons, List.map_nil]); first | done | rfl | (simp only [List.length_drop, List.length_take]; rfl)) ?_
          with_reducible refine (bits_Reader_Fail.calls g s0_0 t176 t177 t178 t179 t180 w0 _ ?side1 ?side2 A74.out).mono ?_
          (case side1 => repeat (first | (with_reducible first | exact HI0.out | apply IsS150.alloc | apply IsS150.drewN | apply IsS150.drew | apply IsS150.set_1 | apply IsS150.set_2 | refine IsS150.far ?_ NB0_165.out _) | exact HI0.out))
          (case side2 => repeat (first | (with_reducible first | exact HB.out | apply below_alloc | apply pw_below_drewN | apply below_drew1 | refine below_set ?_ (IsS150.ge HI0.out) | refine below_set ?_ GE165.out) | exact HB.out))
          rintro e w78 ⟨rfl, hi, hb, hk⟩
          refine ⟨_, rfl, ?_⟩
          have n0_ := Aside0.mk (KeepBut.blk hk (g' := gb165) (o := .cells #[.int .i64 0, .int .i64 0, .int .i64 0, .int .i64 0, .int .i64 0, .slice none 0 0, .bool false, .int .i64 0, .slice none 0 0] 87 (0, 0)) (by (with_reducible repeat (first | refine blk_drewN ?_ _ | refine blk_drew ?_ | refine blk_alloc ?_ _)); exact BK165.out) NB165_0.out (by simp))
          have n1_ := Aside0.mk (KeepBut.trans (by repeat (first | (with_reducible first | exact HK.out | apply KeepBut.set_ | apply keep_drewN | apply keep_drew | apply keep_alloc | refine keep_far ?_ GW165.out _) | exact HK.out)) hk (.inl rfl))
          have n2_ := Aside0.mk (hb)
          have n3_ := Aside0.mk (hi)
          clear BK165
          clear HK
          clear HB
          clear HI0
          have BK165 := n0_
          have HK := n1_
          have HB := n2_
          have HI0 := n3_
          clear n0_ n1_ n2_ n3_
          (try clear hb)
          (try clear hb2)
          (try clear hk)
          (try clear hi)
          refine hK.out _ _ ⟨(blk_cell BK165.out 0).trans rfl, (blk_cell BK165.out 1).trans rfl, (blk_cell BK165.out 2).trans rfl, (blk_cell BK165.out 3).trans rfl, (blk_cell BK165.out 4).trans rfl, (blk_cell BK165.out 5).trans rfl, (blk_cell BK165.out 6).trans rfl, (blk_cell BK165.out 7).trans rfl, (blk_cell BK165.out 8).trans rfl⟩ (fun hHeld => ?_)
          clear hK K
          refine norm_ (a' := ?_) ?_ ?_
          rotate_left
          · show Act.put _ (some 30) _ = _
            simp only [Act.put, List.setIfInBounds_toArray, List.set_cons_zero, List.set_cons_succ, i64_w, i32_w]
            rfl
          refine last_ (i := 3) (N := none) #[true, true, true, true, false, false] rfl rfl (by kernel_rfl) (by decide) (fun K hK => ?_)
          have hs79 : w78.cell? ⟨gb165, 0, none⟩ = some (.int .i64 0) := (blk_cell BK165.out 0).trans rfl
          have hfs79 := blk_frozen BK165.out 0
          have hs80 : w78.cell? ⟨gb165, 1, none⟩ = some (.int .i64 0) := (blk_cell BK165.out 1).trans rfl
          have hfs80 := blk_frozen BK165.out 1
          have hs81 : w78.cell? ⟨gb165, 2, none⟩ = some (.int .i64 0) := (blk_cell BK165.out 2).trans rfl
          have hfs81 := blk_frozen BK165.out 2
          have hs82 : w78.cell? ⟨gb165, 3, none⟩ = some (.int .i64 0) := (blk_cell BK165.out 3).trans rfl
          have hfs82 := blk_frozen BK165.out 3
          have hs83 : w78.cell? ⟨gb165, 4, none⟩ = some (.int .i64 0) := (blk_cell BK165.out 4).trans rfl
          have hfs83 := blk_frozen BK165.out 4
          have hs84 : w78.cell? ⟨gb165, 5, none⟩ = some (.slice none 0 0) := (blk_cell BK165.out 5).trans rfl
          have hfs84 := blk_frozen BK165.out 5
          have hs85 : w78.cell? ⟨gb165, 6, none⟩ = some (.bool false) := (blk_cell BK165.out 6).trans rfl
          have hfs85 := blk_frozen BK165.out 6
          have hs86 : w78.cell? ⟨gb165, 7, none⟩ = some (.int .i64 0) := (blk_cell BK165.out 7).trans rfl
          have hfs86 := blk_frozen BK165.out 7
          have hs87 : w78.cell? ⟨gb165, 8, none⟩ = some (.slice none 0 0) := (blk_cell BK165.out 8).trans rfl
          have hfs87 := blk_frozen BK165.out 8
          refine skip_ (w1 := ?_) (by rfl) rfl ?_ ?_
          rotate_left
          · go_simp
            rfl
          refine hK.out _ _ ?_
          clear hK K
          refine pure_ (i := 4) (N := some 7) (v := ?_) (a' := ?_) #[true, true, true, true, true, false] rfl rfl (by kernel_rfl) (fun _ _ _ h => h) (Or.inl ⟨by rfl, ?_⟩) ?_ ?_
          rotate_left
          · intro w'
            go_simp
            with_reducible rfl
          rotate_left
          · simp only [Act.put, List.setIfInBounds_toArray, List.set_cons_zero, List.set_cons_succ, i64_w, i32_w]
            rfl
          refine pure_ (i := 5) (N := some 8) (v := ?_) (a' := ?_) #[true, true, true, true, true, true] rfl rfl (by kernel_rfl) (fun _ _ _ h => h) (Or.inl ⟨by rfl, ?_⟩) ?_ ?_
          rotate_left
          · intro w'
            go_simp
            with_reducible rfl
          rotate_left
          · simp only [Act.put, List.setIfInBounds_toArray, List.set_cons_zero, List.set_cons_succ, i64_w, i32_w]
            rfl
          refine done_ (by kernel_rfl) ?_
          try go_wp2
          refine bodyPost_ret (results_ctt rfl _ _ gb165 87 #[.int .i64 0, .int .i64 0, .int .i64 0, .int .i64 0, .int .i64 0, .slice none 0 0, .bool false, .int .i64 0, .slice none 0 0] (0, 0) _ rfl (by (with_reducible repeat (first | refine blk_drewN ?_ _ | refine blk_drew ?_ | refine blk_alloc ?_ _)); refine blk_put (cs := #[.int .i64 0, .int .i64 0, .int .i64 0, .int .i64 0, .int .i64 0, .slice none 0 0, .bool false, .int .i64 0, .slice none 0 0]) ?_ 8 _ rfl; (with_reducible repeat (first | refine blk_drewN ?_ _ | refine blk_drew ?_ | refine blk_alloc ?_ _)); refine blk_put (cs := #[.int .i64 0, .int .i64 0, .int .i64 0, .int .i64 0, .int .i64 0, .slice none 0 0, .bool false, .int .i64 0, .slice none 0 0]) ?_ 7 _ rfl; (with_reducible repeat (first | refine blk_drewN ?_ _ | refine blk_drew ?_ | refine blk_alloc ?_ _)); refine blk_put (cs := #[.int .i64 0, .int .i64 0, .int .i64 0, .int .i64 0, .int .i64 0, .slice none 0 0, .bool false, .int .i64 0, .slice none 0 0]) ?_ 6 _ rfl; (with_reducible repeat (first | refine blk_drewN ?_ _ | refine blk_drew ?_ | refine blk_alloc ?_ _)); refine blk_put (cs := #[.int .i64 0, .int .i64 0, .int .i64 0, .int .i64 0, .int .i64 0, .slice none 0 0, .bool false, .int .i64 0, .slice none 0 0]) ?_ 5 _ rfl; (with_reducible repeat (first | refine blk_drewN ?_ _ | refine blk_drew ?_ | refine blk_alloc ?_ _)); refine blk_put (cs := #[.int .i64 0, .int .i64 0, .int .i64 0, .int .i64 0, .int .i64 0, .slice none 0 0, .bool false, .int .i64 0, .slice none 0 0]) ?_ 4 _ rfl; (with_reducible repeat (first | refine blk_drewN ?_ _ | refine blk_drew ?_ | refine blk_alloc ?_ _)); refine blk_put (cs := #[.int .i64 0, .int .i64 0, .int .i64 0, .int .i64 0, .int .i64 0, .slice none 0 0, .bool false, .int .i64 0, .slice none 0 0]) ?_ 3 _ rfl; (with_reducible repeat (first | refine blk_drewN ?_ _ | refine blk_drew ?_ | refine blk_alloc ?_ _)); refine blk_put (cs := #[.int .i64 0, .int .i64 0, .int .i64 0, .int .i64 0, .int .i64 0, .slice none 0 0, .bool false, .int .i64 0, .slice none 0 0]) ?_ 2 _ rfl; (with_reducible repeat (first | refine blk_drewN ?_ _ | refine blk_drew ?_ | refine blk_alloc ?_ _)); refine blk_put (cs := #[.int .i64 0, .int .i64 0, .int .i64 0, .int .i64 0, .int .i64 0, .slice none 0 0, .bool false, .int .i64 0, .slice none 0 0]) ?_ 1 _ rfl; (with_reducible repeat (first | refine blk_drewN ?_ _ | refine blk_drew ?_ | refine blk_alloc ?_ _)); refine blk_put (cs := #[.int .i64 0, .int .i64 0, .int .i64 0, .int .i64 0, .int .i64 0, .slice none 0 0, .bool false, .int .i64 0, .slice none 0 0]) ?_ 0 _ rfl; (with_reducible repeat (first | refine blk_drewN ?_ _ | refine blk_drew ?_ | refine blk_alloc ?_ _)); exact BK165.out) Try.underlying87 rfl (by kernel_rfl)) rfl ?_
          exact ⟨_, _, by first | rfl | (simp [errW_none, errW_some] <;> rfl) | (simp [*, errW_none, errW_some] <;> rfl), by first | exact Kd.R_nil _ _ _ _ _ | exact Kd.N_nil _ _ _ _ _ | exact Kd.V_nil _ _ _ _ _ | exact Kd.Q_nil _ _ _ _ _ | exact Kd.S_nil _ _ _ _ _, by first | exact Kd.R_nil _ _ _ _ _ | exact Kd.N_nil _ _ _ _ _ | exact Kd.V_nil _ _ _ _ _ | exact Kd.Q_nil _ _ _ _ _ | exact Kd.S_nil _ _ _ _ _, by repeat (first | (with_reducible first | exact HI0.out | apply IsS150.alloc | apply IsS150.drewN | apply IsS150.drew | apply IsS150.set_1 | apply IsS150.set_2 | refine IsS150.far ?_ NB0_165.out _) | exact HI0.out), by repeat (first | (with_reducible first | exact HB.out | apply below_alloc | apply pw_below_drewN | apply below_drew1 | refine below_set ?_ (IsS150.ge HI0.out) | refine below_set ?_ GE165.out) | exact HB.out), by repeat (first | (with_reducible first | exact HK.out | apply KeepBut.set_ | apply keep_drewN | apply keep_drew | apply keep_alloc | refine keep_far ?_ GW165.out _) | exact HK.out)⟩

/-! ### subframe_signed: function 139 -/
def subframe_signed.f (k : Nat) (s0_0 : List Int) (s0_1 : Int) (s0_2 : Int) (a1 : Int) : Option (Int × Int × Int) := (bits_Reader_Take.f k s0_0 s0_1 s0_2 a1).bind fun bt202 => (if 0 ≤ (wrap64 (64 - a1)) then (some (shr .i64 (shl .i64 (wrap64 (bt202.1)) (wrap64 (64 - a1))) (wrap64 (64 - a1)), bt202.2.1, bt202.2.2)) else (none))
theorem subframe_signed.mono : ∀ a0 a1 a2 a3 k, LeO (subframe_signed.f k a0 a1 a2 a3) (subframe_signed.f (k + 1) a0 a1 a2 a3) := by
  intro a0 a1 a2 a3 k
  unfold subframe_signed.f
  repeat' first
      | (with_reducible exact bits_Reader_Take.mono _ _ _ _ _)
      | (with_reducible exact LeO.refl _)
      | (with_reducible exact LeO.none _)
      | (with_reducible refine LeO.ite ?_ ?_)
      | (with_reducible refine LeO.bind ?_ (fun _ => ?_))
      | exact bits_Reader_Take.mono _ _ _ _ _
      | exact LeO.none _
      | refine LeO.ite ?_ ?_
      | refine LeO.bind ?_ (fun _ => ?_)
set_option maxHeartbeats 8000000 in
set_option maxRecDepth 100000 in
theorem subframe_signed.calls (k : Nat) (g : Nat) (s0_0 : List Int) (s0_1 : Int) (s0_2 : Int) (a1 : Int) (r1 : Int) (r2 : Int) (r3 : Int) (w0 w : World) (hI : IsS150 w0 w g s0_0 s0_1 s0_2) (hB : Below w0.heap.size w0 w) (h : subframe_signed.f k s0_0 s0_1 s0_2 a1 = some (r1, r2, r3)) :
    Calls Try.prog 139 #[.pointer (some ⟨g, 0, none⟩), .int .i64 a1] w fun e w' => e = .returned (.int .i64 r1) ∧ IsS150 w0 w' g s0_0 r2 r3 ∧ Below w0.heap.size w0 w' ∧ KeepBut w w' g none := by
  have HI0 := Aside0.mk hI
  have HK := Aside0.mk (KeepBut.refl w g none)
  have HL := Aside0.mk hB.size
  clear hI
  have HW0 := Aside0.mk hB.size
  have HB := Aside0.mk hB
  clear hB
  have H : ((bits_Reader_Take.f k s0_0 s0_1 s0_2 a1).bind fun bt202 => (if 0 ≤ (wrap64 (64 - a1)) then (some (shr .i64 (shl .i64 (wrap64 (bt202.1)) (wrap64 (64 - a1))) (wrap64 (64 - a1)), bt202.2.1, bt202.2.2)) else (none))) = some (r1, r2, r3) := h
  clear h
  replace H := Option.bind_eq_some_iff.mp H
  obtain ⟨⟨t202, t203, t204⟩, A30, H⟩ := H
  replace H : (if 0 ≤ (wrap64 (64 - a1)) then (some (shr .i64 (shl .i64 (wrap64 (t202)) (wrap64 (64 - a1))) (wrap64 (64 - a1)), t203, t204)) else (none)) = some (r1, r2, r3) := H
  have A3 := Aside0.mk A30
  clear A30
  obtain ⟨ji4, hji4⟩ : ∃ j_ : Int, (wrap64 (64 - a1)) = j_ := ⟨_, rfl⟩
  replace H : (if 0 ≤ (ji4) then (some (shr .i64 (shl .i64 (wrap64 (t202)) (ji4)) (ji4), t203, t204)) else (none)) = some (r1, r2, r3) := by first | (rw [hji4] at H; exact H) | (simp only [hji4] at H ⊢; exact H)
  (try rw [hji4] at A3)
  have hji4w : (IntKind.i64.wrap (64 - a1)) = ji4 := (i64_w _).trans hji4
  by_cases c5 : 0 ≤ (ji4)
  · rw [if_pos c5] at H
    have c5b0 := eq_true c5
    have c5b1 : decide (0 ≤ (ji4)) = true := decide_eq_true c5
    clear c5
    obtain ⟨ji6, hji6⟩ : ∃ j_ : Int, (shl .i64 (wrap64 (t202)) (ji4)) = j_ := ⟨_, rfl⟩
    replace H : (some (shr .i64 (ji6) (ji4), t203, t204)) = some (r1, r2, r3) := by first | (rw [hji6] at H; exact H) | (simp only [hji6] at H ⊢; exact H)
    (try rw [hji6] at A3)
    have hji6_ : (IntKind.i64.wrap ((wrap64 (t202)) * 2 ^ min (ji4).toNat 64)) = ji6 := hji6
    have hji6z : (ji4) ≤ 64 → (IntKind.i64.wrap ((wrap64 (t202)) * 2 ^ (ji4).toNat)) = ji6 := shl_small hji6
    have hji6y : (wrap64 ((wrap64 (t202)) * 2 ^ min (ji4).toNat 64)) = ji6 := (i64_w _).symm.trans hji6_
    have hji6x : (ji4) ≤ 64 → (wrap64 ((wrap64 (t202)) * 2 ^ (ji4).toNat)) = ji6 := fun h_ => (i64_w _).symm.trans (hji6z h_)
    have c7b0 := eq_true (of_decide_eq_true (by first | (with_reducible assumption) | assumption) : 0 ≤ (ji4))
    obtain ⟨ji8, hji8⟩ : ∃ j_ : Int, (shr .i64 (ji6) (ji4)) = j_ := ⟨_, rfl⟩
    replace H : (some (ji8, t203, t204)) = some (r1, r2, r3) := by first | (rw [hji8] at H; exact H) | (simp only [hji8] at H ⊢; exact H)
    (try rw [hji8] at A3)
    have hji8_ : ((ji6) / 2 ^ min (ji4).toNat 64) = ji8 := hji8
    have hji8z : (ji4) ≤ 64 → ((ji6) / 2 ^ (ji4).toNat) = ji8 := shr_small hji8
    simp only [Option.some.injEq, Prod.mk.injEq] at H
    obtain ⟨rfl, rfl, rfl⟩ := H
    go_enter Try.func139, Try.ntmps139
    go_wp2_with (first | ((with_reducible refine gate_callee (f := 137) rfl ?_); refine goesL_ (some 7) rfl rfl Try.func137 (by kernel_rfl) rfl #[.pointer (some ⟨g, 0, none⟩), .int .i64 a1] rfl (by (try simp only [List.map_toArray, List.map_cons, List.map_nil]); first | done | rfl | (simp only [List.length_drop, List.length_take]; rfl)) ?_; (with_reducible refine (bits_Reader_Take.calls k g s0_0 s0_1 s0_2 a1 t202 t203 t204 w0 _ ?side1 ?side2 A3.out).mono ?_); (case side1 => repeat (first | (with_reducible first | exact HI0.out | apply IsS150.alloc | apply IsS150.drewN | apply IsS150.drew | apply IsS150.set_1 | apply IsS150.set_2) | exact HI0.out)); (case side2 => repeat (first | (with_reducible first | exact HB.out | apply below_alloc | apply pw_below_drewN | apply below_drew1 | refine below_set ?_ (IsS150.ge HI0.out)) | exact HB.out)); rintro e w9 ⟨rfl, hi, hb, hk⟩; refine ⟨_, rfl, ?_⟩; have n0_ := Aside0.mk (KeepBut.trans (by repeat (first | (with_reducible first | exact HK.out | apply KeepBut.set_ | apply keep_drewN | apply keep_drew | apply keep_alloc) | exact HK.out)) hk (.inl rfl)); have n1_ := Aside0.mk (hb); have n2_ := Aside0.mk (hi); clear HK; clear HB; clear HI0; have HK := n0_; have HB := n1_; have HI0 := n2_; clear n0_ n1_ n2_; (try clear hb); (try clear hb2); (try clear hk); (try clear hi)))
    go_ret
    exact ⟨by first | rfl | (simp [errW_none, errW_some] <;> rfl) | (simp only [← hji4, ← hji6, ← hji8]; first | rfl | (simp [errW_none, errW_some] <;> rfl)) | (simp [*, errW_none, errW_some] <;> rfl), by repeat (first | (with_reducible first | exact HI0.out | apply IsS150.alloc | apply IsS150.drewN | apply IsS150.drew | apply IsS150.set_1 | apply IsS150.set_2) | exact HI0.out), by repeat (first | (with_reducible first | exact HB.out | apply below_alloc | apply pw_below_drewN | apply below_drew1 | refine below_set ?_ (IsS150.ge HI0.out)) | exact HB.out), by repeat (first | (with_reducible first | exact HK.out | apply KeepBut.set_ | apply keep_drewN | apply keep_drew | apply keep_alloc) | exact HK.out)⟩
  · rw [if_neg c5] at H
    exact absurd H (by simp)


/-! ### subframe_numbers: function 89 -/
def subframe_numbers.l0 : Nat → Int → List Int → Int → Int → List Int → Int → Int → Option (List Int × Int × Int)
  | 0, _, _, _, _, _, _, _ => none
  | k + 1, x2, x7, x9, x10, x1000, x1001, x1002 => if x10 < x9 then ((subframe_signed.f k x1000 x1001 x1002 x2).bind fun bt205 => ((bits_Reader_Fail.f x1000 bt205.2.1 bt205.2.2).bind fun bt208 => (if bt208.1 = 0 then (if x7.length < 17592186044416 then (subframe_numbers.l0 k x2 (x7 ++ [bt205.1]) x9 (wrap64 (x10 + 1)) x1000 bt208.2.1 bt208.2.2) else (none)) else (some (([] : List Int), bt208.2.1, bt208.2.2))))) else (some (x7, x1001, x1002))
def subframe_numbers.f (k : Nat) (s0_0 : List Int) (s0_1 : Int) (s0_2 : Int) (a1 : Int) (a2 : Int) : Option (List Int × Int × Int) := subframe_numbers.l0 k a2 ([] : List Int) a1 0 s0_0 s0_1 s0_2
theorem subframe_numbers.mono_l : ∀ k, (∀ y0 y1 y2 y3 y4 y5 y6, LeO (subframe_numbers.l0 k y0 y1 y2 y3 y4 y5 y6) (subframe_numbers.l0 (k + 1) y0 y1 y2 y3 y4 y5 y6))
  | 0 => fun _ _ _ _ _ _ _ r h => by simp [subframe_numbers.l0] at h
  | k + 1 => by
    have ih0 := subframe_numbers.mono_l k
    · intro y0 y1 y2 y3 y4 y5 y6
      unfold subframe_numbers.l0
      repeat' first
      | (with_reducible exact ih0 _ _ _ _ _ _ _)
      | (with_reducible exact subframe_signed.mono _ _ _ _ _)
      | (with_reducible exact LeO.refl _)
      | (with_reducible exact LeO.none _)
      | (with_reducible refine LeO.ite ?_ ?_)
      | (with_reducible refine LeO.bind ?_ (fun _ => ?_))
      | exact ih0 _ _ _ _ _ _ _
      | exact subframe_signed.mono _ _ _ _ _
      | exact LeO.none _
      | refine LeO.ite ?_ ?_
      | refine LeO.bind ?_ (fun _ => ?_)
theorem subframe_numbers.mono : ∀ a0 a1 a2 a3 a4 k, LeO (subframe_numbers.f k a0 a1 a2 a3 a4) (subframe_numbers.f (k + 1) a0 a1 a2 a3 a4) := by
  intro a0 a1 a2 a3 a4 k
  have ih0 := subframe_numbers.mono_l k
  unfold subframe_numbers.f
  repeat' first
      | (with_reducible exact ih0 _ _ _ _ _ _ _)
      | (with_reducible exact subframe_signed.mono _ _ _ _ _)
      | (with_reducible exact LeO.refl _)
      | (with_reducible exact LeO.none _)
      | (with_reducible refine LeO.ite ?_ ?_)
      | (with_reducible refine LeO.bind ?_ (fun _ => ?_))
      | exact ih0 _ _ _ _ _ _ _
      | exact subframe_signed.mono _ _ _ _ _
      | exact LeO.none _
      | refine LeO.ite ?_ ?_
      | refine LeO.bind ?_ (fun _ => ?_)
set_option maxHeartbeats 8000000 in
set_option maxRecDepth 100000 in
theorem subframe_numbers.calls (k : Nat) (g : Nat) (s0_0 : List Int) (s0_1 : Int) (s0_2 : Int) (a1 : Int) (a2 : Int) (r1 : List Int) (r2 : Int) (r3 : Int) (w0 w : World) (hI : IsS150 w0 w g s0_0 s0_1 s0_2) (hB : Below w0.heap.size w0 w) (h : subframe_numbers.f k s0_0 s0_1 s0_2 a1 a2 = some (r1, r2, r3)) :
    Calls Try.prog 89 #[.pointer (some ⟨g, 0, none⟩), .int .i64 a1, .int .i64 a2] w fun e w' => ∃ v0_ : Value, e = .returned (v0_) ∧ Kd.R (Kd.int .i64) 3 w' w.heap.size (fun _ => True) v0_ r1 ∧ IsS150 w0 w' g s0_0 r2 r3 ∧ Below w0.heap.size w0 w' ∧ KeepBut w w' g none := by
  have HI0 := Aside0.mk hI
  have HK := Aside0.mk (KeepBut.refl w g none)
  have HL := Aside0.mk hB.size
  clear hI
  have HW0 := Aside0.mk hB.size
  have HB := Aside0.mk hB
  clear hB
  have H : (subframe_numbers.l0 k a2 ([] : List Int) a1 0 s0_0 s0_1 s0_2) = some (r1, r2, r3) := h
  clear h
  have H' := Aside0.mk H
  clear H
  go_enter Try.func89, Try.ntmps89
  go_wp2
  go_loopg [7, 10] k (fun kq v7 v10 w' => ∃ (x7_1 : List Int) (x10_1 : Int) (x1001_1 : Int) (x1002_1 : Int), v10 = .int .i64 x10_1 ∧ Aside0 (subframe_numbers.l0 kq a2 x7_1 a1 x10_1 s0_0 x1001_1 x1002_1 = some (r1, r2, r3)) ∧ Aside0 (kq ≤ k) ∧ Aside0 (Kd.R (Kd.int .i64) 3 w' w.heap.size (fun _ => True) v7 x7_1) ∧ Aside0 (IsS150 w0 w' g s0_0 x1001_1 x1002_1) ∧ Aside0 (KeepBut w w' g none) ∧ Aside0 (Below w0.heap.size w0 w'))
  case atStart => exact ⟨(([] : List Int)), (0), (s0_1), (s0_2), (by first | rfl | (simp; done) | (simp [*]; done)), H', ⟨Nat.le_refl _⟩, ⟨by first | exact Kd.R_nil _ _ _ _ _ | exact Kd.N_nil _ _ _ _ _ | exact Kd.V_nil _ _ _ _ _ | exact Kd.Q_nil _ _ _ _ _ | exact Kd.S_nil _ _ _ _ _⟩, ⟨by repeat (first | (with_reducible first | exact HI0.out | apply IsS150.alloc | apply IsS150.drewN | apply IsS150.drew | apply IsS150.set_1 | apply IsS150.set_2) | exact HI0.out)⟩, ⟨by repeat (first | (with_reducible first | exact HK.out | apply KeepBut.set_ | apply keep_drewN | apply keep_drew | apply keep_alloc) | exact HK.out)⟩, ⟨by repeat (first | (with_reducible first | exact HB.out | apply below_alloc | apply pw_below_drewN | apply below_drew1 | refine below_set ?_ (IsS150.ge HI0.out)) | exact HB.out)⟩⟩
  case round =>
    clear H'
    try clear p2
    obtain ⟨x7_1, x10_1, x1001_1, x1002_1, rfl, HA, HK1, HO_7, HI0, HK, HB⟩ := hrel
    cases gk with
    | zero => exact absurd HA.out (by simp [subframe_numbers.l0])
    | succ k1 =>
      have H := HA.out
      clear HA
      simp only [subframe_numbers.l0] at H
      by_cases c4 : x10_1 < a1
      · rw [if_pos c4] at H
        have c4b0 : decide (x10_1 < a1) = true := decide_eq_true c4
        clear c4
        replace H := Option.bind_eq_some_iff.mp H
        obtain ⟨⟨t205, t206, t207⟩, A50, H⟩ := H
        replace H : ((bits_Reader_Fail.f s0_0 t206 t207).bind fun bt208 => (if bt208.1 = 0 then (if x7_1.length < 17592186044416 then (subframe_numbers.l0 k1 a2 (x7_1 ++ [t205]) a1 (wrap64 (x10_1 + 1)) s0_0 bt208.2.1 bt208.2.2) else (none)) else (some (([] : List Int), bt208.2.1, bt208.2.2)))) = some (r1, r2, r3) := H
        have A5 := Aside0.mk A50
        clear A50
        replace H := Option.bind_eq_some_iff.mp H
        obtain ⟨⟨t208, t209, t210⟩, A60, H⟩ := H
        replace H : (if t208 = 0 then (if x7_1.length < 17592186044416 then (subframe_numbers.l0 k1 a2 (x7_1 ++ [t205]) a1 (wrap64 (x10_1 + 1)) s0_0 t209 t210) else (none)) else (some (([] : List Int), t209, t210))) = some (r1, r2, r3) := H
        have A6 := Aside0.mk A60
        clear A60
        by_cases c7 : t208 = 0
        · rw [if_pos c7] at H
          have c7b0 : (t208 == 0) = true := beq_iff_eq.mpr c7
          have c7b1 : (t208 != 0) = false := bne_eq_false_iff_eq.mpr c7
          clear c7
          by_cases c8 : x7_1.length < 17592186044416
          · rw [if_pos c8] at H
            have LMc8 := Aside0.mk c8
            clear c8
            obtain ⟨y211, hy211⟩ : ∃ y_ : List Int, y_ = (x7_1 ++ [t205]) := ⟨_, rfl⟩
            replace H : (subframe_numbers.l0 k1 a2 y211 a1 (wrap64 (x10_1 + 1)) s0_0 t209 t210) = some (r1, r2, r3) := by first | (rw [hy211]; with_reducible exact H) | (have H2_ := (Option.bind_some _ _).symm.trans H; rw [hy211]; with_reducible exact H2_) | (have H2_ := (Option.bind_some _ _).symm.trans H; with_reducible exact H2_) | with_reducible exact H | (rw [hy211]; exact H) | exact H
            have Ny211 := Aside0.mk hy211
            clear hy211
            have H' := Aside0.mk H
            clear H
            go_wp2_with (first | ((with_reducible refine gate_callee (f := 139) rfl ?_); refine goesL_ (some 14) rfl rfl Try.func139 (by kernel_rfl) rfl #[.pointer (some ⟨g, 0, none⟩), .int .i64 a2] rfl (by (try simp only [List.map_toArray, List.map_cons, List.map_nil]); first | done | rfl | (simp only [List.length_drop, List.length_take]; rfl)) ?_; (with_reducible refine (subframe_signed.calls k1 g s0_0 x1001_1 x1002_1 a2 t205 t206 t207 w0 _ ?side1 ?side2 A5.out).mono ?_); (case side1 => repeat (first | (with_reducible first | exact HI0.out | apply IsS150.alloc | apply IsS150.drewN | apply IsS150.drew | apply IsS150.set_1 | apply IsS150.set_2) | exact HI0.out)); (case side2 => repeat (first | (with_reducible first | exact HB.out | apply below_alloc | apply pw_below_drewN | apply below_drew1 | refine below_set ?_ (IsS150.ge HI0.out)) | exact HB.out)); rintro e w9 ⟨rfl, hi, hb, hk⟩; refine ⟨_, rfl, ?_⟩; have n0_ := Aside0.mk (Kd.R_mono (Kd.R_keep (IsS150.apart (show IsS150 w0 _ g s0_0 x1001_1 x1002_1 from by repeat (first | (with_reducible first | exact HI0.out | apply IsS150.alloc | apply IsS150.drewN | apply IsS150.drew | apply IsS150.set_1 | apply IsS150.set_2) | exact HI0.out)) (by (with_reducible repeat (first | apply Kd.R_alloc | apply Kd.R_drewN | apply Kd.R_drew)); exact HO_7.out) (by decide)) hk (fun _ h => h.2)) (fun _ h => h.1)); have n1_ := Aside0.mk (KeepBut.trans (by repeat (first | (with_reducible first | exact HK.out | apply KeepBut.set_ | apply keep_drewN | apply keep_drew | apply keep_alloc) | exact HK.out)) hk (.inl rfl)); have n2_ := Aside0.mk (hb); have n3_ := Aside0.mk (hi); clear HO_7; clear HK; clear HB; clear HI0; have HO_7 := n0_; have HK := n1_; have HB := n2_; have HI0 := n3_; clear n0_ n1_ n2_ n3_; (try clear hb); (try clear hb2); (try clear hk); (try clear hi)) | ((with_reducible refine gate_callee (f := 90) rfl ?_); refine goesL_ (some 16) rfl rfl Try.func90 (by kernel_rfl) rfl #[.pointer (some ⟨g, 0, none⟩)] rfl (by (try simp only [List.map_toArray, List.map_cons, List.map_nil]); first | done | rfl | (simp only [List.length_drop, List.length_take]; rfl)) ?_; (with_reducible refine (bits_Reader_Fail.calls g s0_0 t206 t207 t208 t209 t210 w0 _ ?side1 ?side2 A6.out).mono ?_); (case side1 => repeat (first | (with_reducible first | exact HI0.out | apply IsS150.alloc | apply IsS150.drewN | apply IsS150.drew | apply IsS150.set_1 | apply IsS150.set_2) | exact HI0.out)); (case side2 => repeat (first | (with_reducible first | exact HB.out | apply below_alloc | apply pw_below_drewN | apply below_drew1 | refine below_set ?_ (IsS150.ge HI0.out)) | exact HB.out)); rintro e w10 ⟨rfl, hi, hb, hk⟩; refine ⟨_, rfl, ?_⟩; have n0_ := Aside0.mk (Kd.R_mono (Kd.R_keep (IsS150.apart (show IsS150 w0 _ g s0_0 t206 t207 from by repeat (first | (with_reducible first | exact HI0.out | apply IsS150.alloc | apply IsS150.drewN | apply IsS150.drew | apply IsS150.set_1 | apply IsS150.set_2) | exact HI0.out)) (by (with_reducible repeat (first | apply Kd.R_alloc | apply Kd.R_drewN | apply Kd.R_drew)); exact HO_7.out) (by decide)) hk (fun _ h => h.2)) (fun _ h => h.1)); have n1_ := Aside0.mk (KeepBut.trans (by repeat (first | (with_reducible first | exact HK.out | apply KeepBut.set_ | apply keep_drewN | apply keep_drew | apply keep_alloc) | exact HK.out)) hk (.inl rfl)); have n2_ := Aside0.mk (hb); have n3_ := Aside0.mk (hi); clear HO_7; clear HK; clear HB; clear HI0; have HO_7 := n0_; have HK := n1_; have HB := n2_; have HI0 := n3_; clear n0_ n1_ n2_ n3_; (try clear hb); (try clear hb2); (try clear hk); (try clear hi)) | ((with_reducible refine gate_builtin (b := .append) (xs := #[.tmp 18, .tmp 20]) rfl ?_); at_builtin; refine Kd.R_append (Kd.int .i64) w.heap.size rfl (.tmp 18) (.tmp 20) 78 3 (.int .i64 0) 8 rfl Try.underlying78 info3 rfl (by decide) (by omega) u7 x7_1 t205 [.int .i64 t205] (fun _ => True) (fun _ => False) rfl rfl ?aP (fun _ hk => hk.elim) ?aF ?aO (Below.refl _ _) ?aS ?aL ?_; (case aP => exact rfl); (case aF => exact (fun _ _ => trivial)); (case aO => exact (by (with_reducible repeat (first | apply Kd.R_alloc | apply Kd.R_drewN | apply Kd.R_drew)); exact HO_7.out)); (case aS => exact (keep_size (w := w) (g := g) (row := none) (by repeat (first | (with_reducible first | exact HK.out | apply KeepBut.set_ | apply keep_drewN | apply keep_drew | apply keep_alloc) | exact HK.out)))); (case aL => have := LMc8.out; omega); intro v212 w11 ho hb hg hat; rw [← Ny211.out] at ho; have n0_ := Aside0.mk (IsS150.grown (by repeat (first | (with_reducible first | exact HI0.out | apply IsS150.alloc | apply IsS150.drewN | apply IsS150.drew | apply IsS150.set_1 | apply IsS150.set_2) | exact HI0.out)) hg (IsS150.own_ne HI0.out HO_7.out (by decide))); have n1_ := Aside0.mk (below_weaken (by repeat (first | (with_reducible first | exact HB.out | apply below_alloc | apply pw_below_drewN | apply below_drew1 | refine below_set ?_ (IsS150.ge HI0.out)) | exact HB.out)) HL.out hb); have n2_ := Aside0.mk (KeepBut.trans (by repeat (first | (with_reducible first | exact HK.out | apply KeepBut.set_ | apply keep_drewN | apply keep_drew | apply keep_alloc) | exact HK.out)) (KeepBut.of_grown hg g) (Kd.R_base2 HO_7.out)); have n3_ := Aside0.mk (ho); clear HI0; clear HB; clear HK; clear HO_7; have HI0 := n0_; have HB := n1_; have HK := n2_; have HO213 := n3_; clear n0_ n1_ n2_ n3_; clear ho hb hg hat))
            go_roundg k1
            case measure => have := HK1.out; omega
            case rel => exact ⟨(y211), (wrap64 (x10_1 + 1)), (t209), (t210), (by first | rfl | (simp; done) | (simp [*]; done)), H', ⟨by have := HK1.out; omega⟩, ⟨by (with_reducible repeat (first | apply Kd.R_alloc | apply Kd.R_drewN | apply Kd.R_drew)); exact HO213.out⟩, ⟨by repeat (first | (with_reducible first | exact HI0.out | apply IsS150.alloc | apply IsS150.drewN | apply IsS150.drew | apply IsS150.set_1 | apply IsS150.set_2) | exact HI0.out)⟩, ⟨by repeat (first | (with_reducible first | exact HK.out | apply KeepBut.set_ | apply keep_drewN | apply keep_drew | apply keep_alloc) | exact HK.out)⟩, ⟨by repeat (first | (with_reducible first | exact HB.out | apply below_alloc | apply pw_below_drewN | apply below_drew1 | refine below_set ?_ (IsS150.ge HI0.out)) | exact HB.out)⟩⟩
          · rw [if_neg c8] at H
            exact absurd H (by simp)
        · rw [if_neg c7] at H
          have c7b0 : (t208 == 0) = false := beq_eq_false_iff_ne.mpr c7
          have c7b1 : (t208 != 0) = true := bne_iff_ne.mpr c7
          simp only [Option.some.injEq, Prod.mk.injEq] at H
          obtain ⟨rfl, rfl, rfl⟩ := H
          go_wp2_with (first | ((with_reducible refine gate_callee (f := 139) rfl ?_); refine goesL_ (some 14) rfl rfl Try.func139 (by kernel_rfl) rfl #[.pointer (some ⟨g, 0, none⟩), .int .i64 a2] rfl (by (try simp only [List.map_toArray, List.map_cons, List.map_nil]); first | done | rfl | (simp only [List.length_drop, List.length_take]; rfl)) ?_; (with_reducible refine (subframe_signed.calls k1 g s0_0 x1001_1 x1002_1 a2 t205 t206 t207 w0 _ ?side1 ?side2 A5.out).mono ?_); (case side1 => repeat (first | (with_reducible first | exact HI0.out | apply IsS150.alloc | apply IsS150.drewN | apply IsS150.drew | apply IsS150.set_1 | apply IsS150.set_2) | exact HI0.out)); (case side2 => repeat (first | (with_reducible first | exact HB.out | apply below_alloc | apply pw_below_drewN | apply below_drew1 | refine below_set ?_ (IsS150.ge HI0.out)) | exact HB.out)); rintro e w12 ⟨rfl, hi, hb, hk⟩; refine ⟨_, rfl, ?_⟩; have n0_ := Aside0.mk (Kd.R_mono (Kd.R_keep (IsS150.apart (show IsS150 w0 _ g s0_0 x1001_1 x1002_1 from by repeat (first | (with_reducible first | exact HI0.out | apply IsS150.alloc | apply IsS150.drewN | apply IsS150.drew | apply IsS150.set_1 | apply IsS150.set_2) | exact HI0.out)) (by (with_reducible repeat (first | apply Kd.R_alloc | apply Kd.R_drewN | apply Kd.R_drew)); exact HO_7.out) (by decide)) hk (fun _ h => h.2)) (fun _ h => h.1)); have n1_ := Aside0.mk (KeepBut.trans (by repeat (first | (with_reducible first | exact HK.out | apply KeepBut.set_ | apply keep_drewN | apply keep_drew | apply keep_alloc) | exact HK.out)) hk (.inl rfl)); have n2_ := Aside0.mk (hb); have n3_ := Aside0.mk (hi); clear HO_7; clear HK; clear HB; clear HI0; have HO_7 := n0_; have HK := n1_; have HB := n2_; have HI0 := n3_; clear n0_ n1_ n2_ n3_; (try clear hb); (try clear hb2); (try clear hk); (try clear hi)) | ((with_reducible refine gate_callee (f := 90) rfl ?_); refine goesL_ (some 16) rfl rfl Try.func90 (by kernel_rfl) rfl #[.pointer (some ⟨g, 0, none⟩)] rfl (by (try simp only [List.map_toArray, List.map_cons, List.map_nil]); first | done | rfl | (simp only [List.length_drop, List.length_take]; rfl)) ?_; (with_reducible refine (bits_Reader_Fail.calls g s0_0 t206 t207 t208 t209 t210 w0 _ ?side1 ?side2 A6.out).mono ?_); (case side1 => repeat (first | (with_reducible first | exact HI0.out | apply IsS150.alloc | apply IsS150.drewN | apply IsS150.drew | apply IsS150.set_1 | apply IsS150.set_2) | exact HI0.out)); (case side2 => repeat (first | (with_reducible first | exact HB.out | apply below_alloc | apply pw_below_drewN | apply below_drew1 | refine below_set ?_ (IsS150.ge HI0.out)) | exact HB.out)); rintro e w13 ⟨rfl, hi, hb, hk⟩; refine ⟨_, rfl, ?_⟩; have n0_ := Aside0.mk (Kd.R_mono (Kd.R_keep (IsS150.apart (show IsS150 w0 _ g s0_0 t206 t207 from by repeat (first | (with_reducible first | exact HI0.out | apply IsS150.alloc | apply IsS150.drewN | apply IsS150.drew | apply IsS150.set_1 | apply IsS150.set_2) | exact HI0.out)) (by (with_reducible repeat (first | apply Kd.R_alloc | apply Kd.R_drewN | apply Kd.R_drew)); exact HO_7.out) (by decide)) hk (fun _ h => h.2)) (fun _ h => h.1)); have n1_ := Aside0.mk (KeepBut.trans (by repeat (first | (with_reducible first | exact HK.out | apply KeepBut.set_ | apply keep_drewN | apply keep_drew | apply keep_alloc) | exact HK.out)) hk (.inl rfl)); have n2_ := Aside0.mk (hb); have n3_ := Aside0.mk (hi); clear HO_7; clear HK; clear HB; clear HI0; have HO_7 := n0_; have HK := n1_; have HB := n2_; have HI0 := n3_; clear n0_ n1_ n2_ n3_; (try clear hb); (try clear hb2); (try clear hk); (try clear hi)))
          go_ret
          exact ⟨_, by first | rfl | (simp [errW_none, errW_some] <;> rfl) | (simp [*, errW_none, errW_some] <;> rfl), by first | exact Kd.R_nil _ _ _ _ _ | exact Kd.N_nil _ _ _ _ _ | exact Kd.V_nil _ _ _ _ _ | exact Kd.Q_nil _ _ _ _ _ | exact Kd.S_nil _ _ _ _ _, by repeat (first | (with_reducible first | exact HI0.out | apply IsS150.alloc | apply IsS150.drewN | apply IsS150.drew | apply IsS150.set_1 | apply IsS150.set_2) | exact HI0.out), by repeat (first | (with_reducible first | exact HB.out | apply below_alloc | apply pw_below_drewN | apply below_drew1 | refine below_set ?_ (IsS150.ge HI0.out)) | exact HB.out), by repeat (first | (with_reducible first | exact HK.out | apply KeepBut.set_ | apply keep_drewN | apply keep_drew | apply keep_alloc) | exact HK.out)⟩
      · rw [if_neg c4] at H
        have c4b0 : decide (x10_1 < a1) = false := decide_eq_false c4
        clear c4
        simp only [Option.some.injEq, Prod.mk.injEq] at H
        obtain ⟨rfl, rfl, rfl⟩ := H
        go_wp2
        go_ret
        exact ⟨_, by first | rfl | (simp [errW_none, errW_some] <;> rfl) | (simp [*, errW_none, errW_some] <;> rfl), by (with_reducible repeat (first | apply Kd.R_alloc | apply Kd.R_drewN | apply Kd.R_drew)); exact HO_7.out, by repeat (first | (with_reducible first | exact HI0.out | apply IsS150.alloc | apply IsS150.drewN | apply IsS150.drew | apply IsS150.set_1 | apply IsS150.set_2) | exact HI0.out), by repeat (first | (with_reducible first | exact HB.out | apply below_alloc | apply pw_below_drewN | apply below_drew1 | refine below_set ?_ (IsS150.ge HI0.out)) | exact HB.out), by repeat (first | (with_reducible first | exact HK.out | apply KeepBut.set_ | apply keep_drewN | apply keep_drew | apply keep_alloc) | exact HK.out)⟩


end Go.Proofs.Ytpeejdmbnlhjmaa.H
