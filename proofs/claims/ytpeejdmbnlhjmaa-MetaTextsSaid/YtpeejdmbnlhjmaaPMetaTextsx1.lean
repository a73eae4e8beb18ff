-- written by this session's program wip/reprint.sh (a turned copy of the kit's print): the session's own text
import Derived.Test.YtpeejdmbnlhjmaaPMetaTextsx0
namespace Go.Proofs.Ytpeejdmbnlhjmaa.PMetaTexts
open Go.RowKit Go.Proofs.YtpeejdmbnlhjmaaW.PrintWords Go.Proofs.YtpeejdmbnlhjmaaW.PrintLast Go.Proofs.YtpeejdmbnlhjmaaW.PrintMore Go.Proofs.Ytpeejdmbnlhjmaa.H
attribute [local go_sem] max2_int min2_int max_two min_two max_three min_three max_four min_four   -- for this text's walks alone
set_option linter.unusedVariables false
set_option linter.unusedSimpArgs false

/-! ### serinetteref18_Rune: function 67 -/
mutual
def serinetteref18_Rune.j0 : Nat → List Int → Int → Int → Int → Int → Bool → Option (Int × Int)
  | 0, _, _, _, _, _, _ => none
  | k + 1, x0, x4, x5, x6, x7, x24 => if x24 = true then (serinetteref18_Rune.j1 k x0 x4 2 (wrap64 (x4 - 192)) 128) else (serinetteref18_Rune.j1 k x0 x4 x5 x6 x7)
def serinetteref18_Rune.j1 : Nat → List Int → Int → Int → Int → Int → Option (Int × Int)
  | 0, _, _, _, _, _ => none
  | k + 1, x0, x4, x5, x6, x7 => if x4 ≥ 224 then (serinetteref18_Rune.j2 k x0 x4 x5 x6 x7 (decide (x4 ≤ 239))) else (serinetteref18_Rune.j2 k x0 x4 x5 x6 x7 false)
def serinetteref18_Rune.j2 : Nat → List Int → Int → Int → Int → Int → Bool → Option (Int × Int)
  | 0, _, _, _, _, _, _ => none
  | k + 1, x0, x4, x5, x6, x7, x32 => if x32 = true then (serinetteref18_Rune.j3 k x0 x4 3 (wrap64 (x4 - 224)) 2048) else (serinetteref18_Rune.j3 k x0 x4 x5 x6 x7)
def serinetteref18_Rune.j3 : Nat → List Int → Int → Int → Int → Int → Option (Int × Int)
  | 0, _, _, _, _, _ => none
  | k + 1, x0, x4, x5, x6, x7 => if x4 ≥ 240 then (serinetteref18_Rune.j4 k x0 x4 x5 x6 x7 (decide (x4 ≤ 244))) else (serinetteref18_Rune.j4 k x0 x4 x5 x6 x7 false)
def serinetteref18_Rune.j4 : Nat → List Int → Int → Int → Int → Int → Bool → Option (Int × Int)
  | 0, _, _, _, _, _, _ => none
  | k + 1, x0, x4, x5, x6, x7, x40 => if x40 = true then (serinetteref18_Rune.j5 k x0 4 (wrap64 (x4 - 240)) 65536) else (serinetteref18_Rune.j5 k x0 x5 x6 x7)
def serinetteref18_Rune.j5 : Nat → List Int → Int → Int → Int → Option (Int × Int)
  | 0, _, _, _, _ => none
  | k + 1, x0, x5, x6, x7 => if x5 = 0 then (serinetteref18_Rune.j6 k x0 x5 x6 x7 true) else (serinetteref18_Rune.j6 k x0 x5 x6 x7 (decide ((x0.length : Int) < x5)))
def serinetteref18_Rune.j6 : Nat → List Int → Int → Int → Int → Bool → Option (Int × Int)
  | 0, _, _, _, _, _ => none
  | k + 1, x0, x5, x6, x7, x50 => if x50 = true then (some (0, 0)) else (serinetteref18_Rune.l0 k x0 x5 x6 x7 1)
def serinetteref18_Rune.l0 : Nat → List Int → Int → Int → Int → Int → Option (Int × Int)
  | 0, _, _, _, _, _ => none
  | k + 1, x0, x5, x6, x7, x8 => if x8 < x5 then (if 0 ≤ x8 then (if x8 < (x0.length : Int) then (if (rd x0 x8) < 128 then (some (0, 0)) else (if (rd x0 x8) > 191 then (some (0, 0)) else (serinetteref18_Rune.l0 k x0 x5 (wrap64 ((wrap64 ((wrap64 (64 * x6)) + (wrap64 (rd x0 x8)))) - 128)) x7 (wrap64 (x8 + 1))))) else (none)) else (none)) else (if x6 < x7 then (some (0, 0)) else (if x6 > 1114111 then (some (0, 0)) else (if x6 ≥ 55296 then (if x6 ≤ 57343 then (some (0, 0)) else (some (x6, x5))) else (some (x6, x5)))))
end
def serinetteref18_Rune.f (k : Nat) (l0 : List Int) : Option (Int × Int) := if (l0.length : Int) = 0 then (some (0, 0)) else (if 0 < (l0.length : Int) then (if (wrap64 (rd l0 0)) < 128 then (some (wrap64 (rd l0 0), 1)) else (if (wrap64 (rd l0 0)) ≥ 194 then (serinetteref18_Rune.j0 k l0 (wrap64 (rd l0 0)) 0 0 0 (decide ((wrap64 (rd l0 0)) ≤ 223))) else (serinetteref18_Rune.j0 k l0 (wrap64 (rd l0 0)) 0 0 0 false))) else (none))
theorem serinetteref18_Rune.mono_l : ∀ k, (∀ y0 y1 y2 y3 y4 y5, LeO (serinetteref18_Rune.j0 k y0 y1 y2 y3 y4 y5) (serinetteref18_Rune.j0 (k + 1) y0 y1 y2 y3 y4 y5)) ∧ (∀ y0 y1 y2 y3 y4, LeO (serinetteref18_Rune.j1 k y0 y1 y2 y3 y4) (serinetteref18_Rune.j1 (k + 1) y0 y1 y2 y3 y4)) ∧ (∀ y0 y1 y2 y3 y4 y5, LeO (serinetteref18_Rune.j2 k y0 y1 y2 y3 y4 y5) (serinetteref18_Rune.j2 (k + 1) y0 y1 y2 y3 y4 y5)) ∧ (∀ y0 y1 y2 y3 y4, LeO (serinetteref18_Rune.j3 k y0 y1 y2 y3 y4) (serinetteref18_Rune.j3 (k + 1) y0 y1 y2 y3 y4)) ∧ (∀ y0 y1 y2 y3 y4 y5, LeO (serinetteref18_Rune.j4 k y0 y1 y2 y3 y4 y5) (serinetteref18_Rune.j4 (k + 1) y0 y1 y2 y3 y4 y5)) ∧ (∀ y0 y1 y2 y3, LeO (serinetteref18_Rune.j5 k y0 y1 y2 y3) (serinetteref18_Rune.j5 (k + 1) y0 y1 y2 y3)) ∧ (∀ y0 y1 y2 y3 y4, LeO (serinetteref18_Rune.j6 k y0 y1 y2 y3 y4) (serinetteref18_Rune.j6 (k + 1) y0 y1 y2 y3 y4)) ∧ (∀ y0 y1 y2 y3 y4, LeO (serinetteref18_Rune.l0 k y0 y1 y2 y3 y4) (serinetteref18_Rune.l0 (k + 1) y0 y1 y2 y3 y4))
  | 0 => ⟨fun _ _ _ _ _ _ r h => by simp [serinetteref18_Rune.j0] at h, fun _ _ _ _ _ r h => by simp [serinetteref18_Rune.j1] at h, fun _ _ _ _ _ _ r h => by simp [serinetteref18_Rune.j2] at h, fun _ _ _ _ _ r h => by simp [serinetteref18_Rune.j3] at h, fun _ _ _ _ _ _ r h => by simp [serinetteref18_Rune.j4] at h, fun _ _ _ _ r h => by simp [serinetteref18_Rune.j5] at h, fun _ _ _ _ _ r h => by simp [serinetteref18_Rune.j6] at h, fun _ _ _ _ _ r h => by simp [serinetteref18_Rune.l0] at h⟩
  | k + 1 => by
    obtain ⟨ih0, ih1, ih2, ih3, ih4, ih5, ih6, ih7⟩ := serinetteref18_Rune.mono_l k
    refine ⟨?_, ?_, ?_, ?_, ?_, ?_, ?_, ?_⟩
    · intro y0 y1 y2 y3 y4 y5
      unfold serinetteref18_Rune.j0
      repeat' first
      | (with_reducible exact ih0 _ _ _ _ _ _)
      | (with_reducible exact ih1 _ _ _ _ _)
      | (with_reducible exact ih2 _ _ _ _ _ _)
      | (with_reducible exact ih3 _ _ _ _ _)
      | (with_reducible exact ih4 _ _ _ _ _ _)
      | (with_reducible exact ih5 _ _ _ _)
      | (with_reducible exact ih6 _ _ _ _ _)
      | (with_reducible exact ih7 _ _ _ _ _)
      | (with_reducible exact LeO.refl _)
      | (with_reducible exact LeO.none _)
      | (with_reducible refine LeO.ite ?_ ?_)
      | (with_reducible refine LeO.bind ?_ (fun _ => ?_))
      | exact ih0 _ _ _ _ _ _
      | exact ih1 _ _ _ _ _
      | exact ih2 _ _ _ _ _ _
      | exact ih3 _ _ _ _ _
      | exact ih4 _ _ _ _ _ _
      | exact ih5 _ _ _ _
      | exact ih6 _ _ _ _ _
      | exact ih7 _ _ _ _ _
      | exact LeO.none _
      | refine LeO.ite ?_ ?_
      | refine LeO.bind ?_ (fun _ => ?_)
    · intro y0 y1 y2 y3 y4
      unfold serinetteref18_Rune.j1
      repeat' first
      | (with_reducible exact ih0 _ _ _ _ _ _)
      | (with_reducible exact ih1 _ _ _ _ _)
      | (with_reducible exact ih2 _ _ _ _ _ _)
      | (with_reducible exact ih3 _ _ _ _ _)
      | (with_reducible exact ih4 _ _ _ _ _ _)
      | (with_reducible exact ih5 _ _ _ _)
      | (with_reducible exact ih6 _ _ _ _ _)
      | (with_reducible exact ih7 _ _ _ _ _)
      | (with_reducible exact LeO.refl _)
      | (with_reducible exact LeO.none _)
      | (with_reducible refine LeO.ite ?_ ?_)
      | (with_reducible refine LeO.bind ?_ (fun _ => ?_))
      | exact ih0 _ _ _ _ _ _
      | exact ih1 _ _ _ _ _
      | exact ih2 _ _ _ _ _ _
      | exact ih3 _ _ _ _ _
      | exact ih4 _ _ _ _ _ _
      | exact ih5 _ _ _ _
      | exact ih6 _ _ _ _ _
      | exact ih7 _ _ _ _ _
      | exact LeO.none _
      | refine LeO.ite ?_ ?_
      | refine LeO.bind ?_ (fun _ => ?_)
    · intro y0 y1 y2 y3 y4 y5
      unfold serinetteref18_Rune.j2
      repeat' first
      | (with_reducible exact ih0 _ _ _ _ _ _)
      | (with_reducible exact ih1 _ _ _ _ _)
      | (with_reducible exact ih2 _ _ _ _ _ _)
      | (with_reducible exact ih3 _ _ _ _ _)
      | (with_reducible exact ih4 _ _ _ _ _ _)
      | (with_reducible exact ih5 _ _ _ _)
      | (with_reducible exact ih6 _ _ _ _ _)
      | (with_reducible exact ih7 _ _ _ _ _)
      | (with_reducible exact LeO.refl _)
      | (with_reducible exact LeO.none _)
      | (with_reducible refine LeO.ite ?_ ?_)
      | (with_reducible refine LeO.bind ?_ (fun _ => ?_))
      | exact ih0 _ _ _ _ _ _
      | exact ih1 _ _ _ _ _
      | exact ih2 _ _ _ _ _ _
      | exact ih3 _ _ _ _ _
      | exact ih4 _ _ _ _ _ _
      | exact ih5 _ _ _ _
      | exact ih6 _ _ _ _ _
      | exact ih7 _ _ _ _ _
      | exact LeO.none _
      | refine LeO.ite ?_ ?_
      | refine LeO.bind ?_ (fun _ => ?_)
    · intro y0 y1 y2 y3 y4
      unfold serinetteref18_Rune.j3
      repeat' first
      | (with_reducible exact ih0 _ _ _ _ _ _)
      | (with_reducible exact ih1 _ _ _ _ _)
      | (with_reducible exact ih2 _ _ _ _ _ _)
      | (with_reducible exact ih3 _ _ _ _ _)
      | (with_reducible exact ih4 _ _ _ _ _ _)
      | (with_reducible exact ih5 _ _ _ _)
      | (with_reducible exact ih6 _ _ _ _ _)
      | (with_reducible exact ih7 _ _ _ _ _)
      | (with_reducible exact LeO.refl _)
      | (with_reducible exact LeO.none _)
      | (with_reducible refine LeO.ite ?_ ?_)
      | (with_reducible refine LeO.bind ?_ (fun _ => ?_))
      | exact ih0 _ _ _ _ _ _
      | exact ih1 _ _ _ _ _
      | exact ih2 _ _ _ _ _ _
      | exact ih3 _ _ _ _ _
      | exact ih4 _ _ _ _ _ _
      | exact ih5 _ _ _ _
      | exact ih6 _ _ _ _ _
      | exact ih7 _ _ _ _ _
      | exact LeO.none _
      | refine LeO.ite ?_ ?_
      | refine LeO.bind ?_ (fun _ => ?_)
    · intro y0 y1 y2 y3 y4 y5
      unfold serinetteref18_Rune.j4
      repeat' first
      | (with_reducible exact ih0 _ _ _ _ _ _)
      | (with_reducible exact ih1 _ _ _ _ _)
      | (with_reducible exact ih2 _ _ _ _ _ _)
      | (with_reducible exact ih3 _ _ _ _ _)
      | (with_reducible exact ih4 _ _ _ _ _ _)
      | (with_reducible exact ih5 _ _ _ _)
      | (with_reducible exact ih6 _ _ _ _ _)
      | (with_reducible exact ih7 _ _ _ _ _)
      | (with_reducible exact LeO.refl _)
      | (with_reducible exact LeO.none _)
      | (with_reducible refine LeO.ite ?_ ?_)
      | (with_reducible refine LeO.bind ?_ (fun _ => ?_))
      | exact ih0 _ _ _ _ _ _
      | exact ih1 _ _ _ _ _
      | exact ih2 _ _ _ _ _ _
      | exact ih3 _ _ _ _ _
      | exact ih4 _ _ _ _ _ _
      | exact ih5 _ _ _ _
      | exact ih6 _ _ _ _ _
      | exact ih7 _ _ _ _ _
      | exact LeO.none _
      | refine LeO.ite ?_ ?_
      | refine LeO.bind ?_ (fun _ => ?_)
    · intro y0 y1 y2 y3
      unfold serinetteref18_Rune.j5
      repeat' first
      | (with_reducible exact ih0 _ _ _ _ _ _)
      | (with_reducible exact ih1 _ _ _ _ _)
      | (with_reducible exact ih2 _ _ _ _ _ _)
      | (with_reducible exact ih3 _ _ _ _ _)
      | (with_reducible exact ih4 _ _ _ _ _ _)
      | (with_reducible exact ih5 _ _ _ _)
      | (with_reducible exact ih6 _ _ _ _ _)
      | (with_reducible exact ih7 _ _ _ _ _)
      | (with_reducible exact LeO.refl _)
      | (with_reducible exact LeO.none _)
      | (with_reducible refine LeO.ite ?_ ?_)
      | (with_reducible refine LeO.bind ?_ (fun _ => ?_))
      | exact ih0 _ _ _ _ _ _
      | exact ih1 _ _ _ _ _
      | exact ih2 _ _ _ _ _ _
      | exact ih3 _ _ _ _ _
      | exact ih4 _ _ _ _ _ _
      | exact ih5 _ _ _ _
      | exact ih6 _ _ _ _ _
      | exact ih7 _ _ _ _ _
      | exact LeO.none _
      | refine LeO.ite ?_ ?_
      | refine LeO.bind ?_ (fun _ => ?_)
    · intro y0 y1 y2 y3 y4
      unfold serinetteref18_Rune.j6
      repeat' first
      | (with_reducible exact ih0 _ _ _ _ _ _)
      | (with_reducible exact ih1 _ _ _ _ _)
      | (with_reducible exact ih2 _ _ _ _ _ _)
      | (with_reducible exact ih3 _ _ _ _ _)
      | (with_reducible exact ih4 _ _ _ _ _ _)
      | (with_reducible exact ih5 _ _ _ _)
      | (with_reducible exact ih6 _ _ _ _ _)
      | (with_reducible exact ih7 _ _ _ _ _)
      | (with_reducible exact LeO.refl _)
      | (with_reducible exact LeO.none _)
      | (with_reducible refine LeO.ite ?_ ?_)
      | (with_reducible refine LeO.bind ?_ (fun _ => ?_))
      | exact ih0 _ _ _ _ _ _
      | exact ih1 _ _ _ _ _
      | exact ih2 _ _ _ _ _ _
      | exact ih3 _ _ _ _ _
      | exact ih4 _ _ _ _ _ _
      | exact ih5 _ _ _ _
      | exact ih6 _ _ _ _ _
      | exact ih7 _ _ _ _ _
      | exact LeO.none _
      | refine LeO.ite ?_ ?_
      | refine LeO.bind ?_ (fun _ => ?_)
    · intro y0 y1 y2 y3 y4
      unfold serinetteref18_Rune.l0
      repeat' first
      | (with_reducible exact ih0 _ _ _ _ _ _)
      | (with_reducible exact ih1 _ _ _ _ _)
      | (with_reducible exact ih2 _ _ _ _ _ _)
      | (with_reducible exact ih3 _ _ _ _ _)
      | (with_reducible exact ih4 _ _ _ _ _ _)
      | (with_reducible exact ih5 _ _ _ _)
      | (with_reducible exact ih6 _ _ _ _ _)
      | (with_reducible exact ih7 _ _ _ _ _)
      | (with_reducible exact LeO.refl _)
      | (with_reducible exact LeO.none _)
      | (with_reducible refine LeO.ite ?_ ?_)
      | (with_reducible refine LeO.bind ?_ (fun _ => ?_))
      | exact ih0 _ _ _ _ _ _
      | exact ih1 _ _ _ _ _
      | exact ih2 _ _ _ _ _ _
      | exact ih3 _ _ _ _ _
      | exact ih4 _ _ _ _ _ _
      | exact ih5 _ _ _ _
      | exact ih6 _ _ _ _ _
      | exact ih7 _ _ _ _ _
      | exact LeO.none _
      | refine LeO.ite ?_ ?_
      | refine LeO.bind ?_ (fun _ => ?_)
theorem serinetteref18_Rune.mono : ∀ a0 k, LeO (serinetteref18_Rune.f k a0) (serinetteref18_Rune.f (k + 1) a0) := by
  intro a0 k
  obtain ⟨ih0, ih1, ih2, ih3, ih4, ih5, ih6, ih7⟩ := serinetteref18_Rune.mono_l k
  unfold serinetteref18_Rune.f
  repeat' first
      | (with_reducible exact ih0 _ _ _ _ _ _)
      | (with_reducible exact ih1 _ _ _ _ _)
      | (with_reducible exact ih2 _ _ _ _ _ _)
      | (with_reducible exact ih3 _ _ _ _ _)
      | (with_reducible exact ih4 _ _ _ _ _ _)
      | (with_reducible exact ih5 _ _ _ _)
      | (with_reducible exact ih6 _ _ _ _ _)
      | (with_reducible exact ih7 _ _ _ _ _)
      | (with_reducible exact LeO.refl _)
      | (with_reducible exact LeO.none _)
      | (with_reducible refine LeO.ite ?_ ?_)
      | (with_reducible refine LeO.bind ?_ (fun _ => ?_))
      | exact ih0 _ _ _ _ _ _
      | exact ih1 _ _ _ _ _
      | exact ih2 _ _ _ _ _ _
      | exact ih3 _ _ _ _ _
      | exact ih4 _ _ _ _ _ _
      | exact ih5 _ _ _ _
      | exact ih6 _ _ _ _ _
      | exact ih7 _ _ _ _ _
      | exact LeO.none _
      | refine LeO.ite ?_ ?_
      | refine LeO.bind ?_ (fun _ => ?_)
set_option maxHeartbeats 8000000 in
set_option maxRecDepth 100000 in
theorem serinetteref18_Rune.calls (k : Nat) (A0 : Option Addr) (c0 : Nat) (l0 : List Int) (r1 : Int) (r2 : Int) (w : World) (hr0 : Kd.C (Kd.int .u8) w A0 l0.length l0) (hc0 : l0.length ≤ c0) (h : serinetteref18_Rune.f k l0 = some (r1, r2)) :
    Calls Try.prog 67 #[.slice A0 l0.length c0] w fun e w' => e = .returned (.tuple #[.int .i64 r1, .int .i64 r2]) ∧ Drawn0 w w' := by
  have HR0 := Aside0.mk hr0
  have HC0 := Aside0.mk hc0
  clear hr0 hc0
  have H : (if (l0.length : Int) = 0 then (some (0, 0)) else (if 0 < (l0.length : Int) then (if (wrap64 (rd l0 0)) < 128 then (some (wrap64 (rd l0 0), 1)) else (if (wrap64 (rd l0 0)) ≥ 194 then (serinetteref18_Rune.j0 k l0 (wrap64 (rd l0 0)) 0 0 0 (decide ((wrap64 (rd l0 0)) ≤ 223))) else (serinetteref18_Rune.j0 k l0 (wrap64 (rd l0 0)) 0 0 0 false))) else (none))) = some (r1, r2) := h
  clear h
  by_cases c2 : (l0.length : Int) = 0
  · rw [if_pos c2] at H
    have c2b0 : ((l0.length : Int) == 0) = true := beq_iff_eq.mpr c2
    have c2b1 : ((l0.length : Int) != 0) = false := bne_eq_false_iff_eq.mpr c2
    clear c2
    simp only [Option.some.injEq, Prod.mk.injEq] at H
    obtain ⟨rfl, rfl⟩ := H
    go_enter Try.func67, Try.ntmps67
    go_wp2
    go_ret2
    exact ⟨by first | rfl | (simp; done) | (simp [*]; done), by repeat (first | exact Drawn0.refl _ | apply Drawn0.step)⟩
  · rw [if_neg c2] at H
    have c2b0 : ((l0.length : Int) == 0) = false := beq_eq_false_iff_ne.mpr c2
    have c2b1 : ((l0.length : Int) != 0) = true := bne_iff_ne.mpr c2
    have c2b2 : ¬ (l0 = []) := fun h_ => c2 (by rw [h_]; rfl)
    by_cases c3 : 0 < (l0.length : Int)
    · rw [if_pos c3] at H
      have c3b0 : decide (0 < (l0.length : Int)) = true := decide_eq_true c3
      have c3b1 : decide (0 < l0.length) = true := decide_eq_true (by omega)
      clear c3
      by_cases c4 : (wrap64 (rd l0 0)) < 128
      · rw [if_pos c4] at H
        have c4b0 : decide ((wrap64 (rd l0 0)) < 128) = true := decide_eq_true c4
        clear c4
        simp only [Option.some.injEq, Prod.mk.injEq] at H
        obtain ⟨rfl, rfl⟩ := H
        have p101 : 0 ≤ (0 : Int) := (by omega)
        have q101 : 0 < (l0.length : Int) := of_decide_eq_true (by first | (with_reducible assumption) | assumption)
        obtain ⟨ad101, e101, hx101_0⟩ := Kd.at_int HR0.out 0 p101 q101
        cases e101
        have qi101 : (0 < l0.length) = True := eq_true (by omega)
        (try rw [show ((0 : Int)).toNat = 0 from rfl] at hx101_0)
        (try rw [Addr.add_zero'] at hx101_0)
        replace p101 := eq_true p101
        replace q101 := eq_true q101
        go_enter Try.func67, Try.ntmps67
        go_wp2
        go_ret2
        exact ⟨by first | rfl | (simp; done) | (simp [*]; done), by repeat (first | exact Drawn0.refl _ | apply Drawn0.step)⟩
      · rw [if_neg c4] at H
        have c4b0 : decide ((wrap64 (rd l0 0)) < 128) = false := decide_eq_false c4
        clear c4
        have HC5 := Aside0.mk H
        clear H
        have p101 : 0 ≤ (0 : Int) := (by omega)
        have q101 : 0 < (l0.length : Int) := of_decide_eq_true (by first | (with_reducible assumption) | assumption)
        obtain ⟨ad101, e101, hx101_0⟩ := Kd.at_int HR0.out 0 p101 q101
        cases e101
        have qi101 : (0 < l0.length) = True := eq_true (by omega)
        (try rw [show ((0 : Int)).toNat = 0 from rfl] at hx101_0)
        (try rw [Addr.add_zero'] at hx101_0)
        replace p101 := eq_true p101
        replace q101 := eq_true q101
        go_enter Try.func67, Try.ntmps67
        go_upto_region 9 with (fail)
        go_cut [24] (fun v24 wc => ∃ (kq : Nat) (x24_4 : Bool), v24 = .bool x24_4 ∧ Aside0 (serinetteref18_Rune.j0 kq l0 (wrap64 (rd l0 0)) 0 0 0 x24_4 = some (r1, r2)) ∧ Aside0 (kq ≤ k) ∧ Drawn0 w wc)
        case first =>
          have H := HC5.out
          clear HC5
          by_cases c6 : (wrap64 (rd l0 0)) ≥ 194
          · rw [if_pos c6] at H
            have c6b0 : decide (194 ≤ (wrap64 (rd l0 0))) = true := decide_eq_true c6
            clear c6
            (first | rw [c6b0] | (simp only [i64_w, i32_w]; rw [c6b0]) | skip)
            have H' := Aside0.mk H
            clear H
            go_wp2
            go_meet
            case rel => exact ⟨_, (decide ((wrap64 (rd l0 0)) ≤ 223)), (by first | rfl | (simp; done) | (simp [*]; done)), H', ⟨by first | omega | exact Nat.le_refl _⟩, by repeat (first | exact Drawn0.refl _ | apply Drawn0.step)⟩
          · rw [if_neg c6] at H
            have c6b0 : decide (194 ≤ (wrap64 (rd l0 0))) = false := decide_eq_false c6
            clear c6
            (first | rw [c6b0] | (simp only [i64_w, i32_w]; rw [c6b0]) | skip)
            have H' := Aside0.mk H
            clear H
            go_wp2
            go_meet
            case rel => exact ⟨_, (false), (by first | rfl | (simp; done) | (simp [*]; done)), H', ⟨by first | omega | exact Nat.le_refl _⟩, by repeat (first | exact Drawn0.refl _ | apply Drawn0.step)⟩
        case rest =>
          clear HC5
          try clear p1
          try clear q1
          try clear hx1
          try clear qi1
          try clear c2
          try clear c2b0
          try clear c2b1
          try clear c2b2
          try clear p2
          try clear c3
          try clear c3b0
          try clear c3b1
          try clear c4
          try clear c4b0
          try clear c6
          try clear c6b0
          try clear p6
          try clear hx101_0
          try clear p101
          try clear q101
          obtain ⟨kq, x24_4, rfl, HA, HJ4, ⟨mc4, rfl⟩⟩ := hcut
          cases kq with
          | zero => exact absurd HA.out (by simp [serinetteref18_Rune.j0])
          | succ kj4 =>
            have H := HA.out
            clear HA
            simp only [serinetteref18_Rune.j0] at H
            have HC7 := Aside0.mk H
            clear H
            go_upto_if 24 with (fail)
            go_cut [5, 6, 7] (fun v5 v6 v7 wc => ∃ (kq : Nat) (x5_6 : Int) (x6_6 : Int) (x7_6 : Int), v5 = .int .i64 x5_6 ∧ v6 = .int .i64 x6_6 ∧ v7 = .int .i64 x7_6 ∧ Aside0 (serinetteref18_Rune.j1 kq l0 (wrap64 (rd l0 0)) x5_6 x6_6 x7_6 = some (r1, r2)) ∧ Aside0 (kq ≤ kj4) ∧ Drawn0 w wc)
            case first =>
              have H := HC7.out
              clear HC7
              by_cases c8 : x24_4 = true
              · subst c8
                have H1 : (serinetteref18_Rune.j1 kj4 l0 (wrap64 (rd l0 0)) 2 (wrap64 ((wrap64 (rd l0 0)) - 192)) 128) = some (r1, r2) := by rw [if_pos rfl] at H; exact H
                clear H
                have H := H1
                clear H1
                have H' := Aside0.mk H
                clear H
                go_wp2
                go_meet
                case rel => exact ⟨_, (2), (wrap64 ((wrap64 (rd l0 0)) - 192)), (128), (by first | rfl | (simp; done) | (simp [*]; done)), (by first | rfl | (simp; done) | (simp [*]; done)), (by first | rfl | (simp; done) | (simp [*]; done)), H', ⟨by have := HJ4.out; first | omega | exact Nat.le_refl _⟩, by repeat (first | exact Drawn0.refl _ | apply Drawn0.step)⟩
              · replace c8 := Bool.eq_false_iff.mpr c8
                subst c8
                have H1 : (serinetteref18_Rune.j1 kj4 l0 (wrap64 (rd l0 0)) 0 0 0) = some (r1, r2) := by rw [if_neg (show ¬ (false = true) by decide)] at H; exact H
                clear H
                have H := H1
                clear H1
                have H' := Aside0.mk H
                clear H
                go_wp2
                go_meet
                case rel => exact ⟨_, (0), (0), (0), (by first | rfl | (simp; done) | (simp [*]; done)), (by first | rfl | (simp; done) | (simp [*]; done)), (by first | rfl | (simp; done) | (simp [*]; done)), H', ⟨by have := HJ4.out; first | omega | exact Nat.le_refl _⟩, by repeat (first | exact Drawn0.refl _ | apply Drawn0.step)⟩
            case rest =>
              clear HC7
              try clear p1
              try clear q1
              try clear hx1
              try clear qi1
              try clear c2
              try clear c2b0
              try clear c2b1
              try clear c2b2
              try clear p2
              try clear c3
              try clear c3b0
              try clear c3b1
              try clear c4
              try clear c4b0
              try clear c6
              try clear c6b0
              try clear p6
              try clear c8
              try clear hx101_0
              try clear p1
              try clear p101
              try clear p2
              try clear p6
              try clear q1
              try clear q101
              obtain ⟨kq, x5_6, x6_6, x7_6, rfl, rfl, rfl, HA, HJ6, ⟨mc6, rfl⟩⟩ := hcut
              cases kq with
              | zero => exact absurd HA.out (by simp [serinetteref18_Rune.j1])
              | succ kj6 =>
                have H := HA.out
                clear HA
                simp only [serinetteref18_Rune.j1] at H
                have HC9 := Aside0.mk H
                clear H
                go_upto_region 13 with (fail)
                go_cut [32] (fun v32 wc => ∃ (kq : Nat) (x32_8 : Bool), v32 = .bool x32_8 ∧ Aside0 (serinetteref18_Rune.j2 kq l0 (wrap64 (rd l0 0)) x5_6 x6_6 x7_6 x32_8 = some (r1, r2)) ∧ Aside0 (kq ≤ kj6) ∧ Drawn0 w wc)
                case first =>
                  have H := HC9.out
                  clear HC9
                  by_cases c10 : (wrap64 (rd l0 0)) ≥ 224
                  · rw [if_pos c10] at H
                    have c10b0 : decide (224 ≤ (wrap64 (rd l0 0))) = true := decide_eq_true c10
                    clear c10
                    (first | rw [c10b0] | (simp only [i64_w, i32_w]; rw [c10b0]) | skip)
                    have H' := Aside0.mk H
                    clear H
                    go_wp2
                    go_meet
                    case rel => exact ⟨_, (decide ((wrap64 (rd l0 0)) ≤ 239)), (by first | rfl | (simp; done) | (simp [*]; done)), H', ⟨by have := HJ4.out; have := HJ6.out; first | omega | exact Nat.le_refl _⟩, by repeat (first | exact Drawn0.refl _ | apply Drawn0.step)⟩
                  · rw [if_neg c10] at H
                    have c10b0 : decide (224 ≤ (wrap64 (rd l0 0))) = false := decide_eq_false c10
                    clear c10
                    (first | rw [c10b0] | (simp only [i64_w, i32_w]; rw [c10b0]) | skip)
                    have H' := Aside0.mk H
                    clear H
                    go_wp2
                    go_meet
                    case rel => exact ⟨_, (false), (by first | rfl | (simp; done) | (simp [*]; done)), H', ⟨by have := HJ4.out; have := HJ6.out; first | omega | exact Nat.le_refl _⟩, by repeat (first | exact Drawn0.refl _ | apply Drawn0.step)⟩
                case rest =>
                  clear HC9
                  try clear c1
                  try clear p1
                  try clear q1
                  try clear hx1
                  try clear qi1
                  try clear c2
                  try clear c2b0
                  try clear c2b1
                  try clear c2b2
                  try clear p2
                  try clear c3
                  try clear c3b0
                  try clear c3b1
                  try clear c4
                  try clear c4b0
                  try clear c6
                  try clear c6b0
                  try clear p6
                  try clear c8
                  try clear c10
                  try clear c10b0
                  try clear p10
                  try clear q10
                  try clear hx10
                  try clear qi10
                  try clear hx101_0
                  try clear p1
                  try clear p101
                  try clear p2
                  try clear p6
                  try clear q1
                  try clear q101
                  obtain ⟨kq, x32_8, rfl, HA, HJ8, ⟨mc8, rfl⟩⟩ := hcut
                  cases kq with
                  | zero => exact absurd HA.out (by simp [serinetteref18_Rune.j2])
                  | succ kj8 =>
                    have H := HA.out
                    clear HA
                    simp only [serinetteref18_Rune.j2] at H
                    have HC11 := Aside0.mk H
                    clear H
                    go_upto_if 32 with (fail)
                    go_cut [5, 6, 7] (fun v5 v6 v7 wc => ∃ (kq : Nat) (x5_10 : Int) (x6_10 : Int) (x7_10 : Int), v5 = .int .i64 x5_10 ∧ v6 = .int .i64 x6_10 ∧ v7 = .int .i64 x7_10 ∧ Aside0 (serinetteref18_Rune.j3 kq l0 (wrap64 (rd l0 0)) x5_10 x6_10 x7_10 = some (r1, r2)) ∧ Aside0 (kq ≤ kj8) ∧ Drawn0 w wc)
                    case first =>
                      have H := HC11.out
                      clear HC11
                      by_cases c12 : x32_8 = true
                      · subst c12
                        have H1 : (serinetteref18_Rune.j3 kj8 l0 (wrap64 (rd l0 0)) 3 (wrap64 ((wrap64 (rd l0 0)) - 224)) 2048) = some (r1, r2) := by rw [if_pos rfl] at H; exact H
                        clear H
                        have H := H1
                        clear H1
                        have H' := Aside0.mk H
                        clear H
                        go_wp2
                        go_meet
                        case rel => exact ⟨_, (3), (wrap64 ((wrap64 (rd l0 0)) - 224)), (2048), (by first | rfl | (simp; done) | (simp [*]; done)), (by first | rfl | (simp; done) | (simp [*]; done)), (by first | rfl | (simp; done) | (simp [*]; done)), H', ⟨by have := HJ4.out; have := HJ6.out; have := HJ8.out; first | omega | exact Nat.le_refl _⟩, by repeat (first | exact Drawn0.refl _ | apply Drawn0.step)⟩
                      · replace c12 := Bool.eq_false_iff.mpr c12
                        subst c12
                        have H1 : (serinetteref18_Rune.j3 kj8 l0 (wrap64 (rd l0 0)) x5_6 x6_6 x7_6) = some (r1, r2) := by rw [if_neg (show ¬ (false = true) by decide)] at H; exact H
                        clear H
                        have H := H1
                        clear H1
                        have H' := Aside0.mk H
                        clear H
                        go_wp2
                        go_meet
                        case rel => exact ⟨_, (x5_6), (x6_6), (x7_6), (by first | rfl | (simp; done) | (simp [*]; done)), (by first | rfl | (simp; done) | (simp [*]; done)), (by first | rfl | (simp; done) | (simp [*]; done)), H', ⟨by have := HJ4.out; have := HJ6.out; have := HJ8.out; first | omega | exact Nat.le_refl _⟩, by repeat (first | exact Drawn0.refl _ | apply Drawn0.step)⟩
                    case rest =>
                      clear HC11
                      try clear c1
                      try clear p1
                      try clear q1
                      try clear hx1
                      try clear qi1
                      try clear c2
                      try clear c2b0
                      try clear c2b1
                      try clear c2b2
                      try clear p2
                      try clear c3
                      try clear c3b0
                      try clear c3b1
                      try clear c4
                      try clear c4b0
                      try clear c6
                      try clear c6b0
                      try clear p6
                      try clear c8
                      try clear c10
                      try clear c10b0
                      try clear p10
                      try clear q10
                      try clear hx10
                      try clear qi10
                      try clear c12
                      try clear hx101_0
                      try clear p1
                      try clear p10
                      try clear p101
                      try clear p2
                      try clear p6
                      try clear q1
                      try clear q10
                      try clear q101
                      obtain ⟨kq, x5_10, x6_10, x7_10, rfl, rfl, rfl, HA, HJ10, ⟨mc10, rfl⟩⟩ := hcut
                      cases kq with
                      | zero => exact absurd HA.out (by simp [serinetteref18_Rune.j3])
                      | succ kj10 =>
                        have H := HA.out
                        clear HA
                        simp only [serinetteref18_Rune.j3] at H
                        have HC13 := Aside0.mk H
                        clear H
                        go_upto_region 17 with (fail)
                        go_cut [40] (fun v40 wc => ∃ (kq : Nat) (x40_12 : Bool), v40 = .bool x40_12 ∧ Aside0 (serinetteref18_Rune.j4 kq l0 (wrap64 (rd l0 0)) x5_10 x6_10 x7_10 x40_12 = some (r1, r2)) ∧ Aside0 (kq ≤ kj10) ∧ Drawn0 w wc)
                        case first =>
                          have H := HC13.out
                          clear HC13
                          by_cases c14 : (wrap64 (rd l0 0)) ≥ 240
                          · rw [if_pos c14] at H
                            have c14b0 : decide (240 ≤ (wrap64 (rd l0 0))) = true := decide_eq_true c14
                            clear c14
                            (first | rw [c14b0] | (simp only [i64_w, i32_w]; rw [c14b0]) | skip)
                            have H' := Aside0.mk H
                            clear H
                            go_wp2
                            go_meet
                            case rel => exact ⟨_, (decide ((wrap64 (rd l0 0)) ≤ 244)), (by first | rfl | (simp; done) | (simp [*]; done)), H', ⟨by have := HJ4.out; have := HJ6.out; have := HJ8.out; have := HJ10.out; first | omega | exact Nat.le_refl _⟩, by repeat (first | exact Drawn0.refl _ | apply Drawn0.step)⟩
                          · rw [if_neg c14] at H
                            have c14b0 : decide (240 ≤ (wrap64 (rd l0 0))) = false := decide_eq_false c14
                            clear c14
                            (first | rw [c14b0] | (simp only [i64_w, i32_w]; rw [c14b0]) | skip)
                            have H' := Aside0.mk H
                            clear H
                            go_wp2
                            go_meet
                            case rel => exact ⟨_, (false), (by first | rfl | (simp; done) | (simp [*]; done)), H', ⟨by have := HJ4.out; have := HJ6.out; have := HJ8.out; have := HJ10.out; first | omega | exact Nat.le_refl _⟩, by repeat (first | exact Drawn0.refl _ | apply Drawn0.step)⟩
                        case rest =>
                          clear HC13
                          try clear c1
                          try clear p1
                          try clear q1
                          try clear hx1
                          try clear qi1
                          try clear c2
                          try clear c2b0
                          try clear c2b1
                          try clear c2b2
                          try clear p2
                          try clear c3
                          try clear c3b0
                          try clear c3b1
                          try clear c4
                          try clear c4b0
                          try clear c6
                          try clear c6b0
                          try clear p6
                          try clear c8
                          try clear c10
                          try clear c10b0
                          try clear p10
                          try clear q10
                          try clear hx10
                          try clear qi10
                          try clear c12
                          try clear c14
                          try clear c14b0
                          try clear hx101_0
                          try clear p1
                          try clear p10
                          try clear p101
                          try clear p2
                          try clear p6
                          try clear q1
                          try clear q10
                          try clear q101
                          obtain ⟨kq, x40_12, rfl, HA, HJ12, ⟨mc12, rfl⟩⟩ := hcut
                          cases kq with
                          | zero => exact absurd HA.out (by simp [serinetteref18_Rune.j4])
                          | succ kj12 =>
                            have H := HA.out
                            clear HA
                            simp only [serinetteref18_Rune.j4] at H
                            have HC15 := Aside0.mk H
                            clear H
                            go_upto_if 40 with (fail)
                            go_cut [5, 6, 7] (fun v5 v6 v7 wc => ∃ (kq : Nat) (x5_14 : Int) (x6_14 : Int) (x7_14 : Int), v5 = .int .i64 x5_14 ∧ v6 = .int .i64 x6_14 ∧ v7 = .int .i64 x7_14 ∧ Aside0 (serinetteref18_Rune.j5 kq l0 x5_14 x6_14 x7_14 = some (r1, r2)) ∧ Aside0 (kq ≤ kj12) ∧ Drawn0 w wc)
                            case first =>
                              have H := HC15.out
                              clear HC15
                              by_cases c16 : x40_12 = true
                              · subst c16
                                have H1 : (serinetteref18_Rune.j5 kj12 l0 4 (wrap64 ((wrap64 (rd l0 0)) - 240)) 65536) = some (r1, r2) := by rw [if_pos rfl] at H; exact H
                                clear H
                                have H := H1
                                clear H1
                                have H' := Aside0.mk H
                                clear H
                                go_wp2
                                go_meet
                                case rel => exact ⟨_, (4), (wrap64 ((wrap64 (rd l0 0)) - 240)), (65536), (by first | rfl | (simp; done) | (simp [*]; done)), (by first | rfl | (simp; done) | (simp [*]; done)), (by first | rfl | (simp; done) | (simp [*]; done)), H', ⟨by have := HJ4.out; have := HJ6.out; have := HJ8.out; have := HJ10.out; have := HJ12.out; first | omega | exact Nat.le_refl _⟩, by repeat (first | exact Drawn0.refl _ | apply Drawn0.step)⟩
                              · replace c16 := Bool.eq_false_iff.mpr c16
                                subst c16
                                have H1 : (serinetteref18_Rune.j5 kj12 l0 x5_10 x6_10 x7_10) = some (r1, r2) := by rw [if_neg (show ¬ (false = true) by decide)] at H; exact H
                                clear H
                                have H := H1
                                clear H1
                                have H' := Aside0.mk H
                                clear H
                                go_wp2
                                go_meet
                                case rel => exact ⟨_, (x5_10), (x6_10), (x7_10), (by first | rfl | (simp; done) | (simp [*]; done)), (by first | rfl | (simp; done) | (simp [*]; done)), (by first | rfl | (simp; done) | (simp [*]; done)), H', ⟨by have := HJ4.out; have := HJ6.out; have := HJ8.out; have := HJ10.out; have := HJ12.out; first | omega | exact Nat.le_refl _⟩, by repeat (first | exact Drawn0.refl _ | apply Drawn0.step)⟩
                            case rest =>
                              clear HC15
                              try clear c1
                              try clear p1
                              try clear q1
                              try clear hx1
                              try clear qi1
                              try clear c2
                              try clear c2b0
                              try clear c2b1
                              try clear c2b2
                              try clear p2
                              try clear c3
                              try clear c3b0
                              try clear c3b1
                              try clear c4
                              try clear c4b0
                              try clear c6
                              try clear c6b0
                              try clear p6
                              try clear c8
                              try clear c10
                              try clear c10b0
                              try clear p10
                              try clear q10
                              try clear hx10
                              try clear qi10
                              try clear c12
                              try clear c14
                              try clear c14b0
                              try clear c16
                              try clear hx101_0
                              try clear p1
                              try clear p10
                              try clear p101
                              try clear p2
                              try clear p6
                              try clear q1
                              try clear q10
                              try clear q101
                              obtain ⟨kq, x5_14, x6_14, x7_14, rfl, rfl, rfl, HA, HJ14, ⟨mc14, rfl⟩⟩ := hcut
                              cases kq with
                              | zero => exact absurd HA.out (by simp [serinetteref18_Rune.j5])
                              | succ kj14 =>
                                have H := HA.out
                                clear HA
                                simp only [serinetteref18_Rune.j5] at H
                                have HC17 := Aside0.mk H
                                clear H
                                go_upto_region 21 with (fail)
                                go_cut [50] (fun v50 wc => ∃ (kq : Nat) (x50_16 : Bool), v50 = .bool x50_16 ∧ Aside0 (serinetteref18_Rune.j6 kq l0 x5_14 x6_14 x7_14 x50_16 = some (r1, r2)) ∧ Aside0 (kq ≤ kj14) ∧ Drawn0 w wc)
                                case first =>
                                  have H := HC17.out
                                  clear HC17
                                  by_cases c18 : x5_14 = 0
                                  · rw [if_pos c18] at H
                                    have c18b0 : (x5_14 == 0) = true := beq_iff_eq.mpr c18
                                    have c18b1 : (x5_14 != 0) = false := bne_eq_false_iff_eq.mpr c18
                                    clear c18
                                    (first | rw [c18b0] | (simp only [i64_w, i32_w]; rw [c18b0]) | skip)
                                    have H' := Aside0.mk H
                                    clear H
                                    go_wp2
                                    go_meet
                                    case rel => exact ⟨_, (true), (by first | rfl | (simp; done) | (simp [*]; done)), H', ⟨by have := HJ4.out; have := HJ6.out; have := HJ8.out; have := HJ10.out; have := HJ12.out; have := HJ14.out; first | omega | exact Nat.le_refl _⟩, by repeat (first | exact Drawn0.refl _ | apply Drawn0.step)⟩
                                  · rw [if_neg c18] at H
                                    have c18b0 : (x5_14 == 0) = false := beq_eq_false_iff_ne.mpr c18
                                    have c18b1 : (x5_14 != 0) = true := bne_iff_ne.mpr c18
                                    (first | rw [c18b0] | (simp only [i64_w, i32_w]; rw [c18b0]) | skip)
                                    have H' := Aside0.mk H
                                    clear H
                                    go_wp2
                                    go_meet
                                    case rel => exact ⟨_, (decide ((l0.length : Int) < x5_14)), (by first | rfl | (simp; done) | (simp [*]; done)), H', ⟨by have := HJ4.out; have := HJ6.out; have := HJ8.out; have := HJ10.out; have := HJ12.out; have := HJ14.out; first | omega | exact Nat.le_refl _⟩, by repeat (first | exact Drawn0.refl _ | apply Drawn0.step)⟩
                                case rest =>
                                  clear HC17
                                  try clear c1
                                  try clear p1
                                  try clear q1
                                  try clear hx1
                                  try clear qi1
                                  try clear c2
                                  try clear c2b0
                                  try clear c2b1
                                  try clear c2b2
                                  try clear p2
                                  try clear c3
                                  try clear c3b0
                                  try clear c3b1
                                  try clear c4
                                  try clear c4b0
                                  try clear c6
                                  try clear c6b0
                                  try clear p6
                                  try clear c8
                                  try clear c10
                                  try clear c10b0
                                  try clear p10
                                  try clear q10
                                  try clear hx10
                                  try clear qi10
                                  try clear c12
                                  try clear c14
                                  try clear c14b0
                                  try clear c16
                                  try clear c18
                                  try clear c18b0
                                  try clear c18b1
                                  try clear hx101_0
                                  try clear p1
                                  try clear p10
                                  try clear p101
                                  try clear p2
                                  try clear p6
                                  try clear q1
                                  try clear q10
                                  try clear q101
                                  obtain ⟨kq, x50_16, rfl, HA, HJ16, ⟨mc16, rfl⟩⟩ := hcut
                                  cases kq with
                                  | zero => exact absurd HA.out (by simp [serinetteref18_Rune.j6])
                                  | succ kj16 =>
                                    have H := HA.out
                                    clear HA
                                    simp only [serinetteref18_Rune.j6] at H
                                    by_cases c19 : x50_16 = true
                                    · subst c19
                                      have H1 : (some (0, 0)) = some (r1, r2) := by rw [if_pos rfl] at H; exact H
                                      clear H
                                      have H := H1
                                      clear H1
                                      simp only [Option.some.injEq, Prod.mk.injEq] at H
                                      obtain ⟨rfl, rfl⟩ := H
                                      go_wp2
                                      go_ret2
                                      exact ⟨by first | rfl | (simp; done) | (simp [*]; done), by repeat (first | exact Drawn0.refl _ | apply Drawn0.step)⟩
                                    · replace c19 := Bool.eq_false_iff.mpr c19
                                      subst c19
                                      have H1 : (serinetteref18_Rune.l0 kj16 l0 x5_14 x6_14 x7_14 1) = some (r1, r2) := by rw [if_neg (show ¬ (false = true) by decide)] at H; exact H
                                      clear H
                                      have H := H1
                                      clear H1
                                      have H' := Aside0.mk H
                                      clear H
                                      go_wp2
                                      go_loopg [6, 8] kj16 (fun kq v6 v8 w' => ∃ (x6_8 : Int) (x8_8 : Int), v6 = .int .i64 x6_8 ∧ v8 = .int .i64 x8_8 ∧ Aside0 (serinetteref18_Rune.l0 kq l0 x5_14 x6_8 x7_14 x8_8 = some (r1, r2)) ∧ Aside0 (kq ≤ kj16) ∧ Drawn0 w w')
                                      case atStart => exact ⟨(x6_14), (1), (by first | rfl | (simp; done) | (simp [*]; done)), (by first | rfl | (simp; done) | (simp [*]; done)), H', ⟨Nat.le_refl _⟩, by repeat (first | exact Drawn0.refl _ | apply Drawn0.step)⟩
                                      case round =>
                                        clear H'
                                        try clear c1
                                        try clear p1
                                        try clear q1
                                        try clear hx1
                                        try clear qi1
                                        try clear c2
                                        try clear c2b0
                                        try clear c2b1
                                        try clear c2b2
                                        try clear p2
                                        try clear c3
                                        try clear c3b0
                                        try clear c3b1
                                        try clear c4
                                        try clear c4b0
                                        try clear c6
                                        try clear c6b0
                                        try clear p6
                                        try clear c8
                                        try clear c10
                                        try clear c10b0
                                        try clear p10
                                        try clear q10
                                        try clear hx10
                                        try clear qi10
                                        try clear c12
                                        try clear c14
                                        try clear c14b0
                                        try clear c16
                                        try clear c18
                                        try clear c18b0
                                        try clear c18b1
                                        try clear c19
                                        try clear hx101_0
                                        try clear p1
                                        try clear p10
                                        try clear p101
                                        try clear p2
                                        try clear p6
                                        try clear q1
                                        try clear q10
                                        try clear q101
                                        obtain ⟨x6_8, x8_8, rfl, rfl, HA, HK8, ⟨m8, rfl⟩⟩ := hrel
                                        cases gk with
                                        | zero => exact absurd HA.out (by simp [serinetteref18_Rune.l0])
                                        | succ k8 =>
                                          have H := HA.out
                                          clear HA
                                          simp only [serinetteref18_Rune.l0] at H
                                          by_cases c20 : x8_8 < x5_14
                                          · rw [if_pos c20] at H
                                            have c20b0 : decide (x8_8 < x5_14) = true := decide_eq_true c20
                                            clear c20
                                            by_cases c21 : 0 ≤ x8_8
                                            · rw [if_pos c21] at H
                                              have c21b0 : decide (0 ≤ x8_8) = true := decide_eq_true c21
                                              clear c21
                                              by_cases c22 : x8_8 < (l0.length : Int)
                                              · rw [if_pos c22] at H
                                                have c22b0 : decide (x8_8 < (l0.length : Int)) = true := decide_eq_true c22
                                                clear c22
                                                by_cases c23 : (rd l0 x8_8) < 128
                                                · rw [if_pos c23] at H
                                                  have c23b0 : decide ((rd l0 x8_8) < 128) = true := decide_eq_true c23
                                                  clear c23
                                                  simp only [Option.some.injEq, Prod.mk.injEq] at H
                                                  obtain ⟨rfl, rfl⟩ := H
                                                  have p102 : 0 ≤ (x8_8 : Int) := of_decide_eq_true (by first | (with_reducible assumption) | assumption)
                                                  have q102 : x8_8 < (l0.length : Int) := of_decide_eq_true (by first | (with_reducible assumption) | assumption)
                                                  obtain ⟨ad102, e102, hx102_0⟩ := Kd.at_int HR0.out x8_8 p102 q102
                                                  obtain rfl : ad101 = ad102 := (by injection e102)
                                                  replace p102 := eq_true p102
                                                  replace q102 := eq_true q102
                                                  go_wp2
                                                  go_ret2
                                                  exact ⟨by first | rfl | (simp; done) | (simp [*]; done), by repeat (first | exact Drawn0.refl _ | apply Drawn0.step)⟩
                                                · rw [if_neg c23] at H
                                                  have c23b0 : decide ((rd l0 x8_8) < 128) = false := decide_eq_false c23
                                                  clear c23
                                                  by_cases c24 : (rd l0 x8_8) > 191
                                                  · rw [if_pos c24] at H
                                                    have c24b0 : decide (191 < (rd l0 x8_8)) = true := decide_eq_true c24
                                                    clear c24
                                                    simp only [Option.some.injEq, Prod.mk.injEq] at H
                                                    obtain ⟨rfl, rfl⟩ := H
                                                    have p102 : 0 ≤ (x8_8 : Int) := of_decide_eq_true (by first | (with_reducible assumption) | assumption)
                                                    have q102 : x8_8 < (l0.length : Int) := of_decide_eq_true (by first | (with_reducible assumption) | assumption)
                                                    obtain ⟨ad102, e102, hx102_0⟩ := Kd.at_int HR0.out x8_8 p102 q102
                                                    obtain rfl : ad101 = ad102 := (by injection e102)
                                                    replace p102 := eq_true p102
                                                    replace q102 := eq_true q102
                                                    have p103 : 0 ≤ (x8_8 : Int) := of_decide_eq_true (by first | (with_reducible assumption) | assumption)
                                                    have q103 : x8_8 < (l0.length : Int) := of_decide_eq_true (by first | (with_reducible assumption) | assumption)
                                                    obtain ⟨ad103, e103, hx103_0⟩ := Kd.at_int HR0.out x8_8 p103 q103
                                                    obtain rfl : ad101 = ad103 := (by injection e103)
                                                    replace p103 := eq_true p103
                                                    replace q103 := eq_true q103
                                                    go_wp2
                                                    go_ret2
                                                    exact ⟨by first | rfl | (simp; done) | (simp [*]; done), by repeat (first | exact Drawn0.refl _ | apply Drawn0.step)⟩
                                                  · rw [if_neg c24] at H
                                                    have c24b0 : decide (191 < (rd l0 x8_8)) = false := decide_eq_false c24
                                                    clear c24
                                                    have H' := Aside0.mk H
                                                    clear H
                                                    have p102 : 0 ≤ (x8_8 : Int) := of_decide_eq_true (by first | (with_reducible assumption) | assumption)
                                                    have q102 : x8_8 < (l0.length : Int) := of_decide_eq_true (by first | (with_reducible assumption) | assumption)
                                                    obtain ⟨ad102, e102, hx102_0⟩ := Kd.at_int HR0.out x8_8 p102 q102
                                                    obtain rfl : ad101 = ad102 := (by injection e102)
                                                    replace p102 := eq_true p102
                                                    replace q102 := eq_true q102
                                                    have p103 : 0 ≤ (x8_8 : Int) := of_decide_eq_true (by first | (with_reducible assumption) | assumption)
                                                    have q103 : x8_8 < (l0.length : Int) := of_decide_eq_true (by first | (with_reducible assumption) | assumption)
                                                    obtain ⟨ad103, e103, hx103_0⟩ := Kd.at_int HR0.out x8_8 p103 q103
                                                    obtain rfl : ad101 = ad103 := (by injection e103)
                                                    replace p103 := eq_true p103
                                                    replace q103 := eq_true q103
                                                    have p104 : 0 ≤ (x8_8 : Int) := of_decide_eq_true (by first | (with_reducible assumption) | assumption)
                                                    have q104 : x8_8 < (l0.length : Int) := of_decide_eq_true (by first | (with_reducible assumption) | assumption)
                                                    obtain ⟨ad104, e104, hx104_0⟩ := Kd.at_int HR0.out x8_8 p104 q104
                                                    obtain rfl : ad101 = ad104 := (by injection e104)
                                                    replace p104 := eq_true p104
                                                    replace q104 := eq_true q104
                                                    go_wp2
                                                    go_roundg k8
                                                    case measure => have := HJ4.out; have := HJ6.out; have := HJ8.out; have := HJ10.out; have := HJ12.out; have := HJ14.out; have := HJ16.out; have := HK8.out; omega
                                                    case rel => exact ⟨(wrap64 ((wrap64 ((wrap64 (64 * x6_8)) + (wrap64 (rd l0 x8_8)))) - 128)), (wrap64 (x8_8 + 1)), (by first | rfl | (simp; done) | (simp [*]; done)), (by first | rfl | (simp; done) | (simp [*]; done)), H', ⟨by have := HJ4.out; have := HJ6.out; have := HJ8.out; have := HJ10.out; have := HJ12.out; have := HJ14.out; have := HJ16.out; have := HK8.out; omega⟩, by repeat (first | exact Drawn0.refl _ | apply Drawn0.step)⟩
                                              · rw [if_neg c22] at H
                                                exact absurd H (by simp)
                                            · rw [if_neg c21] at H
                                              exact absurd H (by simp)
                                          · rw [if_neg c20] at H
                                            have c20b0 : decide (x8_8 < x5_14) = false := decide_eq_false c20
                                            clear c20
                                            by_cases c25 : x6_8 < x7_14
                                            · rw [if_pos c25] at H
                                              have c25b0 : decide (x6_8 < x7_14) = true := decide_eq_true c25
                                              clear c25
                                              simp only [Option.some.injEq, Prod.mk.injEq] at H
                                              obtain ⟨rfl, rfl⟩ := H
                                              go_wp2
                                              go_ret2
                                              exact ⟨by first | rfl | (simp; done) | (simp [*]; done), by repeat (first | exact Drawn0.refl _ | apply Drawn0.step)⟩
                                            · rw [if_neg c25] at H
                                              have c25b0 : decide (x6_8 < x7_14) = false := decide_eq_false c25
                                              clear c25
                                              by_cases c26 : x6_8 > 1114111
                                              · rw [if_pos c26] at H
                                                have c26b0 : decide (1114111 < x6_8) = true := decide_eq_true c26
                                                clear c26
                                                simp only [Option.some.injEq, Prod.mk.injEq] at H
                                                obtain ⟨rfl, rfl⟩ := H
                                                go_wp2
                                                go_ret2
                                                exact ⟨by first | rfl | (simp; done) | (simp [*]; done), by repeat (first | exact Drawn0.refl _ | apply Drawn0.step)⟩
                                              · rw [if_neg c26] at H
                                                have c26b0 : decide (1114111 < x6_8) = false := decide_eq_false c26
                                                clear c26
                                                by_cases c27 : x6_8 ≥ 55296
                                                · rw [if_pos c27] at H
                                                  have c27b0 : decide (55296 ≤ x6_8) = true := decide_eq_true c27
                                                  clear c27
                                                  by_cases c28 : x6_8 ≤ 57343
                                                  · rw [if_pos c28] at H
                                                    have c28b0 : decide (x6_8 ≤ 57343) = true := decide_eq_true c28
                                                    clear c28
                                                    simp only [Option.some.injEq, Prod.mk.injEq] at H
                                                    obtain ⟨rfl, rfl⟩ := H
                                                    go_wp2
                                                    go_ret2
                                                    exact ⟨by first | rfl | (simp; done) | (simp [*]; done), by repeat (first | exact Drawn0.refl _ | apply Drawn0.step)⟩
                                                  · rw [if_neg c28] at H
                                                    have c28b0 : decide (x6_8 ≤ 57343) = false := decide_eq_false c28
                                                    clear c28
                                                    simp only [Option.some.injEq, Prod.mk.injEq] at H
                                                    obtain ⟨rfl, rfl⟩ := H
                                                    go_wp2
                                                    go_ret2
                                                    exact ⟨by first | rfl | (simp; done) | (simp [*]; done), by repeat (first | exact Drawn0.refl _ | apply Drawn0.step)⟩
                                                · rw [if_neg c27] at H
                                                  have c27b0 : decide (55296 ≤ x6_8) = false := decide_eq_false c27
                                                  clear c27
                                                  simp only [Option.some.injEq, Prod.mk.injEq] at H
                                                  obtain ⟨rfl, rfl⟩ := H
                                                  go_wp2
                                                  go_ret2
                                                  exact ⟨by first | rfl | (simp; done) | (simp [*]; done), by repeat (first | exact Drawn0.refl _ | apply Drawn0.step)⟩
    · rw [if_neg c3] at H
      exact absurd H (by simp)

end Go.Proofs.Ytpeejdmbnlhjmaa.PMetaTexts
