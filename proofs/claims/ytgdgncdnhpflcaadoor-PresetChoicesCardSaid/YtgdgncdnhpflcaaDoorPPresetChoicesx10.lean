-- written by this session's program wip/reprint.sh (a turned copy of the kit's print): the session's own text
import Derived.Test.YtgdgncdnhpflcaaDoorPPresetChoicesx0
import Derived.Test.YtgdgncdnhpflcaaDoorPPresetChoicesx1
import Derived.Test.YtgdgncdnhpflcaaDoorPPresetChoicesx2
import Derived.Test.YtgdgncdnhpflcaaDoorPPresetChoicesx3
import Derived.Test.YtgdgncdnhpflcaaDoorPPresetChoicesx5
import Derived.Test.YtgdgncdnhpflcaaDoorPPresetChoicesx6
import Derived.Test.YtgdgncdnhpflcaaDoorPPresetChoicesx7
import Derived.Test.YtgdgncdnhpflcaaDoorPPresetChoicesx8
import Derived.Test.YtgdgncdnhpflcaaDoorPPresetChoicesx9
namespace Go.Proofs.YtgdgncdnhpflcaaDoor.PPresetChoices
open Go.RowKit Go.Proofs.YtgdgncdnhpflcaaDoorW.PrintWords Go.Proofs.YtgdgncdnhpflcaaDoorW.PrintLast Go.Proofs.YtgdgncdnhpflcaaDoorW.PrintMore
attribute [local go_sem] max2_int min2_int max_two min_two max_three min_three max_four min_four   -- for this text's walks alone
set_option linter.unusedVariables false
set_option linter.unusedSimpArgs false

attribute [local go_sem high] eqA35
/-! ### serinettelaw19_PresetChoices: function 5 -/
mutual
def serinettelaw19_PresetChoices.j0 : Nat → Int → Int → Bool → Bool → Int → Bool → Int → Int → List Int → List Int → Int → Bool → Int → Int → Int → Int → Option (Bool)
  | 0, _, _, _, _, _, _, _, _, _, _, _, _, _, _, _, _ => none
  | k + 1, x1, x2, x9, x25, x234000, x234001, x234002, x234003, x234004, x234005, x234006, x234007, x235000, x235001, x235002, x235003 => if x25 = true then (some x9) else ((serinetteref19_All.f k x234000 x234001 x234002 x234003 x234004 x234005 x234006 x234007 x1).bind fun t237 => ((preset_Count.f x234000 x234001 x234002 x234003 x234004 x234005 x234006 x234007 x1).bind fun t240 => (if t240 = (t237.length : Int) then ((preset_All.f k x234000 x234001 x234002 x234003 x234004 x234005 x234006 x234007 x1).bind fun t241 => ((serinetteref19_Same.f k t241 t237).bind fun t244 => (serinettelaw19_PresetChoices.j1 k x1 x2 x9 t237 (!t244) x234000 x234001 x234002 x234003 x234004 x234005 x234006 x234007 x235000 x235001 x235002 x235003))) else (serinettelaw19_PresetChoices.j1 k x1 x2 x9 t237 true x234000 x234001 x234002 x234003 x234004 x234005 x234006 x234007 x235000 x235001 x235002 x235003))))
def serinettelaw19_PresetChoices.j1 : Nat → Int → Int → Bool → List (S35) → Bool → Int → Bool → Int → Int → List Int → List Int → Int → Bool → Int → Int → Int → Int → Option (Bool)
  | 0, _, _, _, _, _, _, _, _, _, _, _, _, _, _, _, _, _ => none
  | k + 1, x1, x2, x9, x11, x43, x234000, x234001, x234002, x234003, x234004, x234005, x234006, x234007, x235000, x235001, x235002, x235003 => if x43 = true then (some false) else ((preset_At.f k x234000 x234001 x234002 x234003 x234004 x234005 x234006 x234007 x1 x2).bind fun bt245 => (if x2 ≥ 0 then (if (bt245.2.2.2.2 != (decide (x2 < (x11.length : Int)))) = true then (serinettelaw19_PresetChoices.j2 k x1 x9 x11 true x234000 x234001 x234002 x234003 x234004 x234005 x234006 x234007 x235000 x235001 x235002 x235003) else (if bt245.2.2.2.2 = true then (if 0 ≤ x2 then (if x2 < (x11.length : Int) then (if (!(bt245.1 == ((rd_T35 x11 x2).f0)) || (!(bt245.2.1 == ((rd_T35 x11 x2).f1)) || (!(bt245.2.2.1 == ((rd_T35 x11 x2).f2)) || (!(bt245.2.2.2.1 == ((rd_T35 x11 x2).f3)))))) = true then (serinettelaw19_PresetChoices.j2 k x1 x9 x11 true x234000 x234001 x234002 x234003 x234004 x234005 x234006 x234007 x235000 x235001 x235002 x235003) else (serinettelaw19_PresetChoices.j2 k x1 x9 x11 false x234000 x234001 x234002 x234003 x234004 x234005 x234006 x234007 x235000 x235001 x235002 x235003)) else (none)) else (none)) else (serinettelaw19_PresetChoices.j2 k x1 x9 x11 (!(bt245.1 == 0) || (!(bt245.2.1 == 0) || (!(bt245.2.2.1 == 0) || (!(bt245.2.2.2.1 == 0))))) x234000 x234001 x234002 x234003 x234004 x234005 x234006 x234007 x235000 x235001 x235002 x235003))) else (if (bt245.2.2.2.2 != false) = true then (serinettelaw19_PresetChoices.j2 k x1 x9 x11 true x234000 x234001 x234002 x234003 x234004 x234005 x234006 x234007 x235000 x235001 x235002 x235003) else (if bt245.2.2.2.2 = true then (if 0 ≤ x2 then (if x2 < (x11.length : Int) then (if (!(bt245.1 == ((rd_T35 x11 x2).f0)) || (!(bt245.2.1 == ((rd_T35 x11 x2).f1)) || (!(bt245.2.2.1 == ((rd_T35 x11 x2).f2)) || (!(bt245.2.2.2.1 == ((rd_T35 x11 x2).f3)))))) = true then (serinettelaw19_PresetChoices.j2 k x1 x9 x11 true x234000 x234001 x234002 x234003 x234004 x234005 x234006 x234007 x235000 x235001 x235002 x235003) else (serinettelaw19_PresetChoices.j2 k x1 x9 x11 false x234000 x234001 x234002 x234003 x234004 x234005 x234006 x234007 x235000 x235001 x235002 x235003)) else (none)) else (none)) else (serinettelaw19_PresetChoices.j2 k x1 x9 x11 (!(bt245.1 == 0) || (!(bt245.2.1 == 0) || (!(bt245.2.2.1 == 0) || (!(bt245.2.2.2.1 == 0))))) x234000 x234001 x234002 x234003 x234004 x234005 x234006 x234007 x235000 x235001 x235002 x235003)))))
def serinettelaw19_PresetChoices.j2 : Nat → Int → Bool → List (S35) → Bool → Int → Bool → Int → Int → List Int → List Int → Int → Bool → Int → Int → Int → Int → Option (Bool)
  | 0, _, _, _, _, _, _, _, _, _, _, _, _, _, _, _, _ => none
  | k + 1, x1, x9, x11, x80, x234000, x234001, x234002, x234003, x234004, x234005, x234006, x234007, x235000, x235001, x235002, x235003 => if x80 = true then (some false) else ((preset_Index.f k x234000 x234001 x234002 x234003 x234004 x234005 x234006 x234007 x1 x235000 x235001 x235002 x235003).bind fun bt253 => ((serinetteref19_At.f k x11 x235000 x235001 x235002 x235003).bind fun t255 => (if x9 = true then (if (bt253.2 == (decide (t255 ≥ 0))) = true then (some (bt253.1 == (mx t255 0))) else (some false)) else (some false))))
end
def serinettelaw19_PresetChoices.f (k : Nat) (a0_0 : Int) (a0_1 : Bool) (a0_2 : Int) (a0_3 : Int) (l0_4 : List Int) (l0_5 : List Int) (a0_6 : Int) (a0_7 : Bool) (a1 : Int) (a2 : Int) (a3_0 : Int) (a3_1 : Int) (a3_2 : Int) (a3_3 : Int) : Option (Bool) := (serinettelaw19_awake.f k).bind fun t235 => ((serinetteref19_Check.f k a0_0 a0_1 a0_2 a0_3 l0_4 l0_5 a0_6 a0_7).bind fun t236 => (if t236 = 0 then (serinettelaw19_PresetChoices.j0 k a1 a2 t235 (decide (a1 > 100)) a0_0 a0_1 a0_2 a0_3 l0_4 l0_5 a0_6 a0_7 a3_0 a3_1 a3_2 a3_3) else (serinettelaw19_PresetChoices.j0 k a1 a2 t235 true a0_0 a0_1 a0_2 a0_3 l0_4 l0_5 a0_6 a0_7 a3_0 a3_1 a3_2 a3_3)))
theorem serinettelaw19_PresetChoices.mono_l : ∀ k, (∀ y0 y1 y2 y3 y4 y5 y6 y7 y8 y9 y10 y11 y12 y13 y14 y15, LeO (serinettelaw19_PresetChoices.j0 k y0 y1 y2 y3 y4 y5 y6 y7 y8 y9 y10 y11 y12 y13 y14 y15) (serinettelaw19_PresetChoices.j0 (k + 1) y0 y1 y2 y3 y4 y5 y6 y7 y8 y9 y10 y11 y12 y13 y14 y15)) ∧ (∀ y0 y1 y2 y3 y4 y5 y6 y7 y8 y9 y10 y11 y12 y13 y14 y15 y16, LeO (serinettelaw19_PresetChoices.j1 k y0 y1 y2 y3 y4 y5 y6 y7 y8 y9 y10 y11 y12 y13 y14 y15 y16) (serinettelaw19_PresetChoices.j1 (k + 1) y0 y1 y2 y3 y4 y5 y6 y7 y8 y9 y10 y11 y12 y13 y14 y15 y16)) ∧ (∀ y0 y1 y2 y3 y4 y5 y6 y7 y8 y9 y10 y11 y12 y13 y14 y15, LeO (serinettelaw19_PresetChoices.j2 k y0 y1 y2 y3 y4 y5 y6 y7 y8 y9 y10 y11 y12 y13 y14 y15) (serinettelaw19_PresetChoices.j2 (k + 1) y0 y1 y2 y3 y4 y5 y6 y7 y8 y9 y10 y11 y12 y13 y14 y15))
  | 0 => ⟨fun _ _ _ _ _ _ _ _ _ _ _ _ _ _ _ _ r h => by simp [serinettelaw19_PresetChoices.j0] at h, fun _ _ _ _ _ _ _ _ _ _ _ _ _ _ _ _ _ r h => by simp [serinettelaw19_PresetChoices.j1] at h, fun _ _ _ _ _ _ _ _ _ _ _ _ _ _ _ _ r h => by simp [serinettelaw19_PresetChoices.j2] at h⟩
  | k + 1 => by
    obtain ⟨ih0, ih1, ih2⟩ := serinettelaw19_PresetChoices.mono_l k
    refine ⟨?_, ?_, ?_⟩
    · intro y0 y1 y2 y3 y4 y5 y6 y7 y8 y9 y10 y11 y12 y13 y14 y15
      unfold serinettelaw19_PresetChoices.j0
      repeat' first
      | (with_reducible exact ih0 _ _ _ _ _ _ _ _ _ _ _ _ _ _ _ _)
      | (with_reducible exact ih1 _ _ _ _ _ _ _ _ _ _ _ _ _ _ _ _ _)
      | (with_reducible exact ih2 _ _ _ _ _ _ _ _ _ _ _ _ _ _ _ _)
      | (with_reducible exact preset_All.mono _ _ _ _ _ _ _ _ _ _)
      | (with_reducible exact preset_At.mono _ _ _ _ _ _ _ _ _ _ _)
      | (with_reducible exact preset_Index.mono _ _ _ _ _ _ _ _ _ _ _ _ _ _)
      | (with_reducible exact serinettelaw19_awake.mono _)
      | (with_reducible exact serinetteref19_All.mono _ _ _ _ _ _ _ _ _ _)
      | (with_reducible exact serinetteref19_At.mono _ _ _ _ _ _)
      | (with_reducible exact serinetteref19_Check.mono _ _ _ _ _ _ _ _ _)
      | (with_reducible exact serinetteref19_Same.mono _ _ _)
      | (with_reducible exact LeO.refl _)
      | (with_reducible exact LeO.none _)
      | (with_reducible refine LeO.ite ?_ ?_)
      | (with_reducible refine LeO.bind ?_ (fun _ => ?_))
      | exact ih0 _ _ _ _ _ _ _ _ _ _ _ _ _ _ _ _
      | exact ih1 _ _ _ _ _ _ _ _ _ _ _ _ _ _ _ _ _
      | exact ih2 _ _ _ _ _ _ _ _ _ _ _ _ _ _ _ _
      | exact preset_All.mono _ _ _ _ _ _ _ _ _ _
      | exact preset_At.mono _ _ _ _ _ _ _ _ _ _ _
      | exact preset_Index.mono _ _ _ _ _ _ _ _ _ _ _ _ _ _
      | exact serinettelaw19_awake.mono _
      | exact serinetteref19_All.mono _ _ _ _ _ _ _ _ _ _
      | exact serinetteref19_At.mono _ _ _ _ _ _
      | exact serinetteref19_Check.mono _ _ _ _ _ _ _ _ _
      | exact serinetteref19_Same.mono _ _ _
      | exact LeO.none _
      | refine LeO.ite ?_ ?_
      | refine LeO.bind ?_ (fun _ => ?_)
    · intro y0 y1 y2 y3 y4 y5 y6 y7 y8 y9 y10 y11 y12 y13 y14 y15 y16
      unfold serinettelaw19_PresetChoices.j1
      repeat' first
      | (with_reducible exact ih0 _ _ _ _ _ _ _ _ _ _ _ _ _ _ _ _)
      | (with_reducible exact ih1 _ _ _ _ _ _ _ _ _ _ _ _ _ _ _ _ _)
      | (with_reducible exact ih2 _ _ _ _ _ _ _ _ _ _ _ _ _ _ _ _)
      | (with_reducible exact preset_All.mono _ _ _ _ _ _ _ _ _ _)
      | (with_reducible exact preset_At.mono _ _ _ _ _ _ _ _ _ _ _)
      | (with_reducible exact preset_Index.mono _ _ _ _ _ _ _ _ _ _ _ _ _ _)
      | (with_reducible exact serinettelaw19_awake.mono _)
      | (with_reducible exact serinetteref19_All.mono _ _ _ _ _ _ _ _ _ _)
      | (with_reducible exact serinetteref19_At.mono _ _ _ _ _ _)
      | (with_reducible exact serinetteref19_Check.mono _ _ _ _ _ _ _ _ _)
      | (with_reducible exact serinetteref19_Same.mono _ _ _)
      | (with_reducible exact LeO.refl _)
      | (with_reducible exact LeO.none _)
      | (with_reducible refine LeO.ite ?_ ?_)
      | (with_reducible refine LeO.bind ?_ (fun _ => ?_))
      | exact ih0 _ _ _ _ _ _ _ _ _ _ _ _ _ _ _ _
      | exact ih1 _ _ _ _ _ _ _ _ _ _ _ _ _ _ _ _ _
      | exact ih2 _ _ _ _ _ _ _ _ _ _ _ _ _ _ _ _
      | exact preset_All.mono _ _ _ _ _ _ _ _ _ _
      | exact preset_At.mono _ _ _ _ _ _ _ _ _ _ _
      | exact preset_Index.mono _ _ _ _ _ _ _ _ _ _ _ _ _ _
      | exact serinettelaw19_awake.mono _
      | exact serinetteref19_All.mono _ _ _ _ _ _ _ _ _ _
      | exact serinetteref19_At.mono _ _ _ _ _ _
      | exact serinetteref19_Check.mono _ _ _ _ _ _ _ _ _
      | exact serinetteref19_Same.mono _ _ _
      | exact LeO.none _
      | refine LeO.ite ?_ ?_
      | refine LeO.bind ?_ (fun _ => ?_)
    · intro y0 y1 y2 y3 y4 y5 y6 y7 y8 y9 y10 y11 y12 y13 y14 y15
      unfold serinettelaw19_PresetChoices.j2
      repeat' first
      | (with_reducible exact ih0 _ _ _ _ _ _ _ _ _ _ _ _ _ _ _ _)
      | (with_reducible exact ih1 _ _ _ _ _ _ _ _ _ _ _ _ _ _ _ _ _)
      | (with_reducible exact ih2 _ _ _ _ _ _ _ _ _ _ _ _ _ _ _ _)
      | (with_reducible exact preset_All.mono _ _ _ _ _ _ _ _ _ _)
      | (with_reducible exact preset_At.mono _ _ _ _ _ _ _ _ _ _ _)
      | (with_reducible exact preset_Index.mono _ _ _ _ _ _ _ _ _ _ _ _ _ _)
      | (with_reducible exact serinettelaw19_awake.mono _)
      | (with_reducible exact serinetteref19_All.mono _ _ _ _ _ _ _ _ _ _)
      | (with_reducible exact serinetteref19_At.mono _ _ _ _ _ _)
      | (with_reducible exact serinetteref19_Check.mono _ _ _ _ _ _ _ _ _)
      | (with_reducible exact serinetteref19_Same.mono _ _ _)
      | (with_reducible exact LeO.refl _)
      | (with_reducible exact LeO.none _)
      | (with_reducible refine LeO.ite ?_ ?_)
      | (with_reducible refine LeO.bind ?_ (fun _ => ?_))
      | exact ih0 _ _ _ _ _ _ _ _ _ _ _ _ _ _ _ _
      | exact ih1 _ _ _ _ _ _ _ _ _ _ _ _ _ _ _ _ _
      | exact ih2 _ _ _ _ _ _ _ _ _ _ _ _ _ _ _ _
      | exact preset_All.mono _ _ _ _ _ _ _ _ _ _
      | exact preset_At.mono _ _ _ _ _ _ _ _ _ _ _
      | exact preset_Index.mono _ _ _ _ _ _ _ _ _ _ _ _ _ _
      | exact serinettelaw19_awake.mono _
      | exact serinetteref19_All.mono _ _ _ _ _ _ _ _ _ _
      | exact serinetteref19_At.mono _ _ _ _ _ _
      | exact serinetteref19_Check.mono _ _ _ _ _ _ _ _ _
      | exact serinetteref19_Same.mono _ _ _
      | exact LeO.none _
      | refine LeO.ite ?_ ?_
      | refine LeO.bind ?_ (fun _ => ?_)
theorem serinettelaw19_PresetChoices.mono : ∀ a0 a1 a2 a3 a4 a5 a6 a7 a8 a9 a10 a11 a12 a13 k, LeO (serinettelaw19_PresetChoices.f k a0 a1 a2 a3 a4 a5 a6 a7 a8 a9 a10 a11 a12 a13) (serinettelaw19_PresetChoices.f (k + 1) a0 a1 a2 a3 a4 a5 a6 a7 a8 a9 a10 a11 a12 a13) := by
  intro a0 a1 a2 a3 a4 a5 a6 a7 a8 a9 a10 a11 a12 a13 k
  obtain ⟨ih0, ih1, ih2⟩ := serinettelaw19_PresetChoices.mono_l k
  unfold serinettelaw19_PresetChoices.f
  repeat' first
      | (with_reducible exact ih0 _ _ _ _ _ _ _ _ _ _ _ _ _ _ _ _)
      | (with_reducible exact ih1 _ _ _ _ _ _ _ _ _ _ _ _ _ _ _ _ _)
      | (with_reducible exact ih2 _ _ _ _ _ _ _ _ _ _ _ _ _ _ _ _)
      | (with_reducible exact preset_All.mono _ _ _ _ _ _ _ _ _ _)
      | (with_reducible exact preset_At.mono _ _ _ _ _ _ _ _ _ _ _)
      | (with_reducible exact preset_Index.mono _ _ _ _ _ _ _ _ _ _ _ _ _ _)
      | (with_reducible exact serinettelaw19_awake.mono _)
      | (with_reducible exact serinetteref19_All.mono _ _ _ _ _ _ _ _ _ _)
      | (with_reducible exact serinetteref19_At.mono _ _ _ _ _ _)
      | (with_reducible exact serinetteref19_Check.mono _ _ _ _ _ _ _ _ _)
      | (with_reducible exact serinetteref19_Same.mono _ _ _)
      | (with_reducible exact LeO.refl _)
      | (with_reducible exact LeO.none _)
      | (with_reducible refine LeO.ite ?_ ?_)
      | (with_reducible refine LeO.bind ?_ (fun _ => ?_))
      | exact ih0 _ _ _ _ _ _ _ _ _ _ _ _ _ _ _ _
      | exact ih1 _ _ _ _ _ _ _ _ _ _ _ _ _ _ _ _ _
      | exact ih2 _ _ _ _ _ _ _ _ _ _ _ _ _ _ _ _
      | exact preset_All.mono _ _ _ _ _ _ _ _ _ _
      | exact preset_At.mono _ _ _ _ _ _ _ _ _ _ _
      | exact preset_Index.mono _ _ _ _ _ _ _ _ _ _ _ _ _ _
      | exact serinettelaw19_awake.mono _
      | exact serinetteref19_All.mono _ _ _ _ _ _ _ _ _ _
      | exact serinetteref19_At.mono _ _ _ _ _ _
      | exact serinetteref19_Check.mono _ _ _ _ _ _ _ _ _
      | exact serinetteref19_Same.mono _ _ _
      | exact LeO.none _
      | refine LeO.ite ?_ ?_
      | refine LeO.bind ?_ (fun _ => ?_)
set_option maxHeartbeats 8000000 in
set_option maxRecDepth 100000 in
theorem serinettelaw19_PresetChoices.calls (k : Nat) (a0_0 : Int) (a0_1 : Bool) (a0_2 : Int) (a0_3 : Int) (A0_4 : Option Addr) (c0_4 : Nat) (l0_4 : List Int) (A0_5 : Option Addr) (c0_5 : Nat) (l0_5 : List Int) (a0_6 : Int) (a0_7 : Bool) (a1 : Int) (a2 : Int) (a3_0 : Int) (a3_1 : Int) (a3_2 : Int) (a3_3 : Int) (r : Bool) (w : World) (hr0_4 : Kd.C (Kd.int .i64) w A0_4 l0_4.length l0_4) (hc0_4 : l0_4.length ≤ c0_4) (hr0_5 : Kd.C (Kd.int .i64) w A0_5 l0_5.length l0_5) (hc0_5 : l0_5.length ≤ c0_5) (hrG0 : Kd.C k48 w (some ⟨0, 0, none⟩) TAB0.length TAB0) (h : serinettelaw19_PresetChoices.f k a0_0 a0_1 a0_2 a0_3 l0_4 l0_5 a0_6 a0_7 a1 a2 a3_0 a3_1 a3_2 a3_3 = some r) :
    Calls Tryd.prog 5 #[.agg #[.int .i64 a0_0, .bool a0_1, .int .i64 a0_2, .int .i64 a0_3, .slice A0_4 l0_4.length c0_4, .slice A0_5 l0_5.length c0_5, .int .i64 a0_6, .bool a0_7], .int .i64 a1, .int .i64 a2, .agg #[.int .i64 a3_0, .int .i64 a3_1, .int .i64 a3_2, .int .i64 a3_3]] w fun e w' => e = .returned (.bool r) ∧ Below w.heap.size w w' := by
  have hu24 := Tryd.underlying24
  have hu35 := Tryd.underlying35
  have HRG0 := Aside0.mk hrG0
  clear hrG0
  have HR0_4 := Aside0.mk hr0_4
  have HC0_4 := Aside0.mk hc0_4
  clear hr0_4 hc0_4
  have HR0_5 := Aside0.mk hr0_5
  have HC0_5 := Aside0.mk hc0_5
  clear hr0_5 hc0_5
  have HB := Aside0.mk (Below.refl w.heap.size w)
  have H : ((serinettelaw19_awake.f k).bind fun t235 => ((serinetteref19_Check.f k a0_0 a0_1 a0_2 a0_3 l0_4 l0_5 a0_6 a0_7).bind fun t236 => (if t236 = 0 then (serinettelaw19_PresetChoices.j0 k a1 a2 t235 (decide (a1 > 100)) a0_0 a0_1 a0_2 a0_3 l0_4 l0_5 a0_6 a0_7 a3_0 a3_1 a3_2 a3_3) else (serinettelaw19_PresetChoices.j0 k a1 a2 t235 true a0_0 a0_1 a0_2 a0_3 l0_4 l0_5 a0_6 a0_7 a3_0 a3_1 a3_2 a3_3)))) = some r := h
  clear h
  replace H := Option.bind_eq_some_iff.mp H
  obtain ⟨t235, A50, H⟩ := H
  replace H : ((serinetteref19_Check.f k a0_0 a0_1 a0_2 a0_3 l0_4 l0_5 a0_6 a0_7).bind fun t236 => (if t236 = 0 then (serinettelaw19_PresetChoices.j0 k a1 a2 t235 (decide (a1 > 100)) a0_0 a0_1 a0_2 a0_3 l0_4 l0_5 a0_6 a0_7 a3_0 a3_1 a3_2 a3_3) else (serinettelaw19_PresetChoices.j0 k a1 a2 t235 true a0_0 a0_1 a0_2 a0_3 l0_4 l0_5 a0_6 a0_7 a3_0 a3_1 a3_2 a3_3))) = some r := H
  have A5 := Aside0.mk A50
  clear A50
  replace H := Option.bind_eq_some_iff.mp H
  obtain ⟨t236, A60, H⟩ := H
  replace H : (if t236 = 0 then (serinettelaw19_PresetChoices.j0 k a1 a2 t235 (decide (a1 > 100)) a0_0 a0_1 a0_2 a0_3 l0_4 l0_5 a0_6 a0_7 a3_0 a3_1 a3_2 a3_3) else (serinettelaw19_PresetChoices.j0 k a1 a2 t235 true a0_0 a0_1 a0_2 a0_3 l0_4 l0_5 a0_6 a0_7 a3_0 a3_1 a3_2 a3_3)) = some r := H
  have A6 := Aside0.mk A60
  clear A60
  have HC7 := Aside0.mk H
  clear H
  go_enter Tryd.func5, Tryd.ntmps5
  go_upto_region 3 with (first | ((with_reducible refine gate_dst (N := 4) rfl ?_); (try (refine gate_guard (by rfl) ?_; dsimp only)); refine box_event ?hg (N := 4) ?hd (cs := #[.int .i64 a0_0, .bool a0_1, .int .i64 a0_2, .int .i64 a0_3, .slice A0_4 l0_4.length c0_4, .slice A0_5 l0_5.length c0_5, .int .i64 a0_6, .bool a0_7]) (t := 24) ?hr ?_; (case hd => rfl); (case hg => rfl); (case hr => first | (go_simp; done) | (go_simp; rfl)); intro gb233 hg w8 hbox hb; have n0_ := Aside0.mk (below_step (by repeat (first | (with_reducible first | exact HB.out | apply below_alloc | apply pw_below_drewN | apply below_drew1) | exact HB.out)) hb); have n1_ := Aside0.mk (hbox); have n2_ := Aside0.mk ((by rw [hg]; exact (below_size (by repeat (first | (with_reducible first | exact HB.out | apply below_alloc | apply pw_below_drewN | apply below_drew1) | exact HB.out))) : w.heap.size ≤ gb233)); have n3_ := Aside0.mk ((by rw [hg]; exact (below_size (by repeat (first | (with_reducible first | exact HB.out | apply below_alloc | apply pw_below_drewN | apply below_drew1) | exact HB.out))) : w.heap.size ≤ gb233)); clear HB; have HB := n0_; have BK233 := n1_; have GW233 := n2_; have GE233 := n3_; clear n0_ n1_ n2_ n3_; clear hb hbox hg) | ((with_reducible refine gate_dst (N := 7) rfl ?_); (try (refine gate_guard (by rfl) ?_; dsimp only)); refine box_event ?hg (N := 7) ?hd (cs := #[.int .i64 a3_0, .int .i64 a3_1, .int .i64 a3_2, .int .i64 a3_3]) (t := 35) ?hr ?_; (case hd => rfl); (case hg => rfl); (case hr => first | (go_simp; done) | (go_simp; rfl)); intro gb234 hg w9 hbox hb; have n0_ := Aside0.mk (blk_below (g := gb233) (o := .cells #[.int .i64 a0_0, .bool a0_1, .int .i64 a0_2, .int .i64 a0_3, .slice A0_4 l0_4.length c0_4, .slice A0_5 l0_5.length c0_5, .int .i64 a0_6, .bool a0_7] 24 (0, 0)) (by (with_reducible repeat (first | refine blk_drewN ?_ _ | refine blk_drew ?_ | refine blk_alloc ?_ _)); exact BK233.out) hb); have n1_ := Aside0.mk (below_step (by repeat (first | (with_reducible first | exact HB.out | apply below_alloc | apply pw_below_drewN | apply below_drew1 | refine below_set ?_ GE233.out) | exact HB.out)) hb); have n2_ := Aside0.mk (hbox); have n3_ := Aside0.mk ((by rw [hg]; exact (below_size (by repeat (first | (with_reducible first | exact HB.out | apply below_alloc | apply pw_below_drewN | apply below_drew1 | refine below_set ?_ GE233.out) | exact HB.out))) : w.heap.size ≤ gb234)); have n4_ := Aside0.mk ((by rw [hg]; exact (below_size (by repeat (first | (with_reducible first | exact HB.out | apply below_alloc | apply pw_below_drewN | apply below_drew1 | refine below_set ?_ GE233.out) | exact HB.out))) : w.heap.size ≤ gb234)); have n5_ := Aside0.mk ((by rw [hg]; exact Nat.ne_of_lt (blk_lt (g := gb233) (o := .cells #[.int .i64 a0_0, .bool a0_1, .int .i64 a0_2, .int .i64 a0_3, .slice A0_4 l0_4.length c0_4, .slice A0_5 l0_5.length c0_5, .int .i64 a0_6, .bool a0_7] 24 (0, 0)) (by (with_reducible repeat (first | refine blk_drewN ?_ _ | refine blk_drew ?_ | refine blk_alloc ?_ _)); exact BK233.out)) : gb233 ≠ gb234)); have n6_ := Aside0.mk ((by rw [hg]; exact Nat.ne_of_gt (blk_lt (g := gb233) (o := .cells #[.int .i64 a0_0, .bool a0_1, .int .i64 a0_2, .int .i64 a0_3, .slice A0_4 l0_4.length c0_4, .slice A0_5 l0_5.length c0_5, .int .i64 a0_6, .bool a0_7] 24 (0, 0)) (by (with_reducible repeat (first | refine blk_drewN ?_ _ | refine blk_drew ?_ | refine blk_alloc ?_ _)); exact BK233.out)) : gb234 ≠ gb233)); clear BK233; clear HB; have BK233 := n0_; have HB := n1_; have BK234 := n2_; have GW234 := n3_; have GE234 := n4_; have NB233_234 := n5_; have NB234_233 := n6_; clear n0_ n1_ n2_ n3_ n4_ n5_ n6_; clear hb hbox hg) | (go_at_call 8; (with_reducible refine (serinettelaw19_awake.calls k  t235 _ ?side1 A5.out).mono ?_); (case side1 => repeat (first | exact (Kd.C_below HRG0.out HB.out) | (with_reducible refine Kd.C_alloc ?_ _) | (with_reducible refine Kd.C_drewN ?_ _) | (with_reducible refine Kd.C_drew ?_))); rintro e w10 ⟨rfl, hb⟩; have n0_ := Aside0.mk (blk_below (g := gb233) (o := .cells #[.int .i64 a0_0, .bool a0_1, .int .i64 a0_2, .int .i64 a0_3, .slice A0_4 l0_4.length c0_4, .slice A0_5 l0_5.length c0_5, .int .i64 a0_6, .bool a0_7] 24 (0, 0)) (by (with_reducible repeat (first | refine blk_drewN ?_ _ | refine blk_drew ?_ | refine blk_alloc ?_ _)); exact BK233.out) hb); have n1_ := Aside0.mk (blk_below (g := gb234) (o := .cells #[.int .i64 a3_0, .int .i64 a3_1, .int .i64 a3_2, .int .i64 a3_3] 35 (0, 0)) (by (with_reducible repeat (first | refine blk_drewN ?_ _ | refine blk_drew ?_ | refine blk_alloc ?_ _)); exact BK234.out) hb); have n2_ := Aside0.mk (below_step (by repeat (first | (with_reducible first | exact HB.out | apply below_alloc | apply pw_below_drewN | apply below_drew1 | refine below_set ?_ GE233.out | refine below_set ?_ GE234.out) | exact HB.out)) hb); clear BK233; clear BK234; clear HB; have BK233 := n0_; have BK234 := n1_; have HB := n2_; clear n0_ n1_ n2_; (try clear hb); (try clear hb2); (try clear hk); (try clear hi); have hnb11 := NB233_234.out; have hnc11 := NB234_233.out; have hcz12_0 : w10.cell? ⟨gb233, 0, none⟩ = some (.int .i64 a0_0) := (blk_cell BK233.out 0).trans rfl; have hcz12_1 : w10.cell? ⟨gb233, 1, none⟩ = some (.bool a0_1) := (blk_cell BK233.out 1).trans rfl; have hcz12_2 : w10.cell? ⟨gb233, 2, none⟩ = some (.int .i64 a0_2) := (blk_cell BK233.out 2).trans rfl; have hcz12_3 : w10.cell? ⟨gb233, 3, none⟩ = some (.int .i64 a0_3) := (blk_cell BK233.out 3).trans rfl; have hcz12_4 : w10.cell? ⟨gb233, 4, none⟩ = some (.slice A0_4 l0_4.length c0_4) := (blk_cell BK233.out 4).trans rfl; have hcz12_5 : w10.cell? ⟨gb233, 5, none⟩ = some (.slice A0_5 l0_5.length c0_5) := (blk_cell BK233.out 5).trans rfl; have hcz12_6 : w10.cell? ⟨gb233, 6, none⟩ = some (.int .i64 a0_6) := (blk_cell BK233.out 6).trans rfl; have hcz12_7 : w10.cell? ⟨gb233, 7, none⟩ = some (.bool a0_7) := (blk_cell BK233.out 7).trans rfl; have hfz12_0 := blk_frozen BK233.out 0; have hfz12_1 := blk_frozen BK233.out 1; have hfz12_2 := blk_frozen BK233.out 2; have hfz12_3 := blk_frozen BK233.out 3; have hfz12_4 := blk_frozen BK233.out 4; have hfz12_5 := blk_frozen BK233.out 5; have hfz12_6 := blk_frozen BK233.out 6; have hfz12_7 := blk_frozen BK233.out 7) | (go_at_call 13; (with_reducible refine (serinetteref19_Check.calls k a0_0 a0_1 a0_2 a0_3 _ _ l0_4 _ _ l0_5 a0_6 a0_7 t236 _ ?side1 ?side2 ?side3 ?side4 A6.out).mono ?_); (case side1 => repeat (first | exact (Kd.C_below HR0_4.out HB.out) | (with_reducible refine Kd.C_alloc ?_ _) | (with_reducible refine Kd.C_drewN ?_ _) | (with_reducible refine Kd.C_drew ?_))); (case side2 => exact HC0_4.out); (case side3 => repeat (first | exact (Kd.C_below HR0_5.out HB.out) | (with_reducible refine Kd.C_alloc ?_ _) | (with_reducible refine Kd.C_drewN ?_ _) | (with_reducible refine Kd.C_drew ?_))); (case side4 => exact HC0_5.out); rintro e w13 ⟨rfl, hb⟩; have n0_ := Aside0.mk (blk_below (g := gb233) (o := .cells #[.int .i64 a0_0, .bool a0_1, .int .i64 a0_2, .int .i64 a0_3, .slice A0_4 l0_4.length c0_4, .slice A0_5 l0_5.length c0_5, .int .i64 a0_6, .bool a0_7] 24 (0, 0)) (by (with_reducible repeat (first | refine blk_drewN ?_ _ | refine blk_drew ?_ | refine blk_alloc ?_ _)); exact BK233.out) hb); have n1_ := Aside0.mk (blk_below (g := gb234) (o := .cells #[.int .i64 a3_0, .int .i64 a3_1, .int .i64 a3_2, .int .i64 a3_3] 35 (0, 0)) (by (with_reducible repeat (first | refine blk_drewN ?_ _ | refine blk_drew ?_ | refine blk_alloc ?_ _)); exact BK234.out) hb); have n2_ := Aside0.mk (below_step (by repeat (first | (with_reducible first | exact HB.out | apply below_alloc | apply pw_below_drewN | apply below_drew1 | refine below_set ?_ GE233.out | refine below_set ?_ GE234.out) | exact HB.out)) hb); clear BK233; clear BK234; clear HB; have BK233 := n0_; have BK234 := n1_; have HB := n2_; clear n0_ n1_ n2_; (try clear hb); (try clear hb2); (try clear hk); (try clear hi)))
  repeat (go_quiet (first | ((with_reducible refine gate_dst (N := 4) rfl ?_); (try (refine gate_guard (by rfl) ?_; dsimp only)); refine box_event ?hg (N := 4) ?hd (cs := #[.int .i64 a0_0, .bool a0_1, .int .i64 a0_2, .int .i64 a0_3, .slice A0_4 l0_4.length c0_4, .slice A0_5 l0_5.length c0_5, .int .i64 a0_6, .bool a0_7]) (t := 24) ?hr ?_; (case hd => rfl); (case hg => rfl); (case hr => first | (go_simp; done) | (go_simp; rfl)); intro gb233 hg w8 hbox hb; have n0_ := Aside0.mk (below_step (by repeat (first | (with_reducible first | exact HB.out | apply below_alloc | apply pw_below_drewN | apply below_drew1) | exact HB.out)) hb); have n1_ := Aside0.mk (hbox); have n2_ := Aside0.mk ((by rw [hg]; exact (below_size (by repeat (first | (with_reducible first | exact HB.out | apply below_alloc | apply pw_below_drewN | apply below_drew1) | exact HB.out))) : w.heap.size ≤ gb233)); have n3_ := Aside0.mk ((by rw [hg]; exact (below_size (by repeat (first | (with_reducible first | exact HB.out | apply below_alloc | apply pw_below_drewN | apply below_drew1) | exact HB.out))) : w.heap.size ≤ gb233)); clear HB; have HB := n0_; have BK233 := n1_; have GW233 := n2_; have GE233 := n3_; clear n0_ n1_ n2_ n3_; clear hb hbox hg) | ((with_reducible refine gate_dst (N := 7) rfl ?_); (try (refine gate_guard (by rfl) ?_; dsimp only)); refine box_event ?hg (N := 7) ?hd (cs := #[.int .i64 a3_0, .int .i64 a3_1, .int .i64 a3_2, .int .i64 a3_3]) (t := 35) ?hr ?_; (case hd => rfl); (case hg => rfl); (case hr => first | (go_simp; done) | (go_simp; rfl)); intro gb234 hg w9 hbox hb; have n0_ := Aside0.mk (blk_below (g := gb233) (o := .cells #[.int .i64 a0_0, .bool a0_1, .int .i64 a0_2, .int .i64 a0_3, .slice A0_4 l0_4.length c0_4, .slice A0_5 l0_5.length c0_5, .int .i64 a0_6, .bool a0_7] 24 (0, 0)) (by (with_reducible repeat (first | refine blk_drewN ?_ _ | refine blk_drew ?_ | refine blk_alloc ?_ _)); exact BK233.out) hb); have n1_ := Aside0.mk (below_step (by repeat (first | (with_reducible first | exact HB.out | apply below_alloc | apply pw_below_drewN | apply below_drew1 | refine below_set ?_ GE233.out) | exact HB.out)) hb); have n2_ := Aside0.mk (hbox); have n3_ := Aside0.mk ((by rw [hg]; exact (below_size (by repeat (first | (with_reducible first | exact HB.out | apply below_alloc | apply pw_below_drewN | apply below_drew1 | refine below_set ?_ GE233.out) | exact HB.out))) : w.heap.size ≤ gb234)); have n4_ := Aside0.mk ((by rw [hg]; exact (below_size (by repeat (first | (with_reducible first | exact HB.out | apply below_alloc | apply pw_below_drewN | apply below_drew1 | refine below_set ?_ GE233.out) | exact HB.out))) : w.heap.size ≤ gb234)); have n5_ := Aside0.mk ((by rw [hg]; exact Nat.ne_of_lt (blk_lt (g := gb233) (o := .cells #[.int .i64 a0_0, .bool a0_1, .int .i64 a0_2, .int .i64 a0_3, .slice A0_4 l0_4.length c0_4, .slice A0_5 l0_5.length c0_5, .int .i64 a0_6, .bool a0_7] 24 (0, 0)) (by (with_reducible repeat (first | refine blk_drewN ?_ _ | refine blk_drew ?_ | refine blk_alloc ?_ _)); exact BK233.out)) : gb233 ≠ gb234)); have n6_ := Aside0.mk ((by rw [hg]; exact Nat.ne_of_gt (blk_lt (g := gb233) (o := .cells #[.int .i64 a0_0, .bool a0_1, .int .i64 a0_2, .int .i64 a0_3, .slice A0_4 l0_4.length c0_4, .slice A0_5 l0_5.length c0_5, .int .i64 a0_6, .bool a0_7] 24 (0, 0)) (by (with_reducible repeat (first | refine blk_drewN ?_ _ | refine blk_drew ?_ | refine blk_alloc ?_ _)); exact BK233.out)) : gb234 ≠ gb233)); clear BK233; clear HB; have BK233 := n0_; have HB := n1_; have BK234 := n2_; have GW234 := n3_; have GE234 := n4_; have NB233_234 := n5_; have NB234_233 := n6_; clear n0_ n1_ n2_ n3_ n4_ n5_ n6_; clear hb hbox hg) | (go_at_call 8; (with_reducible refine (serinettelaw19_awake.calls k  t235 _ ?side1 A5.out).mono ?_); (case side1 => repeat (first | exact (Kd.C_below HRG0.out HB.out) | (with_reducible refine Kd.C_alloc ?_ _) | (with_reducible refine Kd.C_drewN ?_ _) | (with_reducible refine Kd.C_drew ?_))); rintro e w10 ⟨rfl, hb⟩; have n0_ := Aside0.mk (blk_below (g := gb233) (o := .cells #[.int .i64 a0_0, .bool a0_1, .int .i64 a0_2, .int .i64 a0_3, .slice A0_4 l0_4.length c0_4, .slice A0_5 l0_5.length c0_5, .int .i64 a0_6, .bool a0_7] 24 (0, 0)) (by (with_reducible repeat (first | refine blk_drewN ?_ _ | refine blk_drew ?_ | refine blk_alloc ?_ _)); exact BK233.out) hb); have n1_ := Aside0.mk (blk_below (g := gb234) (o := .cells #[.int .i64 a3_0, .int .i64 a3_1, .int .i64 a3_2, .int .i64 a3_3] 35 (0, 0)) (by (with_reducible repeat (first | refine blk_drewN ?_ _ | refine blk_drew ?_ | refine blk_alloc ?_ _)); exact BK234.out) hb); have n2_ := Aside0.mk (below_step (by repeat (first | (with_reducible first | exact HB.out | apply below_alloc | apply pw_below_drewN | apply below_drew1 | refine below_set ?_ GE233.out | refine below_set ?_ GE234.out) | exact HB.out)) hb); clear BK233; clear BK234; clear HB; have BK233 := n0_; have BK234 := n1_; have HB := n2_; clear n0_ n1_ n2_; (try clear hb); (try clear hb2); (try clear hk); (try clear hi); have hnb11 := NB233_234.out; have hnc11 := NB234_233.out; have hcz12_0 : w10.cell? ⟨gb233, 0, none⟩ = some (.int .i64 a0_0) := (blk_cell BK233.out 0).trans rfl; have hcz12_1 : w10.cell? ⟨gb233, 1, none⟩ = some (.bool a0_1) := (blk_cell BK233.out 1).trans rfl; have hcz12_2 : w10.cell? ⟨gb233, 2, none⟩ = some (.int .i64 a0_2) := (blk_cell BK233.out 2).trans rfl; have hcz12_3 : w10.cell? ⟨gb233, 3, none⟩ = some (.int .i64 a0_3) := (blk_cell BK233.out 3).trans rfl; have hcz12_4 : w10.cell? ⟨gb233, 4, none⟩ = some (.slice A0_4 l0_4.length c0_4) := (blk_cell BK233.out 4).trans rfl; have hcz12_5 : w10.cell? ⟨gb233, 5, none⟩ = some (.slice A0_5 l0_5.length c0_5) := (blk_cell BK233.out 5).trans rfl; have hcz12_6 : w10.cell? ⟨gb233, 6, none⟩ = some (.int .i64 a0_6) := (blk_cell BK233.out 6).trans rfl; have hcz12_7 : w10.cell? ⟨gb233, 7, none⟩ = some (.bool a0_7) := (blk_cell BK233.out 7).trans rfl; have hfz12_0 := blk_frozen BK233.out 0; have hfz12_1 := blk_frozen BK233.out 1; have hfz12_2 := blk_frozen BK233.out 2; have hfz12_3 := blk_frozen BK233.out 3; have hfz12_4 := blk_frozen BK233.out 4; have hfz12_5 := blk_frozen BK233.out 5; have hfz12_6 := blk_frozen BK233.out 6; have hfz12_7 := blk_frozen BK233.out 7) | (go_at_call 13; (with_reducible refine (serinetteref19_Check.calls k a0_0 a0_1 a0_2 a0_3 _ _ l0_4 _ _ l0_5 a0_6 a0_7 t236 _ ?side1 ?side2 ?side3 ?side4 A6.out).mono ?_); (case side1 => repeat (first | exact (Kd.C_below HR0_4.out HB.out) | (with_reducible refine Kd.C_alloc ?_ _) | (with_reducible refine Kd.C_drewN ?_ _) | (with_reducible refine Kd.C_drew ?_))); (case side2 => exact HC0_4.out); (case side3 => repeat (first | exact (Kd.C_below HR0_5.out HB.out) | (with_reducible refine Kd.C_alloc ?_ _) | (with_reducible refine Kd.C_drewN ?_ _) | (with_reducible refine Kd.C_drew ?_))); (case side4 => exact HC0_5.out); rintro e w13 ⟨rfl, hb⟩; have n0_ := Aside0.mk (blk_below (g := gb233) (o := .cells #[.int .i64 a0_0, .bool a0_1, .int .i64 a0_2, .int .i64 a0_3, .slice A0_4 l0_4.length c0_4, .slice A0_5 l0_5.length c0_5, .int .i64 a0_6, .bool a0_7] 24 (0, 0)) (by (with_reducible repeat (first | refine blk_drewN ?_ _ | refine blk_drew ?_ | refine blk_alloc ?_ _)); exact BK233.out) hb); have n1_ := Aside0.mk (blk_below (g := gb234) (o := .cells #[.int .i64 a3_0, .int .i64 a3_1, .int .i64 a3_2, .int .i64 a3_3] 35 (0, 0)) (by (with_reducible repeat (first | refine blk_drewN ?_ _ | refine blk_drew ?_ | refine blk_alloc ?_ _)); exact BK234.out) hb); have n2_ := Aside0.mk (below_step (by repeat (first | (with_reducible first | exact HB.out | apply below_alloc | apply pw_below_drewN | apply below_drew1 | refine below_set ?_ GE233.out | refine below_set ?_ GE234.out) | exact HB.out)) hb); clear BK233; clear BK234; clear HB; have BK233 := n0_; have BK234 := n1_; have HB := n2_; clear n0_ n1_ n2_; (try clear hb); (try clear hb2); (try clear hk); (try clear hi))); go_upto_region 3 with (first | ((with_reducible refine gate_dst (N := 4) rfl ?_); (try (refine gate_guard (by rfl) ?_; dsimp only)); refine box_event ?hg (N := 4) ?hd (cs := #[.int .i64 a0_0, .bool a0_1, .int .i64 a0_2, .int .i64 a0_3, .slice A0_4 l0_4.length c0_4, .slice A0_5 l0_5.length c0_5, .int .i64 a0_6, .bool a0_7]) (t := 24) ?hr ?_; (case hd => rfl); (case hg => rfl); (case hr => first | (go_simp; done) | (go_simp; rfl)); intro gb233 hg w8 hbox hb; have n0_ := Aside0.mk (below_step (by repeat (first | (with_reducible first | exact HB.out | apply below_alloc | apply pw_below_drewN | apply below_drew1) | exact HB.out)) hb); have n1_ := Aside0.mk (hbox); have n2_ := Aside0.mk ((by rw [hg]; exact (below_size (by repeat (first | (with_reducible first | exact HB.out | apply below_alloc | apply pw_below_drewN | apply below_drew1) | exact HB.out))) : w.heap.size ≤ gb233)); have n3_ := Aside0.mk ((by rw [hg]; exact (below_size (by repeat (first | (with_reducible first | exact HB.out | apply below_alloc | apply pw_below_drewN | apply below_drew1) | exact HB.out))) : w.heap.size ≤ gb233)); clear HB; have HB := n0_; have BK233 := n1_; have GW233 := n2_; have GE233 := n3_; clear n0_ n1_ n2_ n3_; clear hb hbox hg) | ((with_reducible refine gate_dst (N := 7) rfl ?_); (try (refine gate_guard (by rfl) ?_; dsimp only)); refine box_event ?hg (N := 7) ?hd (cs := #[.int .i64 a3_0, .int .i64 a3_1, .int .i64 a3_2, .int .i64 a3_3]) (t := 35) ?hr ?_; (case hd => rfl); (case hg => rfl); (case hr => first | (go_simp; done) | (go_simp; rfl)); intro gb234 hg w9 hbox hb; have n0_ := Aside0.mk (blk_below (g := gb233) (o := .cells #[.int .i64 a0_0, .bool a0_1, .int .i64 a0_2, .int .i64 a0_3, .slice A0_4 l0_4.length c0_4, .slice A0_5 l0_5.length c0_5, .int .i64 a0_6, .bool a0_7] 24 (0, 0)) (by (with_reducible repeat (first | refine blk_drewN ?_ _ | refine blk_drew ?_ | refine blk_alloc ?_ _)); exact BK233.out) hb); have n1_ := Aside0.mk (below_step (by repeat (first | (with_reducible first | exact HB.out | apply below_alloc | apply pw_below_drewN | apply below_drew1 | refine below_set ?_ GE233.out) | exact HB.out)) hb); have n2_ := Aside0.mk (hbox); have n3_ := Aside0.mk ((by rw [hg]; exact (below_size (by repeat (first | (with_reducible first | exact HB.out | apply below_alloc | apply pw_below_drewN | apply below_drew1 | refine below_set ?_ GE233.out) | exact HB.out))) : w.heap.size ≤ gb234)); have n4_ := Aside0.mk ((by rw [hg]; exact (below_size (by repeat (first | (with_reducible first | exact HB.out | apply below_alloc | apply pw_below_drewN | apply below_drew1 | refine below_set ?_ GE233.out) | exact HB.out))) : w.heap.size ≤ gb234)); have n5_ := Aside0.mk ((by rw [hg]; exact Nat.ne_of_lt (blk_lt (g := gb233) (o := .cells #[.int .i64 a0_0, .bool a0_1, .int .i64 a0_2, .int .i64 a0_3, .slice A0_4 l0_4.length c0_4, .slice A0_5 l0_5.length c0_5, .int .i64 a0_6, .bool a0_7] 24 (0, 0)) (by (with_reducible repeat (first | refine blk_drewN ?_ _ | refine blk_drew ?_ | refine blk_alloc ?_ _)); exact BK233.out)) : gb233 ≠ gb234)); have n6_ := Aside0.mk ((by rw [hg]; exact Nat.ne_of_gt (blk_lt (g := gb233) (o := .cells #[.int .i64 a0_0, .bool a0_1, .int .i64 a0_2, .int .i64 a0_3, .slice A0_4 l0_4.length c0_4, .slice A0_5 l0_5.length c0_5, .int .i64 a0_6, .bool a0_7] 24 (0, 0)) (by (with_reducible repeat (first | refine blk_drewN ?_ _ | refine blk_drew ?_ | refine blk_alloc ?_ _)); exact BK233.out)) : gb234 ≠ gb233)); clear BK233; clear HB; have BK233 := n0_; have HB := n1_; have BK234 := n2_; have GW234 := n3_; have GE234 := n4_; have NB233_234 := n5_; have NB234_233 := n6_; clear n0_ n1_ n2_ n3_ n4_ n5_ n6_; clear hb hbox hg) | (go_at_call 8; (with_reducible refine (serinettelaw19_awake.calls k  t235 _ ?side1 A5.out).mono ?_); (case side1 => repeat (first | exact (Kd.C_below HRG0.out HB.out) | (with_reducible refine Kd.C_alloc ?_ _) | (with_reducible refine Kd.C_drewN ?_ _) | (with_reducible refine Kd.C_drew ?_))); rintro e w10 ⟨rfl, hb⟩; have n0_ := Aside0.mk (blk_below (g := gb233) (o := .cells #[.int .i64 a0_0, .bool a0_1, .int .i64 a0_2, .int .i64 a0_3, .slice A0_4 l0_4.length c0_4, .slice A0_5 l0_5.length c0_5, .int .i64 a0_6, .bool a0_7] 24 (0, 0)) (by (with_reducible repeat (first | refine blk_drewN ?_ _ | refine blk_drew ?_ | refine blk_alloc ?_ _)); exact BK233.out) hb); have n1_ := Aside0.mk (blk_below (g := gb234) (o := .cells #[.int .i64 a3_0, .int .i64 a3_1, .int .i64 a3_2, .int .i64 a3_3] 35 (0, 0)) (by (with_reducible repeat (first | refine blk_drewN ?_ _ | refine blk_drew ?_ | refine blk_alloc ?_ _)); exact BK234.out) hb); have n2_ := Aside0.mk (below_step (by repeat (first | (with_reducible first | exact HB.out | apply below_alloc | apply pw_below_drewN | apply below_drew1 | refine below_set ?_ GE233.out | refine below_set ?_ GE234.out) | exact HB.out)) hb); clear BK233; clear BK234; clear HB; have BK233 := n0_; have BK234 := n1_; have HB := n2_; clear n0_ n1_ n2_; (try clear hb); (try clear hb2); (try clear hk); (try clear hi); have hnb11 := NB233_234.out; have hnc11 := NB234_233.out; have hcz12_0 : w10.cell? ⟨gb233, 0, none⟩ = some (.int .i64 a0_0) := (blk_cell BK233.out 0).trans rfl; have hcz12_1 : w10.cell? ⟨gb233, 1, none⟩ = some (.bool a0_1) := (blk_cell BK233.out 1).trans rfl; have hcz12_2 : w10.cell? ⟨gb233, 2, none⟩ = some (.int .i64 a0_2) := (blk_cell BK233.out 2).trans rfl; have hcz12_3 : w10.cell? ⟨gb233, 3, none⟩ = some (.int .i64 a0_3) := (blk_cell BK233.out 3).trans rfl; have hcz12_4 : w10.cell? ⟨gb233, 4, none⟩ = some (.slice A0_4 l0_4.length c0_4) := (blk_cell BK233.out 4).trans rfl; have hcz12_5 : w10.cell? ⟨gb233, 5, none⟩ = some (.slice A0_5 l0_5.length c0_5) := (blk_cell BK233.out 5).trans rfl; have hcz12_6 : w10.cell? ⟨gb233, 6, none⟩ = some (.int .i64 a0_6) := (blk_cell BK233.out 6).trans rfl; have hcz12_7 : w10.cell? ⟨gb233, 7, none⟩ = some (.bool a0_7) := (blk_cell BK233.out 7).trans rfl; have hfz12_0 := blk_frozen BK233.out 0; have hfz12_1 := blk_frozen BK233.out 1; have hfz12_2 := blk_frozen BK233.out 2; have hfz12_3 := blk_frozen BK233.out 3; have hfz12_4 := blk_frozen BK233.out 4; have hfz12_5 := blk_frozen BK233.out 5; have hfz12_6 := blk_frozen BK233.out 6; have hfz12_7 := blk_frozen BK233.out 7) | (go_at_call 13; (with_reducible refine (serinetteref19_Check.calls k a0_0 a0_1 a0_2 a0_3 _ _ l0_4 _ _ l0_5 a0_6 a0_7 t236 _ ?side1 ?side2 ?side3 ?side4 A6.out).mono ?_); (case side1 => repeat (first | exact (Kd.C_below HR0_4.out HB.out) | (with_reducible refine Kd.C_alloc ?_ _) | (with_reducible refine Kd.C_drewN ?_ _) | (with_reducible refine Kd.C_drew ?_))); (case side2 => exact HC0_4.out); (case side3 => repeat (first | exact (Kd.C_below HR0_5.out HB.out) | (with_reducible refine Kd.C_alloc ?_ _) | (with_reducible refine Kd.C_drewN ?_ _) | (with_reducible refine Kd.C_drew ?_))); (case side4 => exact HC0_5.out); rintro e w13 ⟨rfl, hb⟩; have n0_ := Aside0.mk (blk_below (g := gb233) (o := .cells #[.int .i64 a0_0, .bool a0_1, .int .i64 a0_2, .int .i64 a0_3, .slice A0_4 l0_4.length c0_4, .slice A0_5 l0_5.length c0_5, .int .i64 a0_6, .bool a0_7] 24 (0, 0)) (by (with_reducible repeat (first | refine blk_drewN ?_ _ | refine blk_drew ?_ | refine blk_alloc ?_ _)); exact BK233.out) hb); have n1_ := Aside0.mk (blk_below (g := gb234) (o := .cells #[.int .i64 a3_0, .int .i64 a3_1, .int .i64 a3_2, .int .i64 a3_3] 35 (0, 0)) (by (with_reducible repeat (first | refine blk_drewN ?_ _ | refine blk_drew ?_ | refine blk_alloc ?_ _)); exact BK234.out) hb); have n2_ := Aside0.mk (below_step (by repeat (first | (with_reducible first | exact HB.out | apply below_alloc | apply pw_below_drewN | apply below_drew1 | refine below_set ?_ GE233.out | refine below_set ?_ GE234.out) | exact HB.out)) hb); clear BK233; clear BK234; clear HB; have BK233 := n0_; have BK234 := n1_; have HB := n2_; clear n0_ n1_ n2_; (try clear hb); (try clear hb2); (try clear hk); (try clear hi))))
  (try simp only [Act.put, List.setIfInBounds_toArray, List.set_cons_zero, List.set_cons_succ])
  go_cut [25] (fun v25 wc => ∃ (kq : Nat) (x25_6 : Bool), v25 = .bool x25_6 ∧ Aside0 (serinettelaw19_PresetChoices.j0 kq a1 a2 t235 x25_6 a0_0 a0_1 a0_2 a0_3 l0_4 l0_5 a0_6 a0_7 a3_0 a3_1 a3_2 a3_3 = some r) ∧ Aside0 (kq ≤ k) ∧ Aside0 (wc.heap[gb233]? = some (.cells #[.int .i64 a0_0, .bool a0_1, .int .i64 a0_2, .int .i64 a0_3, (.slice A0_4 l0_4.length c0_4), (.slice A0_5 l0_5.length c0_5), .int .i64 a0_6, .bool a0_7] 24 (0, 0))) ∧ Aside0 (wc.heap[gb234]? = some (.cells #[.int .i64 a3_0, .int .i64 a3_1, .int .i64 a3_2, .int .i64 a3_3] 35 (0, 0))) ∧ Aside0 (Below w.heap.size w wc))
  case first =>
    have H := HC7.out
    clear HC7
    by_cases c14 : t236 = 0
    · rw [if_pos c14] at H
      have c14b0 : (t236 == 0) = true := beq_iff_eq.mpr c14
      have c14b1 : (t236 != 0) = false := bne_eq_false_iff_eq.mpr c14
      clear c14
      (first | rw [c14b0] | (simp only [i64_w, i32_w]; rw [c14b0]) | skip)
      have H' := Aside0.mk H
      clear H
      go_wp2
      repeat (go_quiet (fail); try go_wp2)
      go_meet
      case rel => exact ⟨_, (decide (a1 > 100)), (by first | rfl | (simp; done) | (simp [*]; done)), H', ⟨by first | omega | exact Nat.le_refl _⟩, ⟨by (with_reducible repeat (first | refine blk_drewN ?_ _ | refine blk_drew ?_ | refine blk_alloc ?_ _)); exact BK233.out⟩, ⟨by (with_reducible repeat (first | refine blk_drewN ?_ _ | refine blk_drew ?_ | refine blk_alloc ?_ _)); exact BK234.out⟩, ⟨by repeat (first | (with_reducible first | exact HB.out | apply below_alloc | apply pw_below_drewN | apply below_drew1 | refine below_set ?_ GE233.out | refine below_set ?_ GE234.out) | exact HB.out)⟩⟩
    · rw [if_neg c14] at H
      have c14b0 : (t236 == 0) = false := beq_eq_false_iff_ne.mpr c14
      have c14b1 : (t236 != 0) = true := bne_iff_ne.mpr c14
      (first | rw [c14b0] | (simp only [i64_w, i32_w]; rw [c14b0]) | skip)
      have H' := Aside0.mk H
      clear H
      go_wp2
      repeat (go_quiet (fail); try go_wp2)
      go_meet
      case rel => exact ⟨_, (true), (by first | rfl | (simp; done) | (simp [*]; done)), H', ⟨by first | omega | exact Nat.le_refl _⟩, ⟨by (with_reducible repeat (first | refine blk_drewN ?_ _ | refine blk_drew ?_ | refine blk_alloc ?_ _)); exact BK233.out⟩, ⟨by (with_reducible repeat (first | refine blk_drewN ?_ _ | refine blk_drew ?_ | refine blk_alloc ?_ _)); exact BK234.out⟩, ⟨by repeat (first | (with_reducible first | exact HB.out | apply below_alloc | apply pw_below_drewN | apply below_drew1 | refine below_set ?_ GE233.out | refine below_set ?_ GE234.out) | exact HB.out)⟩⟩
  case rest =>
    clear HC7
    try clear c1
    try clear p2
    try clear c5
    try clear c11
    try clear c14
    try clear c14b0
    try clear c14b1
    try clear hcz12_0
    try clear hcz12_1
    try clear hcz12_2
    try clear hcz12_3
    try clear hcz12_4
    try clear hcz12_5
    try clear hcz12_6
    try clear hcz12_7
    try clear hfz12_0
    try clear hfz12_1
    try clear hfz12_2
    try clear hfz12_3
    try clear hfz12_4
    try clear hfz12_5
    try clear hfz12_6
    try clear hfz12_7
    obtain ⟨kq, x25_6, rfl, HA, HJ6, BK233, BK234, HB⟩ := hcut
    cases kq with
    | zero => exact absurd HA.out (by simp [serinettelaw19_PresetChoices.j0])
    | succ kj6 =>
      have H := HA.out
      clear HA
      simp only [serinettelaw19_PresetChoices.j0] at H
      by_cases c15 : x25_6 = true
      · subst c15
        have H1 : (some t235) = some r := by rw [if_pos rfl] at H; exact H
        clear H
        have H := H1
        clear H1
        obtain rfl := Option.some.inj H
        go_wp2
        repeat (go_quiet (fail); try go_wp2)
        go_ret
        exact ⟨by first | rfl | (simp [errW_none, errW_some] <;> rfl) | (simp [*, errW_none, errW_some] <;> rfl), by repeat (first | (with_reducible first | exact HB.out | apply below_alloc | apply pw_below_drewN | apply below_drew1 | refine below_set ?_ GE233.out | refine below_set ?_ GE234.out) | exact HB.out)⟩
      · replace c15 := Bool.eq_false_iff.mpr c15
        subst c15
        have H1 : ((serinetteref19_All.f kj6 a0_0 a0_1 a0_2 a0_3 l0_4 l0_5 a0_6 a0_7 a1).bind fun t237 => ((preset_Count.f a0_0 a0_1 a0_2 a0_3 l0_4 l0_5 a0_6 a0_7 a1).bind fun t240 => (if t240 = (t237.length : Int) then ((preset_All.f kj6 a0_0 a0_1 a0_2 a0_3 l0_4 l0_5 a0_6 a0_7 a1).bind fun t241 => ((serinetteref19_Same.f kj6 t241 t237).bind fun t244 => (serinettelaw19_PresetChoices.j1 kj6 a1 a2 t235 t237 (!t244) a0_0 a0_1 a0_2 a0_3 l0_4 l0_5 a0_6 a0_7 a3_0 a3_1 a3_2 a3_3))) else (serinettelaw19_PresetChoices.j1 kj6 a1 a2 t235 t237 true a0_0 a0_1 a0_2 a0_3 l0_4 l0_5 a0_6 a0_7 a3_0 a3_1 a3_2 a3_3)))) = some r := by rw [if_neg (show ¬ (false = true) by decide)] at H; exact H
        clear H
        have H := H1
        clear H1
        replace H := Option.bind_eq_some_iff.mp H
        obtain ⟨t237, A160, H⟩ := H
        replace H : ((preset_Count.f a0_0 a0_1 a0_2 a0_3 l0_4 l0_5 a0_6 a0_7 a1).bind fun t240 => (if t240 = (t237.length : Int) then ((preset_All.f kj6 a0_0 a0_1 a0_2 a0_3 l0_4 l0_5 a0_6 a0_7 a1).bind fun t241 => ((serinetteref19_Same.f kj6 t241 t237).bind fun t244 => (serinettelaw19_PresetChoices.j1 kj6 a1 a2 t235 t237 (!t244) a0_0 a0_1 a0_2 a0_3 l0_4 l0_5 a0_6 a0_7 a3_0 a3_1 a3_2 a3_3))) else (serinettelaw19_PresetChoices.j1 kj6 a1 a2 t235 t237 true a0_0 a0_1 a0_2 a0_3 l0_4 l0_5 a0_6 a0_7 a3_0 a3_1 a3_2 a3_3))) = some r := H
        have A16 := Aside0.mk A160
        clear A160
        have HC17 := Aside0.mk H
        clear H
        have hnb18 := NB233_234.out
        have hnc18 := NB234_233.out
        have hcz19_0 : wc.cell? ⟨gb233, 0, none⟩ = some (.int .i64 a0_0) := (blk_cell BK233.out 0).trans rfl
        have hcz19_1 : wc.cell? ⟨gb233, 1, none⟩ = some (.bool a0_1) := (blk_cell BK233.out 1).trans rfl
        have hcz19_2 : wc.cell? ⟨gb233, 2, none⟩ = some (.int .i64 a0_2) := (blk_cell BK233.out 2).trans rfl
        have hcz19_3 : wc.cell? ⟨gb233, 3, none⟩ = some (.int .i64 a0_3) := (blk_cell BK233.out 3).trans rfl
        have hcz19_4 : wc.cell? ⟨gb233, 4, none⟩ = some (.slice A0_4 l0_4.length c0_4) := (blk_cell BK233.out 4).trans rfl
        have hcz19_5 : wc.cell? ⟨gb233, 5, none⟩ = some (.slice A0_5 l0_5.length c0_5) := (blk_cell BK233.out 5).trans rfl
        have hcz19_6 : wc.cell? ⟨gb233, 6, none⟩ = some (.int .i64 a0_6) := (blk_cell BK233.out 6).trans rfl
        have hcz19_7 : wc.cell? ⟨gb233, 7, none⟩ = some (.bool a0_7) := (blk_cell BK233.out 7).trans rfl
        have hfz19_0 := blk_frozen BK233.out 0
        have hfz19_1 := blk_frozen BK233.out 1
        have hfz19_2 := blk_frozen BK233.out 2
        have hfz19_3 := blk_frozen BK233.out 3
        have hfz19_4 := blk_frozen BK233.out 4
        have hfz19_5 := blk_frozen BK233.out 5
        have hfz19_6 := blk_frozen BK233.out 6
        have hfz19_7 := blk_frozen BK233.out 7
        go_upto_region 6 with (first | (go_at_call 15; (with_reducible refine (serinetteref19_All.calls kj6 a0_0 a0_1 a0_2 a0_3 _ _ l0_4 _ _ l0_5 a0_6 a0_7 a1 t237 _ ?side1 ?side2 ?side3 ?side4 A16.out).mono ?_); (case side1 => repeat (first | exact (Kd.C_below HR0_4.out HB.out) | (with_reducible refine Kd.C_alloc ?_ _) | (with_reducible refine Kd.C_drewN ?_ _) | (with_reducible refine Kd.C_drew ?_))); (case side2 => exact HC0_4.out); (case side3 => repeat (first | exact (Kd.C_below HR0_5.out HB.out) | (with_reducible refine Kd.C_alloc ?_ _) | (with_reducible refine Kd.C_drewN ?_ _) | (with_reducible refine Kd.C_drew ?_))); (case side4 => exact HC0_5.out); rintro e w20 ⟨v238, rfl, ho0, hb⟩; have n0_ := Aside0.mk (Kd.R_lower (Kd.R_newB ho0 (g := gb234) (o := .cells #[.int .i64 a3_0, .int .i64 a3_1, .int .i64 a3_2, .int .i64 a3_3] 35 (0, 0)) (by (with_reducible repeat (first | refine blk_drewN ?_ _ | refine blk_drew ?_ | refine blk_alloc ?_ _)); exact BK234.out)) (below_size (by repeat (first | (with_reducible first | exact HB.out | apply below_alloc | apply pw_below_drewN | apply below_drew1 | refine below_set ?_ GE233.out | refine below_set ?_ GE234.out) | exact HB.out)))); have n1_ := Aside0.mk (blk_below (g := gb233) (o := .cells #[.int .i64 a0_0, .bool a0_1, .int .i64 a0_2, .int .i64 a0_3, .slice A0_4 l0_4.length c0_4, .slice A0_5 l0_5.length c0_5, .int .i64 a0_6, .bool a0_7] 24 (0, 0)) (by (with_reducible repeat (first | refine blk_drewN ?_ _ | refine blk_drew ?_ | refine blk_alloc ?_ _)); exact BK233.out) hb); have n2_ := Aside0.mk (blk_below (g := gb234) (o := .cells #[.int .i64 a3_0, .int .i64 a3_1, .int .i64 a3_2, .int .i64 a3_3] 35 (0, 0)) (by (with_reducible repeat (first | refine blk_drewN ?_ _ | refine blk_drew ?_ | refine blk_alloc ?_ _)); exact BK234.out) hb); have n3_ := Aside0.mk (below_step (by repeat (first | (with_reducible first | exact HB.out | apply below_alloc | apply pw_below_drewN | apply below_drew1 | refine below_set ?_ GE233.out | refine below_set ?_ GE234.out) | exact HB.out)) hb); clear BK233; clear BK234; clear HB; have HO239 := n0_; have BK233 := n1_; have BK234 := n2_; have HB := n3_; clear n0_ n1_ n2_ n3_; (try clear hb); (try clear hb2); (try clear hk); (try clear hi); (try clear ho0)))
        repeat (go_quiet (first | (go_at_call 15; (with_reducible refine (serinetteref19_All.calls kj6 a0_0 a0_1 a0_2 a0_3 _ _ l0_4 _ _ l0_5 a0_6 a0_7 a1 t237 _ ?side1 ?side2 ?side3 ?side4 A16.out).mono ?_); (case side1 => repeat (first | exact (Kd.C_below HR0_4.out HB.out) | (with_reducible refine Kd.C_alloc ?_ _) | (with_reducible refine Kd.C_drewN ?_ _) | (with_reducible refine Kd.C_drew ?_))); (case side2 => exact HC0_4.out); (case side3 => repeat (first | exact (Kd.C_below HR0_5.out HB.out) | (with_reducible refine Kd.C_alloc ?_ _) | (with_reducible refine Kd.C_drewN ?_ _) | (with_reducible refine Kd.C_drew ?_))); (case side4 => exact HC0_5.out); rintro e w20 ⟨v238, rfl, ho0, hb⟩; have n0_ := Aside0.mk (Kd.R_lower (Kd.R_newB ho0 (g := gb234) (o := .cells #[.int .i64 a3_0, .int .i64 a3_1, .int .i64 a3_2, .int .i64 a3_3] 35 (0, 0)) (by (with_reducible repeat (first | refine blk_drewN ?_ _ | refine blk_drew ?_ | refine blk_alloc ?_ _)); exact BK234.out)) (below_size (by repeat (first | (with_reducible first | exact HB.out | apply below_alloc | apply pw_below_drewN | apply below_drew1 | refine below_set ?_ GE233.out | refine below_set ?_ GE234.out) | exact HB.out)))); have n1_ := Aside0.mk (blk_below (g := gb233) (o := .cells #[.int .i64 a0_0, .bool a0_1, .int .i64 a0_2, .int .i64 a0_3, .slice A0_4 l0_4.length c0_4, .slice A0_5 l0_5.length c0_5, .int .i64 a0_6, .bool a0_7] 24 (0, 0)) (by (with_reducible repeat (first | refine blk_drewN ?_ _ | refine blk_drew ?_ | refine blk_alloc ?_ _)); exact BK233.out) hb); have n2_ := Aside0.mk (blk_below (g := gb234) (o := .cells #[.int .i64 a3_0, .int .i64 a3_1, .int .i64 a3_2, .int .i64 a3_3] 35 (0, 0)) (by (with_reducible repeat (first | refine blk_drewN ?_ _ | refine blk_drew ?_ | refine blk_alloc ?_ _)); exact BK234.out) hb); have n3_ := Aside0.mk (below_step (by repeat (first | (with_reducible first | exact HB.out | apply below_alloc | apply pw_below_drewN | apply below_drew1 | refine below_set ?_ GE233.out | refine below_set ?_ GE234.out) | exact HB.out)) hb); clear BK233; clear BK234; clear HB; have HO239 := n0_; have BK233 := n1_; have BK234 := n2_; have HB := n3_; clear n0_ n1_ n2_ n3_; (try clear hb); (try clear hb2); (try clear hk); (try clear hi); (try clear ho0))); go_upto_region 6 with (first | (go_at_call 15; (with_reducible refine (serinetteref19_All.calls kj6 a0_0 a0_1 a0_2 a0_3 _ _ l0_4 _ _ l0_5 a0_6 a0_7 a1 t237 _ ?side1 ?side2 ?side3 ?side4 A16.out).mono ?_); (case side1 => repeat (first | exact (Kd.C_below HR0_4.out HB.out) | (with_reducible refine Kd.C_alloc ?_ _) | (with_reducible refine Kd.C_drewN ?_ _) | (with_reducible refine Kd.C_drew ?_))); (case side2 => exact HC0_4.out); (case side3 => repeat (first | exact (Kd.C_below HR0_5.out HB.out) | (with_reducible refine Kd.C_alloc ?_ _) | (with_reducible refine Kd.C_drewN ?_ _) | (with_reducible refine Kd.C_drew ?_))); (case side4 => exact HC0_5.out); rintro e w20 ⟨v238, rfl, ho0, hb⟩; have n0_ := Aside0.mk (Kd.R_lower (Kd.R_newB ho0 (g := gb234) (o := .cells #[.int .i64 a3_0, .int .i64 a3_1, .int .i64 a3_2, .int .i64 a3_3] 35 (0, 0)) (by (with_reducible repeat (first | refine blk_drewN ?_ _ | refine blk_drew ?_ | refine blk_alloc ?_ _)); exact BK234.out)) (below_size (by repeat (first | (with_reducible first | exact HB.out | apply below_alloc | apply pw_below_drewN | apply below_drew1 | refine below_set ?_ GE233.out | refine below_set ?_ GE234.out) | exact HB.out)))); have n1_ := Aside0.mk (blk_below (g := gb233) (o := .cells #[.int .i64 a0_0, .bool a0_1, .int .i64 a0_2, .int .i64 a0_3, .slice A0_4 l0_4.length c0_4, .slice A0_5 l0_5.length c0_5, .int .i64 a0_6, .bool a0_7] 24 (0, 0)) (by (with_reducible repeat (first | refine blk_drewN ?_ _ | refine blk_drew ?_ | refine blk_alloc ?_ _)); exact BK233.out) hb); have n2_ := Aside0.mk (blk_below (g := gb234) (o := .cells #[.int .i64 a3_0, .int .i64 a3_1, .int .i64 a3_2, .int .i64 a3_3] 35 (0, 0)) (by (with_reducible repeat (first | refine blk_drewN ?_ _ | refine blk_drew ?_ | refine blk_alloc ?_ _)); exact BK234.out) hb); have n3_ := Aside0.mk (below_step (by repeat (first | (with_reducible first | exact HB.out | apply below_alloc | apply pw_below_drewN | apply below_drew1 | refine below_set ?_ GE233.out | refine below_set ?_ GE234.out) | exact HB.out)) hb); clear BK233; clear BK234; clear HB; have HO239 := n0_; have BK233 := n1_; have BK234 := n2_; have HB := n3_; clear n0_ n1_ n2_ n3_; (try clear hb); (try clear hb2); (try clear hk); (try clear hi); (try clear ho0))))
        (try simp only [Act.put, List.setIfInBounds_toArray, List.set_cons_zero, List.set_cons_succ])
        go_cut [43] (fun v43 wc => ∃ (kq : Nat) (x43_16 : Bool), v43 = .bool x43_16 ∧ Aside0 (serinettelaw19_PresetChoices.j1 kq a1 a2 t235 t237 x43_16 a0_0 a0_1 a0_2 a0_3 l0_4 l0_5 a0_6 a0_7 a3_0 a3_1 a3_2 a3_3 = some r) ∧ Aside0 (kq ≤ kj6) ∧ Aside0 (Kd.R k35 35 wc w.heap.size (fun k_ => k_ ≠ gb234) v238 t237) ∧ Aside0 (wc.heap[gb233]? = some (.cells #[.int .i64 a0_0, .bool a0_1, .int .i64 a0_2, .int .i64 a0_3, (.slice A0_4 l0_4.length c0_4), (.slice A0_5 l0_5.length c0_5), .int .i64 a0_6, .bool a0_7] 24 (0, 0))) ∧ Aside0 (wc.heap[gb234]? = some (.cells #[.int .i64 a3_0, .int .i64 a3_1, .int .i64 a3_2, .int .i64 a3_3] 35 (0, 0))) ∧ Aside0 (Below w.heap.size w wc))
        case first =>
          have H := HC17.out
          clear HC17
          replace H := Option.bind_eq_some_iff.mp H
          obtain ⟨t240, A210, H⟩ := H
          replace H : (if t240 = (t237.length : Int) then ((preset_All.f kj6 a0_0 a0_1 a0_2 a0_3 l0_4 l0_5 a0_6 a0_7 a1).bind fun t241 => ((serinetteref19_Same.f kj6 t241 t237).bind fun t244 => (serinettelaw19_PresetChoices.j1 kj6 a1 a2 t235 t237 (!t244) a0_0 a0_1 a0_2 a0_3 l0_4 l0_5 a0_6 a0_7 a3_0 a3_1 a3_2 a3_3))) else (serinettelaw19_PresetChoices.j1 kj6 a1 a2 t235 t237 true a0_0 a0_1 a0_2 a0_3 l0_4 l0_5 a0_6 a0_7 a3_0 a3_1 a3_2 a3_3)) = some r := H
          have A21 := Aside0.mk A210
          clear A210
          by_cases c22 : t240 = (t237.length : Int)
          · rw [if_pos c22] at H
            have c22b0 : (t240 == (t237.length : Int)) = true := beq_iff_eq.mpr c22
            have c22b1 : (t240 != (t237.length : Int)) = false := bne_eq_false_iff_eq.mpr c22
            clear c22
            (first | rw [c22b0] | (simp only [i64_w, i32_w]; rw [c22b0]) | skip)
            replace H := Option.bind_eq_some_iff.mp H
            obtain ⟨t241, A230, H⟩ := H
            replace H : ((serinetteref19_Same.f kj6 t241 t237).bind fun t244 => (serinettelaw19_PresetChoices.j1 kj6 a1 a2 t235 t237 (!t244) a0_0 a0_1 a0_2 a0_3 l0_4 l0_5 a0_6 a0_7 a3_0 a3_1 a3_2 a3_3)) = some r := H
            have A23 := Aside0.mk A230
            clear A230
            replace H := Option.bind_eq_some_iff.mp H
            obtain ⟨t244, A240, H⟩ := H
            replace H : (serinettelaw19_PresetChoices.j1 kj6 a1 a2 t235 t237 (!t244) a0_0 a0_1 a0_2 a0_3 l0_4 l0_5 a0_6 a0_7 a3_0 a3_1 a3_2 a3_3) = some r := H
            have A24 := Aside0.mk A240
            clear A240
            have H' := Aside0.mk H
            clear H
            have hnb25 := NB233_234.out
            have hnc25 := NB234_233.out
            have hcz26_0 : w20.cell? ⟨gb233, 0, none⟩ = some (.int .i64 a0_0) := (blk_cell BK233.out 0).trans rfl
            have hcz26_1 : w20.cell? ⟨gb233, 1, none⟩ = some (.bool a0_1) := (blk_cell BK233.out 1).trans rfl
            have hcz26_2 : w20.cell? ⟨gb233, 2, none⟩ = some (.int .i64 a0_2) := (blk_cell BK233.out 2).trans rfl
            have hcz26_3 : w20.cell? ⟨gb233, 3, none⟩ = some (.int .i64 a0_3) := (blk_cell BK233.out 3).trans rfl
            have hcz26_4 : w20.cell? ⟨gb233, 4, none⟩ = some (.slice A0_4 l0_4.length c0_4) := (blk_cell BK233.out 4).trans rfl
            have hcz26_5 : w20.cell? ⟨gb233, 5, none⟩ = some (.slice A0_5 l0_5.length c0_5) := (blk_cell BK233.out 5).trans rfl
            have hcz26_6 : w20.cell? ⟨gb233, 6, none⟩ = some (.int .i64 a0_6) := (blk_cell BK233.out 6).trans rfl
            have hcz26_7 : w20.cell? ⟨gb233, 7, none⟩ = some (.bool a0_7) := (blk_cell BK233.out 7).trans rfl
            have hfz26_0 := blk_frozen BK233.out 0
            have hfz26_1 := blk_frozen BK233.out 1
            have hfz26_2 := blk_frozen BK233.out 2
            have hfz26_3 := blk_frozen BK233.out 3
            have hfz26_4 := blk_frozen BK233.out 4
            have hfz26_5 := blk_frozen BK233.out 5
            have hfz26_6 := blk_frozen BK233.out 6
            have hfz26_7 := blk_frozen BK233.out 7
            go_wp2_with (first | (go_at_call 16; (with_reducible refine (preset_Count.calls a0_0 a0_1 a0_2 a0_3 _ _ l0_4 _ _ l0_5 a0_6 a0_7 a1 t240 _ ?side1 ?side2 ?side3 ?side4 A21.out).mono ?_); (case side1 => repeat (first | exact (Kd.C_below HR0_4.out HB.out) | (with_reducible refine Kd.C_alloc ?_ _) | (with_reducible refine Kd.C_drewN ?_ _) | (with_reducible refine Kd.C_drew ?_))); (case side2 => exact HC0_4.out); (case side3 => repeat (first | exact (Kd.C_below HR0_5.out HB.out) | (with_reducible refine Kd.C_alloc ?_ _) | (with_reducible refine Kd.C_drewN ?_ _) | (with_reducible refine Kd.C_drew ?_))); (case side4 => exact HC0_5.out); rintro e w27 ⟨rfl, hb⟩; have n0_ := Aside0.mk (Kd.R_below (by (with_reducible repeat (first | apply Kd.R_alloc | apply Kd.R_drewN | apply Kd.R_drew)); exact HO239.out) hb); have n1_ := Aside0.mk (blk_below (g := gb233) (o := .cells #[.int .i64 a0_0, .bool a0_1, .int .i64 a0_2, .int .i64 a0_3, .slice A0_4 l0_4.length c0_4, .slice A0_5 l0_5.length c0_5, .int .i64 a0_6, .bool a0_7] 24 (0, 0)) (by (with_reducible repeat (first | refine blk_drewN ?_ _ | refine blk_drew ?_ | refine blk_alloc ?_ _)); exact BK233.out) hb); have n2_ := Aside0.mk (blk_below (g := gb234) (o := .cells #[.int .i64 a3_0, .int .i64 a3_1, .int .i64 a3_2, .int .i64 a3_3] 35 (0, 0)) (by (with_reducible repeat (first | refine blk_drewN ?_ _ | refine blk_drew ?_ | refine blk_alloc ?_ _)); exact BK234.out) hb); have n3_ := Aside0.mk (below_step (by repeat (first | (with_reducible first | exact HB.out | apply below_alloc | apply pw_below_drewN | apply below_drew1 | refine below_set ?_ GE233.out | refine below_set ?_ GE234.out) | exact HB.out)) hb); clear HO239; clear BK233; clear BK234; clear HB; have HO239 := n0_; have BK233 := n1_; have BK234 := n2_; have HB := n3_; clear n0_ n1_ n2_ n3_; (try clear hb); (try clear hb2); (try clear hk); (try clear hi); obtain ⟨Ao28, co28, eo28⟩ := Kd.R_slice HO239.out; subst eo28; have hcz29_0 : w27.cell? ⟨gb233, 0, none⟩ = some (.int .i64 a0_0) := (blk_cell BK233.out 0).trans rfl; have hcz29_1 : w27.cell? ⟨gb233, 1, none⟩ = some (.bool a0_1) := (blk_cell BK233.out 1).trans rfl; have hcz29_2 : w27.cell? ⟨gb233, 2, none⟩ = some (.int .i64 a0_2) := (blk_cell BK233.out 2).trans rfl; have hcz29_3 : w27.cell? ⟨gb233, 3, none⟩ = some (.int .i64 a0_3) := (blk_cell BK233.out 3).trans rfl; have hcz29_4 : w27.cell? ⟨gb233, 4, none⟩ = some (.slice A0_4 l0_4.length c0_4) := (blk_cell BK233.out 4).trans rfl; have hcz29_5 : w27.cell? ⟨gb233, 5, none⟩ = some (.slice A0_5 l0_5.length c0_5) := (blk_cell BK233.out 5).trans rfl; have hcz29_6 : w27.cell? ⟨gb233, 6, none⟩ = some (.int .i64 a0_6) := (blk_cell BK233.out 6).trans rfl; have hcz29_7 : w27.cell? ⟨gb233, 7, none⟩ = some (.bool a0_7) := (blk_cell BK233.out 7).trans rfl; have hfz29_0 := blk_frozen BK233.out 0; have hfz29_1 := blk_frozen BK233.out 1; have hfz29_2 := blk_frozen BK233.out 2; have hfz29_3 := blk_frozen BK233.out 3; have hfz29_4 := blk_frozen BK233.out 4; have hfz29_5 := blk_frozen BK233.out 5; have hfz29_6 := blk_frozen BK233.out 6; have hfz29_7 := blk_frozen BK233.out 7) | (go_at_call 14; (with_reducible refine (preset_All.calls kj6 a0_0 a0_1 a0_2 a0_3 _ _ l0_4 _ _ l0_5 a0_6 a0_7 a1 t241 _ ?side1 ?side2 ?side3 ?side4 A23.out).mono ?_); (case side1 => repeat (first | exact (Kd.C_below HR0_4.out HB.out) | (with_reducible refine Kd.C_alloc ?_ _) | (with_reducible refine Kd.C_drewN ?_ _) | (with_reducible refine Kd.C_drew ?_))); (case side2 => exact HC0_4.out); (case side3 => repeat (first | exact (Kd.C_below HR0_5.out HB.out) | (with_reducible refine Kd.C_alloc ?_ _) | (with_reducible refine Kd.C_drewN ?_ _) | (with_reducible refine Kd.C_drew ?_))); (case side4 => exact HC0_5.out); rintro e w30 ⟨v242, rfl, ho0, hb⟩; have n0_ := Aside0.mk (Kd.R_elder' (by (with_reducible repeat (first | apply Kd.R_alloc | apply Kd.R_drewN | apply Kd.R_drew)); exact HO239.out) (Kd.R_base ho0) hb); have n1_ := Aside0.mk (Kd.R_lower (Kd.R_newB (Kd.R_new' ho0 (Kd.R_lt (by (with_reducible repeat (first | apply Kd.R_alloc | apply Kd.R_drewN | apply Kd.R_drew)); exact HO239.out))) (g := gb234) (o := .cells #[.int .i64 a3_0, .int .i64 a3_1, .int .i64 a3_2, .int .i64 a3_3] 35 (0, 0)) (by (with_reducible repeat (first | refine blk_drewN ?_ _ | refine blk_drew ?_ | refine blk_alloc ?_ _)); exact BK234.out)) (below_size (by repeat (first | (with_reducible first | exact HB.out | apply below_alloc | apply pw_below_drewN | apply below_drew1 | refine below_set ?_ GE233.out | refine below_set ?_ GE234.out) | exact HB.out)))); have n2_ := Aside0.mk (blk_below (g := gb233) (o := .cells #[.int .i64 a0_0, .bool a0_1, .int .i64 a0_2, .int .i64 a0_3, .slice A0_4 l0_4.length c0_4, .slice A0_5 l0_5.length c0_5, .int .i64 a0_6, .bool a0_7] 24 (0, 0)) (by (with_reducible repeat (first | refine blk_drewN ?_ _ | refine blk_drew ?_ | refine blk_alloc ?_ _)); exact BK233.out) hb); have n3_ := Aside0.mk (blk_below (g := gb234) (o := .cells #[.int .i64 a3_0, .int .i64 a3_1, .int .i64 a3_2, .int .i64 a3_3] 35 (0, 0)) (by (with_reducible repeat (first | refine blk_drewN ?_ _ | refine blk_drew ?_ | refine blk_alloc ?_ _)); exact BK234.out) hb); have n4_ := Aside0.mk (below_step (by repeat (first | (with_reducible first | exact HB.out | apply below_alloc | apply pw_below_drewN | apply below_drew1 | refine below_set ?_ GE233.out | refine below_set ?_ GE234.out) | exact HB.out)) hb); clear HO239; clear BK233; clear BK234; clear HB; have HO239 := n0_; have HO243 := n1_; have BK233 := n2_; have BK234 := n3_; have HB := n4_; clear n0_ n1_ n2_ n3_ n4_; (try clear hb); (try clear hb2); (try clear hk); (try clear hi); (try clear ho0); obtain ⟨Ao31, co31, eo31⟩ := Kd.R_slice HO243.out; subst eo31) | (go_at_call 17; (with_reducible refine (serinetteref19_Same.calls kj6 _ _ t241 _ _ t237 t244 _ ?side1 ?side2 ?side3 ?side4 A24.out).mono ?_); (case side1 => repeat (first | exact (Kd.R_reads' HO243.out).2.2 | (with_reducible refine Kd.C_alloc ?_ _) | (with_reducible refine Kd.C_drewN ?_ _) | (with_reducible refine Kd.C_drew ?_))); (case side2 => exact (Kd.R_reads' HO243.out).2.1); (case side3 => repeat (first | exact (Kd.R_reads' HO239.out).2.2 | (with_reducible refine Kd.C_alloc ?_ _) | (with_reducible refine Kd.C_drewN ?_ _) | (with_reducible refine Kd.C_drew ?_))); (case side4 => exact (Kd.R_reads' HO239.out).2.1); rintro e w' ⟨rfl, ⟨nd, rfl⟩⟩; (try first | exact ⟨rfl, _, World.drewN_drewN _ _ _⟩ | exact ⟨rfl, _, Eq.trans (World.drewN_drewN _ _ _) (congrArg (World.drewN _) (Nat.add_assoc _ _ _))⟩)))
            repeat (go_quiet (first | (go_at_call 16; (with_reducible refine (preset_Count.calls a0_0 a0_1 a0_2 a0_3 _ _ l0_4 _ _ l0_5 a0_6 a0_7 a1 t240 _ ?side1 ?side2 ?side3 ?side4 A21.out).mono ?_); (case side1 => repeat (first | exact (Kd.C_below HR0_4.out HB.out) | (with_reducible refine Kd.C_alloc ?_ _) | (with_reducible refine Kd.C_drewN ?_ _) | (with_reducible refine Kd.C_drew ?_))); (case side2 => exact HC0_4.out); (case side3 => repeat (first | exact (Kd.C_below HR0_5.out HB.out) | (with_reducible refine Kd.C_alloc ?_ _) | (with_reducible refine Kd.C_drewN ?_ _) | (with_reducible refine Kd.C_drew ?_))); (case side4 => exact HC0_5.out); rintro e w27 ⟨rfl, hb⟩; have n0_ := Aside0.mk (Kd.R_below (by (with_reducible repeat (first | apply Kd.R_alloc | apply Kd.R_drewN | apply Kd.R_drew)); exact HO239.out) hb); have n1_ := Aside0.mk (blk_below (g := gb233) (o := .cells #[.int .i64 a0_0, .bool a0_1, .int .i64 a0_2, .int .i64 a0_3, .slice A0_4 l0_4.length c0_4, .slice A0_5 l0_5.length c0_5, .int .i64 a0_6, .bool a0_7] 24 (0, 0)) (by (with_reducible repeat (first | refine blk_drewN ?_ _ | refine blk_drew ?_ | refine blk_alloc ?_ _)); exact BK233.out) hb); have n2_ := Aside0.mk (blk_below (g := gb234) (o := .cells #[.int .i64 a3_0, .int .i64 a3_1, .int .i64 a3_2, .int .i64 a3_3] 35 (0, 0)) (by (with_reducible repeat (first | refine blk_drewN ?_ _ | refine blk_drew ?_ | refine blk_alloc ?_ _)); exact BK234.out) hb); have n3_ := Aside0.mk (below_step (by repeat (first | (with_reducible first | exact HB.out | apply below_alloc | apply pw_below_drewN | apply below_drew1 | refine below_set ?_ GE233.out | refine below_set ?_ GE234.out) | exact HB.out)) hb); clear HO239; clear BK233; clear BK234; clear HB; have HO239 := n0_; have BK233 := n1_; have BK234 := n2_; have HB := n3_; clear n0_ n1_ n2_ n3_; (try clear hb); (try clear hb2); (try clear hk); (try clear hi); obtain ⟨Ao28, co28, eo28⟩ := Kd.R_slice HO239.out; subst eo28; have hcz29_0 : w27.cell? ⟨gb233, 0, none⟩ = some (.int .i64 a0_0) := (blk_cell BK233.out 0).trans rfl; have hcz29_1 : w27.cell? ⟨gb233, 1, none⟩ = some (.bool a0_1) := (blk_cell BK233.out 1).trans rfl; have hcz29_2 : w27.cell? ⟨gb233, 2, none⟩ = some (.int .i64 a0_2) := (blk_cell BK233.out 2).trans rfl; have hcz29_3 : w27.cell? ⟨gb233, 3, none⟩ = some (.int .i64 a0_3) := (blk_cell BK233.out 3).trans rfl; have hcz29_4 : w27.cell? ⟨gb233, 4, none⟩ = some (.slice A0_4 l0_4.length c0_4) := (blk_cell BK233.out 4).trans rfl; have hcz29_5 : w27.cell? ⟨gb233, 5, none⟩ = some (.slice A0_5 l0_5.length c0_5) := (blk_cell BK233.out 5).trans rfl; have hcz29_6 : w27.cell? ⟨gb233, 6, none⟩ = some (.int .i64 a0_6) := (blk_cell BK233.out 6).trans rfl; have hcz29_7 : w27.cell? ⟨gb233, 7, none⟩ = some (.bool a0_7) := (blk_cell BK233.out 7).trans rfl; have hfz29_0 := blk_frozen BK233.out 0; have hfz29_1 := blk_frozen BK233.out 1; have hfz29_2 := blk_frozen BK233.out 2; have hfz29_3 := blk_frozen BK233.out 3; have hfz29_4 := blk_frozen BK233.out 4; have hfz29_5 := blk_frozen BK233.out 5; have hfz29_6 := blk_frozen BK233.out 6; have hfz29_7 := blk_frozen BK233.out 7) | (go_at_call 14; (with_reducible refine (preset_All.calls kj6 a0_0 a0_1 a0_2 a0_3 _ _ l0_4 _ _ l0_5 a0_6 a0_7 a1 t241 _ ?side1 ?side2 ?side3 ?side4 A23.out).mono ?_); (case side1 => repeat (first | exact (Kd.C_below HR0_4.out HB.out) | (with_reducible refine Kd.C_alloc ?_ _) | (with_reducible refine Kd.C_drewN ?_ _) | (with_reducible refine Kd.C_drew ?_))); (case side2 => exact HC0_4.out); (case side3 => repeat (first | exact (Kd.C_below HR0_5.out HB.out) | (with_reducible refine Kd.C_alloc ?_ _) | (with_reducible refine Kd.C_drewN ?_ _) | (with_reducible refine Kd.C_drew ?_))); (case side4 => exact HC0_5.out); rintro e w30 ⟨v242, rfl, ho0, hb⟩; have n0_ := Aside0.mk (Kd.R_elder' (by (with_reducible repeat (first | apply Kd.R_alloc | apply Kd.R_drewN | apply Kd.R_drew)); exact HO239.out) (Kd.R_base ho0) hb); have n1_ := Aside0.mk (Kd.R_lower (Kd.R_newB (Kd.R_new' ho0 (Kd.R_lt (by (with_reducible repeat (first | apply Kd.R_alloc | apply Kd.R_drewN | apply Kd.R_drew)); exact HO239.out))) (g := gb234) (o := .cells #[.int .i64 a3_0, .int .i64 a3_1, .int .i64 a3_2, .int .i64 a3_3] 35 (0, 0)) (by (with_reducible repeat (first | refine blk_drewN ?_ _ | refine blk_drew ?_ | refine blk_alloc ?_ _)); exact BK234.out)) (below_size (by repeat (first | (with_reducible first | exact HB.out | apply below_alloc | apply pw_below_drewN | apply below_drew1 | refine below_set ?_ GE233.out | refine below_set ?_ GE234.out) | exact HB.out)))); have n2_ := Aside0.mk (blk_below (g := gb233) (o := .cells #[.int .i64 a0_0, .bool a0_1, .int .i64 a0_2, .int .i64 a0_3, .slice A0_4 l0_4.length c0_4, .slice A0_5 l0_5.length c0_5, .int .i64 a0_6, .bool a0_7] 24 (0, 0)) (by (with_reducible repeat (first | refine blk_drewN ?_ _ | refine blk_drew ?_ | refine blk_alloc ?_ _)); exact BK233.out) hb); have n3_ := Aside0.mk (blk_below (g := gb234) (o := .cells #[.int .i64 a3_0, .int .i64 a3_1, .int .i64 a3_2, .int .i64 a3_3] 35 (0, 0)) (by (with_reducible repeat (first | refine blk_drewN ?_ _ | refine blk_drew ?_ | refine blk_alloc ?_ _)); exact BK234.out) hb); have n4_ := Aside0.mk (below_step (by repeat (first | (with_reducible first | exact HB.out | apply below_alloc | apply pw_below_drewN | apply below_drew1 | refine below_set ?_ GE233.out | refine below_set ?_ GE234.out) | exact HB.out)) hb); clear HO239; clear BK233; clear BK234; clear HB; have HO239 := n0_; have HO243 := n1_; have BK233 := n2_; have BK234 := n3_; have HB := n4_; clear n0_ n1_ n2_ n3_ n4_; (try clear hb); (try clear hb2); (try clear hk); (try clear hi); (try clear ho0); obtain ⟨Ao31, co31, eo31⟩ := Kd.R_slice HO243.out; subst eo31) | (go_at_call 17; (with_reducible refine (serinetteref19_Same.calls kj6 _ _ t241 _ _ t237 t244 _ ?side1 ?side2 ?side3 ?side4 A24.out).mono ?_); (case side1 => repeat (first | exact (Kd.R_reads' HO243.out).2.2 | (with_reducible refine Kd.C_alloc ?_ _) | (with_reducible refine Kd.C_drewN ?_ _) | (with_reducible refine Kd.C_drew ?_))); (case side2 => exact (Kd.R_reads' HO243.out).2.1); (case side3 => repeat (first | exact (Kd.R_reads' HO239.out).2.2 | (with_reducible refine Kd.C_alloc ?_ _) | (with_reducible refine Kd.C_drewN ?_ _) | (with_reducible refine Kd.C_drew ?_))); (case side4 => exact (Kd.R_reads' HO239.out).2.1); rintro e w' ⟨rfl, ⟨nd, rfl⟩⟩; (try first | exact ⟨rfl, _, World.drewN_drewN _ _ _⟩ | exact ⟨rfl, _, Eq.trans (World.drewN_drewN _ _ _) (congrArg (World.drewN _) (Nat.add_assoc _ _ _))⟩))); try go_wp2_with (first | (go_at_call 16; (with_reducible refine (preset_Count.calls a0_0 a0_1 a0_2 a0_3 _ _ l0_4 _ _ l0_5 a0_6 a0_7 a1 t240 _ ?side1 ?side2 ?side3 ?side4 A21.out).mono ?_); (case side1 => repeat (first | exact (Kd.C_below HR0_4.out HB.out) | (with_reducible refine Kd.C_alloc ?_ _) | (with_reducible refine Kd.C_drewN ?_ _) | (with_reducible refine Kd.C_drew ?_))); (case side2 => exact HC0_4.out); (case side3 => repeat (first | exact (Kd.C_below HR0_5.out HB.out) | (with_reducible refine Kd.C_alloc ?_ _) | (with_reducible refine Kd.C_drewN ?_ _) | (with_reducible refine Kd.C_drew ?_))); (case side4 => exact HC0_5.out); rintro e w27 ⟨rfl, hb⟩; have n0_ := Aside0.mk (Kd.R_below (by (with_reducible repeat (first | apply Kd.R_alloc | apply Kd.R_drewN | apply Kd.R_drew)); exact HO239.out) hb); have n1_ := Aside0.mk (blk_below (g := gb233) (o := .cells #[.int .i64 a0_0, .bool a0_1, .int .i64 a0_2, .int .i64 a0_3, .slice A0_4 l0_4.length c0_4, .slice A0_5 l0_5.length c0_5, .int .i64 a0_6, .bool a0_7] 24 (0, 0)) (by (with_reducible repeat (first | refine blk_drewN ?_ _ | refine blk_drew ?_ | refine blk_alloc ?_ _)); exact BK233.out) hb); have n2_ := Aside0.mk (blk_below (g := gb234) (o := .cells #[.int .i64 a3_0, .int .i64 a3_1, .int .i64 a3_2, .int .i64 a3_3] 35 (0, 0)) (by (with_reducible repeat (first | refine blk_drewN ?_ _ | refine blk_drew ?_ | refine blk_alloc ?_ _)); exact BK234.out) hb); have n3_ := Aside0.mk (below_step (by repeat (first | (with_reducible first | exact HB.out | apply below_alloc | apply pw_below_drewN | apply below_drew1 | refine below_set ?_ GE233.out | refine below_set ?_ GE234.out) | exact HB.out)) hb); clear HO239; clear BK233; clear BK234; clear HB; have HO239 := n0_; have BK233 := n1_; have BK234 := n2_; have HB := n3_; clear n0_ n1_ n2_ n3_; (try clear hb); (try clear hb2); (try clear hk); (try clear hi); obtain ⟨Ao28, co28, eo28⟩ := Kd.R_slice HO239.out; subst eo28; have hcz29_0 : w27.cell? ⟨gb233, 0, none⟩ = some (.int .i64 a0_0) := (blk_cell BK233.out 0).trans rfl; have hcz29_1 : w27.cell? ⟨gb233, 1, none⟩ = some (.bool a0_1) := (blk_cell BK233.out 1).trans rfl; have hcz29_2 : w27.cell? ⟨gb233, 2, none⟩ = some (.int .i64 a0_2) := (blk_cell BK233.out 2).trans rfl; have hcz29_3 : w27.cell? ⟨gb233, 3, none⟩ = some (.int .i64 a0_3) := (blk_cell BK233.out 3).trans rfl; have hcz29_4 : w27.cell? ⟨gb233, 4, none⟩ = some (.slice A0_4 l0_4.length c0_4) := (blk_cell BK233.out 4).trans rfl; have hcz29_5 : w27.cell? ⟨gb233, 5, none⟩ = some (.slice A0_5 l0_5.length c0_5) := (blk_cell BK233.out 5).trans rfl; have hcz29_6 : w27.cell? ⟨gb233, 6, none⟩ = some (.int .i64 a0_6) := (blk_cell BK233.out 6).trans rfl; have hcz29_7 : w27.cell? ⟨gb233, 7, none⟩ = some (.bool a0_7) := (blk_cell BK233.out 7).trans rfl; have hfz29_0 := blk_frozen BK233.out 0; have hfz29_1 := blk_frozen BK233.out 1; have hfz29_2 := blk_frozen BK233.out 2; have hfz29_3 := blk_frozen BK233.out 3; have hfz29_4 := blk_frozen BK233.out 4; have hfz29_5 := blk_frozen BK233.out 5; have hfz29_6 := blk_frozen BK233.out 6; have hfz29_7 := blk_frozen BK233.out 7) | (go_at_call 14; (with_reducible refine (preset_All.calls kj6 a0_0 a0_1 a0_2 a0_3 _ _ l0_4 _ _ l0_5 a0_6 a0_7 a1 t241 _ ?side1 ?side2 ?side3 ?side4 A23.out).mono ?_); (case side1 => repeat (first | exact (Kd.C_below HR0_4.out HB.out) | (with_reducible refine Kd.C_alloc ?_ _) | (with_reducible refine Kd.C_drewN ?_ _) | (with_reducible refine Kd.C_drew ?_))); (case side2 => exact HC0_4.out); (case side3 => repeat (first | exact (Kd.C_below HR0_5.out HB.out) | (with_reducible refine Kd.C_alloc ?_ _) | (with_reducible refine Kd.C_drewN ?_ _) | (with_reducible refine Kd.C_drew ?_))); (case side4 => exact HC0_5.out); rintro e w30 ⟨v242, rfl, ho0, hb⟩; have n0_ := Aside0.mk (Kd.R_elder' (by (with_reducible repeat (first | apply Kd.R_alloc | apply Kd.R_drewN | apply Kd.R_drew)); exact HO239.out) (Kd.R_base ho0) hb); have n1_ := Aside0.mk (Kd.R_lower (Kd.R_newB (Kd.R_new' ho0 (Kd.R_lt (by (with_reducible repeat (first | apply Kd.R_alloc | apply Kd.R_drewN | apply Kd.R_drew)); exact HO239.out))) (g := gb234) (o := .cells #[.int .i64 a3_0, .int .i64 a3_1, .int .i64 a3_2, .int .i64 a3_3] 35 (0, 0)) (by (with_reducible repeat (first | refine blk_drewN ?_ _ | refine blk_drew ?_ | refine blk_alloc ?_ _)); exact BK234.out)) (below_size (by repeat (first | (with_reducible first | exact HB.out | apply below_alloc | apply pw_below_drewN | apply below_drew1 | refine below_set ?_ GE233.out | refine below_set ?_ GE234.out) | exact HB.out)))); have n2_ := Aside0.mk (blk_below (g := gb233) (o := .cells #[.int .i64 a0_0, .bool a0_1, .int .i64 a0_2, .int .i64 a0_3, .slice A0_4 l0_4.length c0_4, .slice A0_5 l0_5.length c0_5, .int .i64 a0_6, .bool a0_7] 24 (0, 0)) (by (with_reducible repeat (first | refine blk_drewN ?_ _ | refine blk_drew ?_ | refine blk_alloc ?_ _)); exact BK233.out) hb); have n3_ := Aside0.mk (blk_below (g := gb234) (o := .cells #[.int .i64 a3_0, .int .i64 a3_1, .int .i64 a3_2, .int .i64 a3_3] 35 (0, 0)) (by (with_reducible repeat (first | refine blk_drewN ?_ _ | refine blk_drew ?_ | refine blk_alloc ?_ _)); exact BK234.out) hb); have n4_ := Aside0.mk (below_step (by repeat (first | (with_reducible first | exact HB.out | apply below_alloc | apply pw_below_drewN | apply below_drew1 | refine below_set ?_ GE233.out | refine below_set ?_ GE234.out) | exact HB.out)) hb); clear HO239; clear BK233; clear BK234; clear HB; have HO239 := n0_; have HO243 := n1_; have BK233 := n2_; have BK234 := n3_; have HB := n4_; clear n0_ n1_ n2_ n3_ n4_; (try clear hb); (try clear hb2); (try clear hk); (try clear hi); (try clear ho0); obtain ⟨Ao31, co31, eo31⟩ := Kd.R_slice HO243.out; subst eo31) | (go_at_call 17; (with_reducible refine (serinetteref19_Same.calls kj6 _ _ t241 _ _ t237 t244 _ ?side1 ?side2 ?side3 ?side4 A24.out).mono ?_); (case side1 => repeat (first | exact (Kd.R_reads' HO243.out).2.2 | (with_reducible refine Kd.C_alloc ?_ _) | (with_reducible refine Kd.C_drewN ?_ _) | (with_reducible refine Kd.C_drew ?_))); (case side2 => exact (Kd.R_reads' HO243.out).2.1); (case side3 => repeat (first | exact (Kd.R_reads' HO239.out).2.2 | (with_reducible refine Kd.C_alloc ?_ _) | (with_reducible refine Kd.C_drewN ?_ _) | (with_reducible refine Kd.C_drew ?_))); (case side4 => exact (Kd.R_reads' HO239.out).2.1); rintro e w' ⟨rfl, ⟨nd, rfl⟩⟩; (try first | exact ⟨rfl, _, World.drewN_drewN _ _ _⟩ | exact ⟨rfl, _, Eq.trans (World.drewN_drewN _ _ _) (congrArg (World.drewN _) (Nat.add_assoc _ _ _))⟩))))
            go_meet
            case rel => exact ⟨_, (!t244), (by first | rfl | (simp; done) | (simp [*]; done)), H', ⟨by have := HJ6.out; first | omega | exact Nat.le_refl _⟩, ⟨by (with_reducible repeat (first | apply Kd.R_alloc | apply Kd.R_drewN | apply Kd.R_drew)); exact Kd.R_mono HO239.out (fun _ hk => hk.1.2)⟩, ⟨by (with_reducible repeat (first | refine blk_drewN ?_ _ | refine blk_drew ?_ | refine blk_alloc ?_ _)); exact BK233.out⟩, ⟨by (with_reducible repeat (first | refine blk_drewN ?_ _ | refine blk_drew ?_ | refine blk_alloc ?_ _)); exact BK234.out⟩, ⟨by repeat (first | (with_reducible first | exact HB.out | apply below_alloc | apply pw_below_drewN | apply below_drew1 | refine below_set ?_ GE233.out | refine below_set ?_ GE234.out) | exact HB.out)⟩⟩
          · rw [if_neg c22] at H
            have c22b0 : (t240 == (t237.length : Int)) = false := beq_eq_false_iff_ne.mpr c22
            have c22b1 : (t240 != (t237.length : Int)) = true := bne_iff_ne.mpr c22
            (first | rw [c22b0] | (simp only [i64_w, i32_w]; rw [c22b0]) | skip)
            have H' := Aside0.mk H
            clear H
            have hnb32 := NB233_234.out
            have hnc32 := NB234_233.out
            have hcz33_0 : w20.cell? ⟨gb233, 0, none⟩ = some (.int .i64 a0_0) := (blk_cell BK233.out 0).trans rfl
            have hcz33_1 : w20.cell? ⟨gb233, 1, none⟩ = some (.bool a0_1) := (blk_cell BK233.out 1).trans rfl
            have hcz33_2 : w20.cell? ⟨gb233, 2, none⟩ = some (.int .i64 a0_2) := (blk_cell BK233.out 2).trans rfl
            have hcz33_3 : w20.cell? ⟨gb233, 3, none⟩ = some (.int .i64 a0_3) := (blk_cell BK233.out 3).trans rfl
            have hcz33_4 : w20.cell? ⟨gb233, 4, none⟩ = some (.slice A0_4 l0_4.length c0_4) := (blk_cell BK233.out 4).trans rfl
            have hcz33_5 : w20.cell? ⟨gb233, 5, none⟩ = some (.slice A0_5 l0_5.length c0_5) := (blk_cell BK233.out 5).trans rfl
            have hcz33_6 : w20.cell? ⟨gb233, 6, none⟩ = some (.int .i64 a0_6) := (blk_cell BK233.out 6).trans rfl
            have hcz33_7 : w20.cell? ⟨gb233, 7, none⟩ = some (.bool a0_7) := (blk_cell BK233.out 7).trans rfl
            have hfz33_0 := blk_frozen BK233.out 0
            have hfz33_1 := blk_frozen BK233.out 1
            have hfz33_2 := blk_frozen BK233.out 2
            have hfz33_3 := blk_frozen BK233.out 3
            have hfz33_4 := blk_frozen BK233.out 4
            have hfz33_5 := blk_frozen BK233.out 5
            have hfz33_6 := blk_frozen BK233.out 6
            have hfz33_7 := blk_frozen BK233.out 7
            go_wp2_with (first | (go_at_call 16; (with_reducible refine (preset_Count.calls a0_0 a0_1 a0_2 a0_3 _ _ l0_4 _ _ l0_5 a0_6 a0_7 a1 t240 _ ?side1 ?side2 ?side3 ?side4 A21.out).mono ?_); (case side1 => repeat (first | exact (Kd.C_below HR0_4.out HB.out) | (with_reducible refine Kd.C_alloc ?_ _) | (with_reducible refine Kd.C_drewN ?_ _) | (with_reducible refine Kd.C_drew ?_))); (case side2 => exact HC0_4.out); (case side3 => repeat (first | exact (Kd.C_below HR0_5.out HB.out) | (with_reducible refine Kd.C_alloc ?_ _) | (with_reducible refine Kd.C_drewN ?_ _) | (with_reducible refine Kd.C_drew ?_))); (case side4 => exact HC0_5.out); rintro e w34 ⟨rfl, hb⟩; have n0_ := Aside0.mk (Kd.R_below (by (with_reducible repeat (first | apply Kd.R_alloc | apply Kd.R_drewN | apply Kd.R_drew)); exact HO239.out) hb); have n1_ := Aside0.mk (blk_below (g := gb233) (o := .cells #[.int .i64 a0_0, .bool a0_1, .int .i64 a0_2, .int .i64 a0_3, .slice A0_4 l0_4.length c0_4, .slice A0_5 l0_5.length c0_5, .int .i64 a0_6, .bool a0_7] 24 (0, 0)) (by (with_reducible repeat (first | refine blk_drewN ?_ _ | refine blk_drew ?_ | refine blk_alloc ?_ _)); exact BK233.out) hb); have n2_ := Aside0.mk (blk_below (g := gb234) (o := .cells #[.int .i64 a3_0, .int .i64 a3_1, .int .i64 a3_2, .int .i64 a3_3] 35 (0, 0)) (by (with_reducible repeat (first | refine blk_drewN ?_ _ | refine blk_drew ?_ | refine blk_alloc ?_ _)); exact BK234.out) hb); have n3_ := Aside0.mk (below_step (by repeat (first | (with_reducible first | exact HB.out | apply below_alloc | apply pw_below_drewN | apply below_drew1 | refine below_set ?_ GE233.out | refine below_set ?_ GE234.out) | exact HB.out)) hb); clear HO239; clear BK233; clear BK234; clear HB; have HO239 := n0_; have BK233 := n1_; have BK234 := n2_; have HB := n3_; clear n0_ n1_ n2_ n3_; (try clear hb); (try clear hb2); (try clear hk); (try clear hi); obtain ⟨Ao35, co35, eo35⟩ := Kd.R_slice HO239.out; subst eo35))
            repeat (go_quiet (first | (go_at_call 16; (with_reducible refine (preset_Count.calls a0_0 a0_1 a0_2 a0_3 _ _ l0_4 _ _ l0_5 a0_6 a0_7 a1 t240 _ ?side1 ?side2 ?side3 ?side4 A21.out).mono ?_); (case side1 => repeat (first | exact (Kd.C_below HR0_4.out HB.out) | (with_reducible refine Kd.C_alloc ?_ _) | (with_reducible refine Kd.C_drewN ?_ _) | (with_reducible refine Kd.C_drew ?_))); (case side2 => exact HC0_4.out); (case side3 => repeat (first | exact (Kd.C_below HR0_5.out HB.out) | (with_reducible refine Kd.C_alloc ?_ _) | (with_reducible refine Kd.C_drewN ?_ _) | (with_reducible refine Kd.C_drew ?_))); (case side4 => exact HC0_5.out); rintro e w34 ⟨rfl, hb⟩; have n0_ := Aside0.mk (Kd.R_below (by (with_reducible repeat (first | apply Kd.R_alloc | apply Kd.R_drewN | apply Kd.R_drew)); exact HO239.out) hb); have n1_ := Aside0.mk (blk_below (g := gb233) (o := .cells #[.int .i64 a0_0, .bool a0_1, .int .i64 a0_2, .int .i64 a0_3, .slice A0_4 l0_4.length c0_4, .slice A0_5 l0_5.length c0_5, .int .i64 a0_6, .bool a0_7] 24 (0, 0)) (by (with_reducible repeat (first | refine blk_drewN ?_ _ | refine blk_drew ?_ | refine blk_alloc ?_ _)); exact BK233.out) hb); have n2_ := Aside0.mk (blk_below (g := gb234) (o := .cells #[.int .i64 a3_0, .int .i64 a3_1, .int .i64 a3_2, .int .i64 a3_3] 35 (0, 0)) (by (with_reducible repeat (first | refine blk_drewN ?_ _ | refine blk_drew ?_ | refine blk_alloc ?_ _)); exact BK234.out) hb); have n3_ := Aside0.mk (below_step (by repeat (first | (with_reducible first | exact HB.out | apply below_alloc | apply pw_below_drewN | apply below_drew1 | refine below_set ?_ GE233.out | refine below_set ?_ GE234.out) | exact HB.out)) hb); clear HO239; clear BK233; clear BK234; clear HB; have HO239 := n0_; have BK233 := n1_; have BK234 := n2_; have HB := n3_; clear n0_ n1_ n2_ n3_; (try clear hb); (try clear hb2); (try clear hk); (try clear hi); obtain ⟨Ao35, co35, eo35⟩ := Kd.R_slice HO239.out; subst eo35)); try go_wp2_with (first | (go_at_call 16; (with_reducible refine (preset_Count.calls a0_0 a0_1 a0_2 a0_3 _ _ l0_4 _ _ l0_5 a0_6 a0_7 a1 t240 _ ?side1 ?side2 ?side3 ?side4 A21.out).mono ?_); (case side1 => repeat (first | exact (Kd.C_below HR0_4.out HB.out) | (with_reducible refine Kd.C_alloc ?_ _) | (with_reducible refine Kd.C_drewN ?_ _) | (with_reducible refine Kd.C_drew ?_))); (case side2 => exact HC0_4.out); (case side3 => repeat (first | exact (Kd.C_below HR0_5.out HB.out) | (with_reducible refine Kd.C_alloc ?_ _) | (with_reducible refine Kd.C_drewN ?_ _) | (with_reducible refine Kd.C_drew ?_))); (case side4 => exact HC0_5.out); rintro e w34 ⟨rfl, hb⟩; have n0_ := Aside0.mk (Kd.R_below (by (with_reducible repeat (first | apply Kd.R_alloc | apply Kd.R_drewN | apply Kd.R_drew)); exact HO239.out) hb); have n1_ := Aside0.mk (blk_below (g := gb233) (o := .cells #[.int .i64 a0_0, .bool a0_1, .int .i64 a0_2, .int .i64 a0_3, .slice A0_4 l0_4.length c0_4, .slice A0_5 l0_5.length c0_5, .int .i64 a0_6, .bool a0_7] 24 (0, 0)) (by (with_reducible repeat (first | refine blk_drewN ?_ _ | refine blk_drew ?_ | refine blk_alloc ?_ _)); exact BK233.out) hb); have n2_ := Aside0.mk (blk_below (g := gb234) (o := .cells #[.int .i64 a3_0, .int .i64 a3_1, .int .i64 a3_2, .int .i64 a3_3] 35 (0, 0)) (by (with_reducible repeat (first | refine blk_drewN ?_ _ | refine blk_drew ?_ | refine blk_alloc ?_ _)); exact BK234.out) hb); have n3_ := Aside0.mk (below_step (by repeat (first | (with_reducible first | exact HB.out | apply below_alloc | apply pw_below_drewN | apply below_drew1 | refine below_set ?_ GE233.out | refine below_set ?_ GE234.out) | exact HB.out)) hb); clear HO239; clear BK233; clear BK234; clear HB; have HO239 := n0_; have BK233 := n1_; have BK234 := n2_; have HB := n3_; clear n0_ n1_ n2_ n3_; (try clear hb); (try clear hb2); (try clear hk); (try clear hi); obtain ⟨Ao35, co35, eo35⟩ := Kd.R_slice HO239.out; subst eo35)))
            go_meet
            case rel => exact ⟨_, (true), (by first | rfl | (simp; done) | (simp [*]; done)), H', ⟨by have := HJ6.out; first | omega | exact Nat.le_refl _⟩, ⟨by (with_reducible repeat (first | apply Kd.R_alloc | apply Kd.R_drewN | apply Kd.R_drew)); exact Kd.R_mono HO239.out (fun _ hk => hk.2)⟩, ⟨by (with_reducible repeat (first | refine blk_drewN ?_ _ | refine blk_drew ?_ | refine blk_alloc ?_ _)); exact BK233.out⟩, ⟨by (with_reducible repeat (first | refine blk_drewN ?_ _ | refine blk_drew ?_ | refine blk_alloc ?_ _)); exact BK234.out⟩, ⟨by repeat (first | (with_reducible first | exact HB.out | apply below_alloc | apply pw_below_drewN | apply below_drew1 | refine below_set ?_ GE233.out | refine below_set ?_ GE234.out) | exact HB.out)⟩⟩
        case rest =>
          clear HC17
          try clear c1
          try clear c2
          try clear p2
          try clear c3
          try clear c5
          try clear c11
          try clear c14
          try clear c14b0
          try clear c14b1
          try clear c15
          try clear c18
          try clear c22
          try clear c22b0
          try clear c22b1
          try clear c25
          try clear c32
          try clear hcz12_0
          try clear hcz12_1
          try clear hcz12_2
          try clear hcz12_3
          try clear hcz12_4
          try clear hcz12_5
          try clear hcz12_6
          try clear hcz12_7
          try clear hcz19_0
          try clear hcz19_1
          try clear hcz19_2
          try clear hcz19_3
          try clear hcz19_4
          try clear hcz19_5
          try clear hcz19_6
          try clear hcz19_7
          try clear hcz26_0
          try clear hcz26_1
          try clear hcz26_2
          try clear hcz26_3
          try clear hcz26_4
          try clear hcz26_5
          try clear hcz26_6
          try clear hcz26_7
          try clear hcz29_0
          try clear hcz29_1
          try clear hcz29_2
          try clear hcz29_3
          try clear hcz29_4
          try clear hcz29_5
          try clear hcz29_6
          try clear hcz29_7
          try clear hcz33_0
          try clear hcz33_1
          try clear hcz33_2
          try clear hcz33_3
          try clear hcz33_4
          try clear hcz33_5
          try clear hcz33_6
          try clear hcz33_7
          try clear hfz12_0
          try clear hfz12_1
          try clear hfz12_2
          try clear hfz12_3
          try clear hfz12_4
          try clear hfz12_5
          try clear hfz12_6
          try clear hfz12_7
          try clear hfz19_0
          try clear hfz19_1
          try clear hfz19_2
          try clear hfz19_3
          try clear hfz19_4
          try clear hfz19_5
          try clear hfz19_6
          try clear hfz19_7
          try clear hfz26_0
          try clear hfz26_1
          try clear hfz26_2
          try clear hfz26_3
          try clear hfz26_4
          try clear hfz26_5
          try clear hfz26_6
          try clear hfz26_7
          try clear hfz29_0
          try clear hfz29_1
          try clear hfz29_2
          try clear hfz29_3
          try clear hfz29_4
          try clear hfz29_5
          try clear hfz29_6
          try clear hfz29_7
          try clear hfz33_0
          try clear hfz33_1
          try clear hfz33_2
          try clear hfz33_3
          try clear hfz33_4
          try clear hfz33_5
          try clear hfz33_6
          try clear hfz33_7
          try clear p2
          obtain ⟨kq, x43_16, rfl, HA, HJ16, HO_11, BK233, BK234, HB⟩ := hcut
          cases kq with
          | zero => exact absurd HA.out (by simp [serinettelaw19_PresetChoices.j1])
          | succ kj16 =>
            have H := HA.out
            clear HA
            simp only [serinettelaw19_PresetChoices.j1] at H
            by_cases c36 : x43_16 = true
            · subst c36
              have H1 : (some false) = some r := by rw [if_pos rfl] at H; exact H
              clear H
              have H := H1
              clear H1
              obtain rfl := Option.some.inj H
              go_wp2
              repeat (go_quiet (fail); try go_wp2)
              go_ret
              exact ⟨by first | rfl | (simp [errW_none, errW_some] <;> rfl) | (simp [*, errW_none, errW_some] <;> rfl), by repeat (first | (with_reducible first | exact HB.out | apply below_alloc | apply pw_below_drewN | apply below_drew1 | refine below_set ?_ GE233.out | refine below_set ?_ GE234.out) | exact HB.out)⟩
            · replace c36 := Bool.eq_false_iff.mpr c36
              subst c36
              have H1 : ((preset_At.f kj16 a0_0 a0_1 a0_2 a0_3 l0_4 l0_5 a0_6 a0_7 a1 a2).bind fun bt245 => (if a2 ≥ 0 then (if (bt245.2.2.2.2 != (decide (a2 < (t237.length : Int)))) = true then (serinettelaw19_PresetChoices.j2 kj16 a1 t235 t237 true a0_0 a0_1 a0_2 a0_3 l0_4 l0_5 a0_6 a0_7 a3_0 a3_1 a3_2 a3_3) else (if bt245.2.2.2.2 = true then (if 0 ≤ a2 then (if a2 < (t237.length : Int) then (if (!(bt245.1 == ((rd_T35 t237 a2).f0)) || (!(bt245.2.1 == ((rd_T35 t237 a2).f1)) || (!(bt245.2.2.1 == ((rd_T35 t237 a2).f2)) || (!(bt245.2.2.2.1 == ((rd_T35 t237 a2).f3)))))) = true then (serinettelaw19_PresetChoices.j2 kj16 a1 t235 t237 true a0_0 a0_1 a0_2 a0_3 l0_4 l0_5 a0_6 a0_7 a3_0 a3_1 a3_2 a3_3) else (serinettelaw19_PresetChoices.j2 kj16 a1 t235 t237 false a0_0 a0_1 a0_2 a0_3 l0_4 l0_5 a0_6 a0_7 a3_0 a3_1 a3_2 a3_3)) else (none)) else (none)) else (serinettelaw19_PresetChoices.j2 kj16 a1 t235 t237 (!(bt245.1 == 0) || (!(bt245.2.1 == 0) || (!(bt245.2.2.1 == 0) || (!(bt245.2.2.2.1 == 0))))) a0_0 a0_1 a0_2 a0_3 l0_4 l0_5 a0_6 a0_7 a3_0 a3_1 a3_2 a3_3))) else (if (bt245.2.2.2.2 != false) = true then (serinettelaw19_PresetChoices.j2 kj16 a1 t235 t237 true a0_0 a0_1 a0_2 a0_3 l0_4 l0_5 a0_6 a0_7 a3_0 a3_1 a3_2 a3_3) else (if bt245.2.2.2.2 = true then (if 0 ≤ a2 then (if a2 < (t237.length : Int) then (if (!(bt245.1 == ((rd_T35 t237 a2).f0)) || (!(bt245.2.1 == ((rd_T35 t237 a2).f1)) || (!(bt245.2.2.1 == ((rd_T35 t237 a2).f2)) || (!(bt245.2.2.2.1 == ((rd_T35 t237 a2).f3)))))) = true then (serinettelaw19_PresetChoices.j2 kj16 a1 t235 t237 true a0_0 a0_1 a0_2 a0_3 l0_4 l0_5 a0_6 a0_7 a3_0 a3_1 a3_2 a3_3) else (serinettelaw19_PresetChoices.j2 kj16 a1 t235 t237 false a0_0 a0_1 a0_2 a0_3 l0_4 l0_5 a0_6 a0_7 a3_0 a3_1 a3_2 a3_3)) else (none)) else (none)) else (serinettelaw19_PresetChoices.j2 kj16 a1 t235 t237 (!(bt245.1 == 0) || (!(bt245.2.1 == 0) || (!(bt245.2.2.1 == 0) || (!(bt245.2.2.2.1 == 0))))) a0_0 a0_1 a0_2 a0_3 l0_4 l0_5 a0_6 a0_7 a3_0 a3_1 a3_2 a3_3))))) = some r := by rw [if_neg (show ¬ (false = true) by decide)] at H; exact H
              clear H
              have H := H1
              clear H1
              replace H := Option.bind_eq_some_iff.mp H
              obtain ⟨⟨t245, t246, t247, t248, t249⟩, A370, H⟩ := H
              replace H : (if a2 ≥ 0 then (if (t249 != (decide (a2 < (t237.length : Int)))) = true then (serinettelaw19_PresetChoices.j2 kj16 a1 t235 t237 true a0_0 a0_1 a0_2 a0_3 l0_4 l0_5 a0_6 a0_7 a3_0 a3_1 a3_2 a3_3) else (if t249 = true then (if 0 ≤ a2 then (if a2 < (t237.length : Int) then (if (!(t245 == ((rd_T35 t237 a2).f0)) || (!(t246 == ((rd_T35 t237 a2).f1)) || (!(t247 == ((rd_T35 t237 a2).f2)) || (!(t248 == ((rd_T35 t237 a2).f3)))))) = true then (serinettelaw19_PresetChoices.j2 kj16 a1 t235 t237 true a0_0 a0_1 a0_2 a0_3 l0_4 l0_5 a0_6 a0_7 a3_0 a3_1 a3_2 a3_3) else (serinettelaw19_PresetChoices.j2 kj16 a1 t235 t237 false a0_0 a0_1 a0_2 a0_3 l0_4 l0_5 a0_6 a0_7 a3_0 a3_1 a3_2 a3_3)) else (none)) else (none)) else (serinettelaw19_PresetChoices.j2 kj16 a1 t235 t237 (!(t245 == 0) || (!(t246 == 0) || (!(t247 == 0) || (!(t248 == 0))))) a0_0 a0_1 a0_2 a0_3 l0_4 l0_5 a0_6 a0_7 a3_0 a3_1 a3_2 a3_3))) else (if (t249 != false) = true then (serinettelaw19_PresetChoices.j2 kj16 a1 t235 t237 true a0_0 a0_1 a0_2 a0_3 l0_4 l0_5 a0_6 a0_7 a3_0 a3_1 a3_2 a3_3) else (if t249 = true then (if 0 ≤ a2 then (if a2 < (t237.length : Int) then (if (!(t245 == ((rd_T35 t237 a2).f0)) || (!(t246 == ((rd_T35 t237 a2).f1)) || (!(t247 == ((rd_T35 t237 a2).f2)) || (!(t248 == ((rd_T35 t237 a2).f3)))))) = true then (serinettelaw19_PresetChoices.j2 kj16 a1 t235 t237 true a0_0 a0_1 a0_2 a0_3 l0_4 l0_5 a0_6 a0_7 a3_0 a3_1 a3_2 a3_3) else (serinettelaw19_PresetChoices.j2 kj16 a1 t235 t237 false a0_0 a0_1 a0_2 a0_3 l0_4 l0_5 a0_6 a0_7 a3_0 a3_1 a3_2 a3_3)) else (none)) else (none)) else (serinettelaw19_PresetChoices.j2 kj16 a1 t235 t237 (!(t245 == 0) || (!(t246 == 0) || (!(t247 == 0) || (!(t248 == 0))))) a0_0 a0_1 a0_2 a0_3 l0_4 l0_5 a0_6 a0_7 a3_0 a3_1 a3_2 a3_3)))) = some r := H
              have A37 := Aside0.mk A370
              clear A370
              have HC38 := Aside0.mk H
              clear H
              have hnb39 := NB233_234.out
              have hnc39 := NB234_233.out
              have hcz40_0 : wc.cell? ⟨gb233, 0, none⟩ = some (.int .i64 a0_0) := (blk_cell BK233.out 0).trans rfl
              have hcz40_1 : wc.cell? ⟨gb233, 1, none⟩ = some (.bool a0_1) := (blk_cell BK233.out 1).trans rfl
              have hcz40_2 : wc.cell? ⟨gb233, 2, none⟩ = some (.int .i64 a0_2) := (blk_cell BK233.out 2).trans rfl
              have hcz40_3 : wc.cell? ⟨gb233, 3, none⟩ = some (.int .i64 a0_3) := (blk_cell BK233.out 3).trans rfl
              have hcz40_4 : wc.cell? ⟨gb233, 4, none⟩ = some (.slice A0_4 l0_4.length c0_4) := (blk_cell BK233.out 4).trans rfl
              have hcz40_5 : wc.cell? ⟨gb233, 5, none⟩ = some (.slice A0_5 l0_5.length c0_5) := (blk_cell BK233.out 5).trans rfl
              have hcz40_6 : wc.cell? ⟨gb233, 6, none⟩ = some (.int .i64 a0_6) := (blk_cell BK233.out 6).trans rfl
              have hcz40_7 : wc.cell? ⟨gb233, 7, none⟩ = some (.bool a0_7) := (blk_cell BK233.out 7).trans rfl
              have hfz40_0 := blk_frozen BK233.out 0
              have hfz40_1 := blk_frozen BK233.out 1
              have hfz40_2 := blk_frozen BK233.out 2
              have hfz40_3 := blk_frozen BK233.out 3
              have hfz40_4 := blk_frozen BK233.out 4
              have hfz40_5 := blk_frozen BK233.out 5
              have hfz40_6 := blk_frozen BK233.out 6
              have hfz40_7 := blk_frozen BK233.out 7
              go_upto_region 9 with (first | (go_at_call 18; (with_reducible refine (preset_At.calls kj16 a0_0 a0_1 a0_2 a0_3 _ _ l0_4 _ _ l0_5 a0_6 a0_7 a1 a2 t245 t246 t247 t248 t249 _ ?side1 ?side2 ?side3 ?side4 A37.out).mono ?_); (case side1 => repeat (first | exact (Kd.C_below HR0_4.out HB.out) | (with_reducible refine Kd.C_alloc ?_ _) | (with_reducible refine Kd.C_drewN ?_ _) | (with_reducible refine Kd.C_drew ?_))); (case side2 => exact HC0_4.out); (case side3 => repeat (first | exact (Kd.C_below HR0_5.out HB.out) | (with_reducible refine Kd.C_alloc ?_ _) | (with_reducible refine Kd.C_drewN ?_ _) | (with_reducible refine Kd.C_drew ?_))); (case side4 => exact HC0_5.out); rintro e w41 ⟨rfl, hb⟩; have n0_ := Aside0.mk (Kd.R_below (by (with_reducible repeat (first | apply Kd.R_alloc | apply Kd.R_drewN | apply Kd.R_drew)); exact HO_11.out) hb); have n1_ := Aside0.mk (blk_below (g := gb233) (o := .cells #[.int .i64 a0_0, .bool a0_1, .int .i64 a0_2, .int .i64 a0_3, .slice A0_4 l0_4.length c0_4, .slice A0_5 l0_5.length c0_5, .int .i64 a0_6, .bool a0_7] 24 (0, 0)) (by (with_reducible repeat (first | refine blk_drewN ?_ _ | refine blk_drew ?_ | refine blk_alloc ?_ _)); exact BK233.out) hb); have n2_ := Aside0.mk (blk_below (g := gb234) (o := .cells #[.int .i64 a3_0, .int .i64 a3_1, .int .i64 a3_2, .int .i64 a3_3] 35 (0, 0)) (by (with_reducible repeat (first | refine blk_drewN ?_ _ | refine blk_drew ?_ | refine blk_alloc ?_ _)); exact BK234.out) hb); have n3_ := Aside0.mk (below_step (by repeat (first | (with_reducible first | exact HB.out | apply below_alloc | apply pw_below_drewN | apply below_drew1 | refine below_set ?_ GE233.out | refine below_set ?_ GE234.out) | exact HB.out)) hb); clear HO_11; clear BK233; clear BK234; clear HB; have HO_11 := n0_; have BK233 := n1_; have BK234 := n2_; have HB := n3_; clear n0_ n1_ n2_ n3_; (try clear hb); (try clear hb2); (try clear hk); (try clear hi)) | ((with_reducible refine gate_dst (N := 12) rfl ?_); (try (refine gate_guard (by rfl) ?_; dsimp only)); refine box_event ?hg (N := 12) ?hd (cs := #[.int .i64 0, .int .i64 0, .int .i64 0, .int .i64 0]) (t := 35) ?hr ?_; (case hd => rfl); (case hg => rfl); (case hr => first | (go_simp; done) | (go_simp; rfl)); intro gb250 hg w42 hbox hb; have n0_ := Aside0.mk (Kd.R_below (Kd.R_elderB (by (with_reducible repeat (first | apply Kd.R_alloc | apply Kd.R_drewN | apply Kd.R_drew)); exact HO_11.out) gb250 (Nat.le_of_eq hg.symm)) hb); have n1_ := Aside0.mk (blk_below (g := gb233) (o := .cells #[.int .i64 a0_0, .bool a0_1, .int .i64 a0_2, .int .i64 a0_3, .slice A0_4 l0_4.length c0_4, .slice A0_5 l0_5.length c0_5, .int .i64 a0_6, .bool a0_7] 24 (0, 0)) (by (with_reducible repeat (first | refine blk_drewN ?_ _ | refine blk_drew ?_ | refine blk_alloc ?_ _)); exact BK233.out) hb); have n2_ := Aside0.mk (blk_below (g := gb234) (o := .cells #[.int .i64 a3_0, .int .i64 a3_1, .int .i64 a3_2, .int .i64 a3_3] 35 (0, 0)) (by (with_reducible repeat (first | refine blk_drewN ?_ _ | refine blk_drew ?_ | refine blk_alloc ?_ _)); exact BK234.out) hb); have n3_ := Aside0.mk (below_step (by repeat (first | (with_reducible first | exact HB.out | apply below_alloc | apply pw_below_drewN | apply below_drew1 | refine below_set ?_ GE233.out | refine below_set ?_ GE234.out) | exact HB.out)) hb); have n4_ := Aside0.mk (hbox); have n5_ := Aside0.mk ((by rw [hg]; exact (below_size (by repeat (first | (with_reducible first | exact HB.out | apply below_alloc | apply pw_below_drewN | apply below_drew1 | refine below_set ?_ GE233.out | refine below_set ?_ GE234.out) | exact HB.out))) : w.heap.size ≤ gb250)); have n6_ := Aside0.mk ((by rw [hg]; exact (below_size (by repeat (first | (with_reducible first | exact HB.out | apply below_alloc | apply pw_below_drewN | apply below_drew1 | refine below_set ?_ GE233.out | refine below_set ?_ GE234.out) | exact HB.out))) : w.heap.size ≤ gb250)); have n7_ := Aside0.mk ((by rw [hg]; exact Nat.ne_of_lt (blk_lt (g := gb233) (o := .cells #[.int .i64 a0_0, .bool a0_1, .int .i64 a0_2, .int .i64 a0_3, .slice A0_4 l0_4.length c0_4, .slice A0_5 l0_5.length c0_5, .int .i64 a0_6, .bool a0_7] 24 (0, 0)) (by (with_reducible repeat (first | refine blk_drewN ?_ _ | refine blk_drew ?_ | refine blk_alloc ?_ _)); exact BK233.out)) : gb233 ≠ gb250)); have n8_ := Aside0.mk ((by rw [hg]; exact Nat.ne_of_gt (blk_lt (g := gb233) (o := .cells #[.int .i64 a0_0, .bool a0_1, .int .i64 a0_2, .int .i64 a0_3, .slice A0_4 l0_4.length c0_4, .slice A0_5 l0_5.length c0_5, .int .i64 a0_6, .bool a0_7] 24 (0, 0)) (by (with_reducible repeat (first | refine blk_drewN ?_ _ | refine blk_drew ?_ | refine blk_alloc ?_ _)); exact BK233.out)) : gb250 ≠ gb233)); have n9_ := Aside0.mk ((by rw [hg]; exact Nat.ne_of_lt (blk_lt (g := gb234) (o := .cells #[.int .i64 a3_0, .int .i64 a3_1, .int .i64 a3_2, .int .i64 a3_3] 35 (0, 0)) (by (with_reducible repeat (first | refine blk_drewN ?_ _ | refine blk_drew ?_ | refine blk_alloc ?_ _)); exact BK234.out)) : gb234 ≠ gb250)); have n10_ := Aside0.mk ((by rw [hg]; exact Nat.ne_of_gt (blk_lt (g := gb234) (o := .cells #[.int .i64 a3_0, .int .i64 a3_1, .int .i64 a3_2, .int .i64 a3_3] 35 (0, 0)) (by (with_reducible repeat (first | refine blk_drewN ?_ _ | refine blk_drew ?_ | refine blk_alloc ?_ _)); exact BK234.out)) : gb250 ≠ gb234)); clear HO_11; clear BK233; clear BK234; clear HB; have HO_11 := n0_; have BK233 := n1_; have BK234 := n2_; have HB := n3_; have BK250 := n4_; have GW250 := n5_; have GE250 := n6_; have NB233_250 := n7_; have NB250_233 := n8_; have NB234_250 := n9_; have NB250_234 := n10_; clear n0_ n1_ n2_ n3_ n4_ n5_ n6_ n7_ n8_ n9_ n10_; clear hb hbox hg; have hnb43 := NB250_233.out; have hnc43 := NB233_250.out; have hnb44 := NB250_234.out; have hnc44 := NB234_250.out; have hcz45_0 : w42.cell? ⟨gb250, 0, none⟩ = some (.int .i64 0) := (blk_cell BK250.out 0).trans rfl; have hcz45_1 : w42.cell? ⟨gb250, 1, none⟩ = some (.int .i64 0) := (blk_cell BK250.out 1).trans rfl; have hcz45_2 : w42.cell? ⟨gb250, 2, none⟩ = some (.int .i64 0) := (blk_cell BK250.out 2).trans rfl; have hcz45_3 : w42.cell? ⟨gb250, 3, none⟩ = some (.int .i64 0) := (blk_cell BK250.out 3).trans rfl; have hfz45_0 := blk_frozen BK250.out 0; have hfz45_1 := blk_frozen BK250.out 1; have hfz45_2 := blk_frozen BK250.out 2; have hfz45_3 := blk_frozen BK250.out 3))
              repeat (go_quiet (first | (go_at_call 18; (with_reducible refine (preset_At.calls kj16 a0_0 a0_1 a0_2 a0_3 _ _ l0_4 _ _ l0_5 a0_6 a0_7 a1 a2 t245 t246 t247 t248 t249 _ ?side1 ?side2 ?side3 ?side4 A37.out).mono ?_); (case side1 => repeat (first | exact (Kd.C_below HR0_4.out HB.out) | (with_reducible refine Kd.C_alloc ?_ _) | (with_reducible refine Kd.C_drewN ?_ _) | (with_reducible refine Kd.C_drew ?_))); (case side2 => exact HC0_4.out); (case side3 => repeat (first | exact (Kd.C_below HR0_5.out HB.out) | (with_reducible refine Kd.C_alloc ?_ _) | (with_reducible refine Kd.C_drewN ?_ _) | (with_reducible refine Kd.C_drew ?_))); (case side4 => exact HC0_5.out); rintro e w41 ⟨rfl, hb⟩; have n0_ := Aside0.mk (Kd.R_below (by (with_reducible repeat (first | apply Kd.R_alloc | apply Kd.R_drewN | apply Kd.R_drew)); exact HO_11.out) hb); have n1_ := Aside0.mk (blk_below (g := gb233) (o := .cells #[.int .i64 a0_0, .bool a0_1, .int .i64 a0_2, .int .i64 a0_3, .slice A0_4 l0_4.length c0_4, .slice A0_5 l0_5.length c0_5, .int .i64 a0_6, .bool a0_7] 24 (0, 0)) (by (with_reducible repeat (first | refine blk_drewN ?_ _ | refine blk_drew ?_ | refine blk_alloc ?_ _)); exact BK233.out) hb); have n2_ := Aside0.mk (blk_below (g := gb234) (o := .cells #[.int .i64 a3_0, .int .i64 a3_1, .int .i64 a3_2, .int .i64 a3_3] 35 (0, 0)) (by (with_reducible repeat (first | refine blk_drewN ?_ _ | refine blk_drew ?_ | refine blk_alloc ?_ _)); exact BK234.out) hb); have n3_ := Aside0.mk (below_step (by repeat (first | (with_reducible first | exact HB.out | apply below_alloc | apply pw_below_drewN | apply below_drew1 | refine below_set ?_ GE233.out | refine below_set ?_ GE234.out) | exact HB.out)) hb); clear HO_11; clear BK233; clear BK234; clear HB; have HO_11 := n0_; have BK233 := n1_; have BK234 := n2_; have HB := n3_; clear n0_ n1_ n2_ n3_; (try clear hb); (try clear hb2); (try clear hk); (try clear hi)) | ((with_reducible refine gate_dst (N := 12) rfl ?_); (try (refine gate_guard (by rfl) ?_; dsimp only)); refine box_event ?hg (N := 12) ?hd (cs := #[.int .i64 0, .int .i64 0, .int .i64 0, .int .i64 0]) (t := 35) ?hr ?_; (case hd => rfl); (case hg => rfl); (case hr => first | (go_simp; done) | (go_simp; rfl)); intro gb250 hg w42 hbox hb; have n0_ := Aside0.mk (Kd.R_below (Kd.R_elderB (by (with_reducible repeat (first | apply Kd.R_alloc | apply Kd.R_drewN | apply Kd.R_drew)); exact HO_11.out) gb250 (Nat.le_of_eq hg.symm)) hb); have n1_ := Aside0.mk (blk_below (g := gb233) (o := .cells #[.int .i64 a0_0, .bool a0_1, .int .i64 a0_2, .int .i64 a0_3, .slice A0_4 l0_4.length c0_4, .slice A0_5 l0_5.length c0_5, .int .i64 a0_6, .bool a0_7] 24 (0, 0)) (by (with_reducible repeat (first | refine blk_drewN ?_ _ | refine blk_drew ?_ | refine blk_alloc ?_ _)); exact BK233.out) hb); have n2_ := Aside0.mk (blk_below (g := gb234) (o := .cells #[.int .i64 a3_0, .int .i64 a3_1, .int .i64 a3_2, .int .i64 a3_3] 35 (0, 0)) (by (with_reducible repeat (first | refine blk_drewN ?_ _ | refine blk_drew ?_ | refine blk_alloc ?_ _)); exact BK234.out) hb); have n3_ := Aside0.mk (below_step (by repeat (first | (with_reducible first | exact HB.out | apply below_alloc | apply pw_below_drewN | apply below_drew1 | refine below_set ?_ GE233.out | refine below_set ?_ GE234.out) | exact HB.out)) hb); have n4_ := Aside0.mk (hbox); have n5_ := Aside0.mk ((by rw [hg]; exact (below_size (by repeat (first | (with_reducible first | exact HB.out | apply below_alloc | apply pw_below_drewN | apply below_drew1 | refine below_set ?_ GE233.out | refine below_set ?_ GE234.out) | exact HB.out))) : w.heap.size ≤ gb250)); have n6_ := Aside0.mk ((by rw [hg]; exact (below_size (by repeat (first | (with_reducible first | exact HB.out | apply below_alloc | apply pw_below_drewN | apply below_drew1 | refine below_set ?_ GE233.out | refine below_set ?_ GE234.out) | exact HB.out))) : w.heap.size ≤ gb250)); have n7_ := Aside0.mk ((by rw [hg]; exact Nat.ne_of_lt (blk_lt (g := gb233) (o := .cells #[.int .i64 a0_0, .bool a0_1, .int .i64 a0_2, .int .i64 a0_3, .slice A0_4 l0_4.length c0_4, .slice A0_5 l0_5.length c0_5, .int .i64 a0_6, .bool a0_7] 24 (0, 0)) (by (with_reducible repeat (first | refine blk_drewN ?_ _ | refine blk_drew ?_ | refine blk_alloc ?_ _)); exact BK233.out)) : gb233 ≠ gb250)); have n8_ := Aside0.mk ((by rw [hg]; exact Nat.ne_of_gt (blk_lt (g := gb233) (o := .cells #[.int .i64 a0_0, .bool a0_1, .int .i64 a0_2, .int .i64 a0_3, .slice A0_4 l0_4.length c0_4, .slice A0_5 l0_5.length c0_5, .int .i64 a0_6, .bool a0_7] 24 (0, 0)) (by (with_reducible repeat (first | refine blk_drewN ?_ _ | refine blk_drew ?_ | refine blk_alloc ?_ _)); exact BK233.out)) : gb250 ≠ gb233)); have n9_ := Aside0.mk ((by rw [hg]; exact Nat.ne_of_lt (blk_lt (g := gb234) (o := .cells #[.int .i64 a3_0, .int .i64 a3_1, .int .i64 a3_2, .int .i64 a3_3] 35 (0, 0)) (by (with_reducible repeat (first | refine blk_drewN ?_ _ | refine blk_drew ?_ | refine blk_alloc ?_ _)); exact BK234.out)) : gb234 ≠ gb250)); have n10_ := Aside0.mk ((by rw [hg]; exact Nat.ne_of_gt (blk_lt (g := gb234) (o := .cells #[.int .i64 a3_0, .int .i64 a3_1, .int .i64 a3_2, .int .i64 a3_3] 35 (0, 0)) (by (with_reducible repeat (first | refine blk_drewN ?_ _ | refine blk_drew ?_ | refine blk_alloc ?_ _)); exact BK234.out)) : gb250 ≠ gb234)); clear HO_11; clear BK233; clear BK234; clear HB; have HO_11 := n0_; have BK233 := n1_; have BK234 := n2_; have HB := n3_; have BK250 := n4_; have GW250 := n5_; have GE250 := n6_; have NB233_250 := n7_; have NB250_233 := n8_; have NB234_250 := n9_; have NB250_234 := n10_; clear n0_ n1_ n2_ n3_ n4_ n5_ n6_ n7_ n8_ n9_ n10_; clear hb hbox hg; have hnb43 := NB250_233.out; have hnc43 := NB233_250.out; have hnb44 := NB250_234.out; have hnc44 := NB234_250.out; have hcz45_0 : w42.cell? ⟨gb250, 0, none⟩ = some (.int .i64 0) := (blk_cell BK250.out 0).trans rfl; have hcz45_1 : w42.cell? ⟨gb250, 1, none⟩ = some (.int .i64 0) := (blk_cell BK250.out 1).trans rfl; have hcz45_2 : w42.cell? ⟨gb250, 2, none⟩ = some (.int .i64 0) := (blk_cell BK250.out 2).trans rfl; have hcz45_3 : w42.cell? ⟨gb250, 3, none⟩ = some (.int .i64 0) := (blk_cell BK250.out 3).trans rfl; have hfz45_0 := blk_frozen BK250.out 0; have hfz45_1 := blk_frozen BK250.out 1; have hfz45_2 := blk_frozen BK250.out 2; have hfz45_3 := blk_frozen BK250.out 3)); go_upto_region 9 with (first | (go_at_call 18; (with_reducible refine (preset_At.calls kj16 a0_0 a0_1 a0_2 a0_3 _ _ l0_4 _ _ l0_5 a0_6 a0_7 a1 a2 t245 t246 t247 t248 t249 _ ?side1 ?side2 ?side3 ?side4 A37.out).mono ?_); (case side1 => repeat (first | exact (Kd.C_below HR0_4.out HB.out) | (with_reducible refine Kd.C_alloc ?_ _) | (with_reducible refine Kd.C_drewN ?_ _) | (with_reducible refine Kd.C_drew ?_))); (case side2 => exact HC0_4.out); (case side3 => repeat (first | exact (Kd.C_below HR0_5.out HB.out) | (with_reducible refine Kd.C_alloc ?_ _) | (with_reducible refine Kd.C_drewN ?_ _) | (with_reducible refine Kd.C_drew ?_))); (case side4 => exact HC0_5.out); rintro e w41 ⟨rfl, hb⟩; have n0_ := Aside0.mk (Kd.R_below (by (with_reducible repeat (first | apply Kd.R_alloc | apply Kd.R_drewN | apply Kd.R_drew)); exact HO_11.out) hb); have n1_ := Aside0.mk (blk_below (g := gb233) (o := .cells #[.int .i64 a0_0, .bool a0_1, .int .i64 a0_2, .int .i64 a0_3, .slice A0_4 l0_4.length c0_4, .slice A0_5 l0_5.length c0_5, .int .i64 a0_6, .bool a0_7] 24 (0, 0)) (by (with_reducible repeat (first | refine blk_drewN ?_ _ | refine blk_drew ?_ | refine blk_alloc ?_ _)); exact BK233.out) hb); have n2_ := Aside0.mk (blk_below (g := gb234) (o := .cells #[.int .i64 a3_0, .int .i64 a3_1, .int .i64 a3_2, .int .i64 a3_3] 35 (0, 0)) (by (with_reducible repeat (first | refine blk_drewN ?_ _ | refine blk_drew ?_ | refine blk_alloc ?_ _)); exact BK234.out) hb); have n3_ := Aside0.mk (below_step (by repeat (first | (with_reducible first | exact HB.out | apply below_alloc | apply pw_below_drewN | apply below_drew1 | refine below_set ?_ GE233.out | refine below_set ?_ GE234.out) | exact HB.out)) hb); clear HO_11; clear BK233; clear BK234; clear HB; have HO_11 := n0_; have BK233 := n1_; have BK234 := n2_; have HB := n3_; clear n0_ n1_ n2_ n3_; (try clear hb); (try clear hb2); (try clear hk); (try clear hi)) | ((with_reducible refine gate_dst (N := 12) rfl ?_); (try (refine gate_guard (by rfl) ?_; dsimp only)); refine box_event ?hg (N := 12) ?hd (cs := #[.int .i64 0, .int .i64 0, .int .i64 0, .int .i64 0]) (t := 35) ?hr ?_; (case hd => rfl); (case hg => rfl); (case hr => first | (go_simp; done) | (go_simp; rfl)); intro gb250 hg w42 hbox hb; have n0_ := Aside0.mk (Kd.R_below (Kd.R_elderB (by (with_reducible repeat (first | apply Kd.R_alloc | apply Kd.R_drewN | apply Kd.R_drew)); exact HO_11.out) gb250 (Nat.le_of_eq hg.symm)) hb); have n1_ := Aside0.mk (blk_below (g := gb233) (o := .cells #[.int .i64 a0_0, .bool a0_1, .int .i64 a0_2, .int .i64 a0_3, .slice A0_4 l0_4.length c0_4, .slice A0_5 l0_5.length c0_5, .int .i64 a0_6, .bool a0_7] 24 (0, 0)) (by (with_reducible repeat (first | refine blk_drewN ?_ _ | refine blk_drew ?_ | refine blk_alloc ?_ _)); exact BK233.out) hb); have n2_ := Aside0.mk (blk_below (g := gb234) (o := .cells #[.int .i64 a3_0, .int .i64 a3_1, .int .i64 a3_2, .int .i64 a3_3] 35 (0, 0)) (by (with_reducible repeat (first | refine blk_drewN ?_ _ | refine blk_drew ?_ | refine blk_alloc ?_ _)); exact BK234.out) hb); have n3_ := Aside0.mk (below_step (by repeat (first | (with_reducible first | exact HB.out | apply below_alloc | apply pw_below_drewN | apply below_drew1 | refine below_set ?_ GE233.out | refine below_set ?_ GE234.out) | exact HB.out)) hb); have n4_ := Aside0.mk (hbox); have n5_ := Aside0.mk ((by rw [hg]; exact (below_size (by repeat (first | (with_reducible first | exact HB.out | apply below_alloc | apply pw_below_drewN | apply below_drew1 | refine below_set ?_ GE233.out | refine below_set ?_ GE234.out) | exact HB.out))) : w.heap.size ≤ gb250)); have n6_ := Aside0.mk ((by rw [hg]; exact (below_size (by repeat (first | (with_reducible first | exact HB.out | apply below_alloc | apply pw_below_drewN | apply below_drew1 | refine below_set ?_ GE233.out | refine below_set ?_ GE234.out) | exact HB.out))) : w.heap.size ≤ gb250)); have n7_ := Aside0.mk ((by rw [hg]; exact Nat.ne_of_lt (blk_lt (g := gb233) (o := .cells #[.int .i64 a0_0, .bool a0_1, .int .i64 a0_2, .int .i64 a0_3, .slice A0_4 l0_4.length c0_4, .slice A0_5 l0_5.length c0_5, .int .i64 a0_6, .bool a0_7] 24 (0, 0)) (by (with_reducible repeat (first | refine blk_drewN ?_ _ | refine blk_drew ?_ | refine blk_alloc ?_ _)); exact BK233.out)) : gb233 ≠ gb250)); have n8_ := Aside0.mk ((by rw [hg]; exact Nat.ne_of_gt (blk_lt (g := gb233) (o := .cells #[.int .i64 a0_0, .bool a0_1, .int .i64 a0_2, .int .i64 a0_3, .slice A0_4 l0_4.length c0_4, .slice A0_5 l0_5.length c0_5, .int .i64 a0_6, .bool a0_7] 24 (0, 0)) (by (with_reducible repeat (first | refine blk_drewN ?_ _ | refine blk_drew ?_ | refine blk_alloc ?_ _)); exact BK233.out)) : gb250 ≠ gb233)); have n9_ := Aside0.mk ((by rw [hg]; exact Nat.ne_of_lt (blk_lt (g := gb234) (o := .cells #[.int .i64 a3_0, .int .i64 a3_1, .int .i64 a3_2, .int .i64 a3_3] 35 (0, 0)) (by (with_reducible repeat (first | refine blk_drewN ?_ _ | refine blk_drew ?_ | refine blk_alloc ?_ _)); exact BK234.out)) : gb234 ≠ gb250)); have n10_ := Aside0.mk ((by rw [hg]; exact Nat.ne_of_gt (blk_lt (g := gb234) (o := .cells #[.int .i64 a3_0, .int .i64 a3_1, .int .i64 a3_2, .int .i64 a3_3] 35 (0, 0)) (by (with_reducible repeat (first | refine blk_drewN ?_ _ | refine blk_drew ?_ | refine blk_alloc ?_ _)); exact BK234.out)) : gb250 ≠ gb234)); clear HO_11; clear BK233; clear BK234; clear HB; have HO_11 := n0_; have BK233 := n1_; have BK234 := n2_; have HB := n3_; have BK250 := n4_; have GW250 := n5_; have GE250 := n6_; have NB233_250 := n7_; have NB250_233 := n8_; have NB234_250 := n9_; have NB250_234 := n10_; clear n0_ n1_ n2_ n3_ n4_ n5_ n6_ n7_ n8_ n9_ n10_; clear hb hbox hg; have hnb43 := NB250_233.out; have hnc43 := NB233_250.out; have hnb44 := NB250_234.out; have hnc44 := NB234_250.out; have hcz45_0 : w42.cell? ⟨gb250, 0, none⟩ = some (.int .i64 0) := (blk_cell BK250.out 0).trans rfl; have hcz45_1 : w42.cell? ⟨gb250, 1, none⟩ = some (.int .i64 0) := (blk_cell BK250.out 1).trans rfl; have hcz45_2 : w42.cell? ⟨gb250, 2, none⟩ = some (.int .i64 0) := (blk_cell BK250.out 2).trans rfl; have hcz45_3 : w42.cell? ⟨gb250, 3, none⟩ = some (.int .i64 0) := (blk_cell BK250.out 3).trans rfl; have hfz45_0 := blk_frozen BK250.out 0; have hfz45_1 := blk_frozen BK250.out 1; have hfz45_2 := blk_frozen BK250.out 2; have hfz45_3 := blk_frozen BK250.out 3)))
              (try simp only [Act.put, List.setIfInBounds_toArray, List.set_cons_zero, List.set_cons_succ])
              go_cut [80] (fun v80 wc => ∃ (kq : Nat) (x80_37 : Bool), v80 = .bool x80_37 ∧ Aside0 (serinettelaw19_PresetChoices.j2 kq a1 t235 t237 x80_37 a0_0 a0_1 a0_2 a0_3 l0_4 l0_5 a0_6 a0_7 a3_0 a3_1 a3_2 a3_3 = some r) ∧ Aside0 (kq ≤ kj16) ∧ Aside0 (Kd.R k35 35 wc w.heap.size (fun k_ => k_ ≠ gb234 ∧ k_ ≠ gb250) v238 t237) ∧ Aside0 (wc.heap[gb233]? = some (.cells #[.int .i64 a0_0, .bool a0_1, .int .i64 a0_2, .int .i64 a0_3, (.slice A0_4 l0_4.length c0_4), (.slice A0_5 l0_5.length c0_5), .int .i64 a0_6, .bool a0_7] 24 (0, 0))) ∧ Aside0 (wc.heap[gb234]? = some (.cells #[.int .i64 a3_0, .int .i64 a3_1, .int .i64 a3_2, .int .i64 a3_3] 35 (0, 0))) ∧ Aside0 (wc.heap[gb250]? = some (.cells #[.int .i64 t245, .int .i64 t246, .int .i64 t247, .int .i64 t248] 35 (0, 0))) ∧ Aside0 (Below w.heap.size w wc))
              case first =>
                have H := HC38.out
                clear HC38
                by_cases c46 : a2 ≥ 0
                · rw [if_pos c46] at H
                  have c46b0 : decide (0 ≤ a2) = true := decide_eq_true c46
                  clear c46
                  (first | rw [c46b0] | (simp only [i64_w, i32_w]; rw [c46b0]) | skip)
                  by_cases c47 : (t249 != (decide (a2 < (t237.length : Int)))) = true
                  · rw [if_pos c47] at H
                    have c47b0 : (t249 != (decide (a2 < (t237.length : Int)))) = true := c47
                    (try (have c47b1 : decide (t249 = (decide (a2 < (t237.length : Int)))) = false := by simpa using c47))
                    (try (have c47b2 : (t249 == (decide (a2 < (t237.length : Int)))) = false := by simpa using c47))
                    (try (have c47b3 : ¬ (t249 = (decide (a2 < (t237.length : Int)))) := by simpa using c47))
                    clear c47
                    have H' := Aside0.mk H
                    clear H
                    obtain ⟨Ao48, co48, eo48⟩ := Kd.R_slice HO_11.out
                    subst eo48
                    go_wp2
                    repeat (go_quiet (fail); try go_wp2)
                    go_meet
                    case rel => exact ⟨_, (true), (by first | rfl | (simp; done) | (simp [*]; done)), H', ⟨by have := HJ6.out; have := HJ16.out; first | omega | exact Nat.le_refl _⟩, ⟨by (with_reducible repeat (first | apply Kd.R_alloc | apply Kd.R_drewN | apply Kd.R_drew)); exact Kd.R_mono (Kd.R_far (p := ⟨gb250, 3, none⟩) (Kd.R_far (p := ⟨gb250, 2, none⟩) (Kd.R_far (p := ⟨gb250, 1, none⟩) (Kd.R_far (p := ⟨gb250, 0, none⟩) (Kd.R_mono HO_11.out (fun k_ hk => (⟨hk, hk.2⟩ : _ ∧ k_ ≠ gb250))) (fun _ hk => hk.2) (.int .i64 t245)) (fun _ hk => hk.2) (.int .i64 t246)) (fun _ hk => hk.2) (.int .i64 t247)) (fun _ hk => hk.2) (.int .i64 t248)) (fun _ hk => ⟨hk.1.1, hk.1.2⟩)⟩, ⟨by (with_reducible repeat (first | refine blk_drewN ?_ _ | refine blk_drew ?_ | refine blk_alloc ?_ _)); refine blk_far ?_ NB233_250.out _; (with_reducible repeat (first | refine blk_drewN ?_ _ | refine blk_drew ?_ | refine blk_alloc ?_ _)); refine blk_far ?_ NB233_250.out _; (with_reducible repeat (first | refine blk_drewN ?_ _ | refine blk_drew ?_ | refine blk_alloc ?_ _)); refine blk_far ?_ NB233_250.out _; (with_reducible repeat (first | refine blk_drewN ?_ _ | refine blk_drew ?_ | refine blk_alloc ?_ _)); refine blk_far ?_ NB233_250.out _; (with_reducible repeat (first | refine blk_drewN ?_ _ | refine blk_drew ?_ | refine blk_alloc ?_ _)); exact BK233.out⟩, ⟨by (with_reducible repeat (first | refine blk_drewN ?_ _ | refine blk_drew ?_ | refine blk_alloc ?_ _)); refine blk_far ?_ NB234_250.out _; (with_reducible repeat (first | refine blk_drewN ?_ _ | refine blk_drew ?_ | refine blk_alloc ?_ _)); refine blk_far ?_ NB234_250.out _; (with_reducible repeat (first | refine blk_drewN ?_ _ | refine blk_drew ?_ | refine blk_alloc ?_ _)); refine blk_far ?_ NB234_250.out _; (with_reducible repeat (first | refine blk_drewN ?_ _ | refine blk_drew ?_ | refine blk_alloc ?_ _)); refine blk_far ?_ NB234_250.out _; (with_reducible repeat (first | refine blk_drewN ?_ _ | refine blk_drew ?_ | refine blk_alloc ?_ _)); exact BK234.out⟩, ⟨by (with_reducible repeat (first | refine blk_drewN ?_ _ | refine blk_drew ?_ | refine blk_alloc ?_ _)); refine blk_put (cs := #[.int .i64 t245, .int .i64 t246, .int .i64 t247, .int .i64 0]) ?_ 3 _ rfl; (with_reducible repeat (first | refine blk_drewN ?_ _ | refine blk_drew ?_ | refine blk_alloc ?_ _)); refine blk_put (cs := #[.int .i64 t245, .int .i64 t246, .int .i64 0, .int .i64 0]) ?_ 2 _ rfl; (with_reducible repeat (first | refine blk_drewN ?_ _ | refine blk_drew ?_ | refine blk_alloc ?_ _)); refine blk_put (cs := #[.int .i64 t245, .int .i64 0, .int .i64 0, .int .i64 0]) ?_ 1 _ rfl; (with_reducible repeat (first | refine blk_drewN ?_ _ | refine blk_drew ?_ | refine blk_alloc ?_ _)); refine blk_put (cs := #[.int .i64 0, .int .i64 0, .int .i64 0, .int .i64 0]) ?_ 0 _ rfl; (with_reducible repeat (first | refine blk_drewN ?_ _ | refine blk_drew ?_ | refine blk_alloc ?_ _)); exact BK250.out⟩, ⟨by repeat (first | (with_reducible first | exact HB.out | apply below_alloc | apply pw_below_drewN | apply below_drew1 | refine below_set ?_ GE233.out | refine below_set ?_ GE234.out | refine below_set ?_ GE250.out) | exact HB.out)⟩⟩
                  · rw [if_neg c47] at H
                    have c47b0 : (t249 != (decide (a2 < (t237.length : Int)))) = false := by simpa using c47
                    (try (have c47b1 : decide (t249 = (decide (a2 < (t237.length : Int)))) = true := by simpa using c47))
                    (try (have c47b2 : (t249 == (decide (a2 < (t237.length : Int)))) = true := by simpa using c47))
                    clear c47
                    by_cases c49 : t249 = true
                    · subst c49
                      have H1 : (if 0 ≤ a2 then (if a2 < (t237.length : Int) then (if (!(t245 == ((rd_T35 t237 a2).f0)) || (!(t246 == ((rd_T35 t237 a2).f1)) || (!(t247 == ((rd_T35 t237 a2).f2)) || (!(t248 == ((rd_T35 t237 a2).f3)))))) = true then (serinettelaw19_PresetChoices.j2 kj16 a1 t235 t237 true a0_0 a0_1 a0_2 a0_3 l0_4 l0_5 a0_6 a0_7 a3_0 a3_1 a3_2 a3_3) else (serinettelaw19_PresetChoices.j2 kj16 a1 t235 t237 false a0_0 a0_1 a0_2 a0_3 l0_4 l0_5 a0_6 a0_7 a3_0 a3_1 a3_2 a3_3)) else (none)) else (none)) = some r := by rw [if_pos rfl] at H; exact H
                      clear H
                      have H := H1
                      clear H1
                      by_cases c50 : 0 ≤ a2
                      · rw [if_pos c50] at H
                        have c50b0 : decide (0 ≤ a2) = true := decide_eq_true c50
                        clear c50
                        by_cases c51 : a2 < (t237.length : Int)
                        · rw [if_pos c51] at H
                          have c51b0 : decide (a2 < (t237.length : Int)) = true := decide_eq_true c51
                          clear c51
                          by_cases c52 : (!(t245 == ((rd_T35 t237 a2).f0)) || (!(t246 == ((rd_T35 t237 a2).f1)) || (!(t247 == ((rd_T35 t237 a2).f2)) || (!(t248 == ((rd_T35 t237 a2).f3)))))) = true
                          · rw [if_pos c52] at H
                            have c52b0 : (!(t245 == ((rd_T35 t237 a2).f0)) || (!(t246 == ((rd_T35 t237 a2).f1)) || (!(t247 == ((rd_T35 t237 a2).f2)) || (!(t248 == ((rd_T35 t237 a2).f3)))))) = true := c52
                            clear c52
                            have H' := Aside0.mk H
                            clear H
                            obtain ⟨Ao53, co53, eo53⟩ := Kd.R_slice HO_11.out
                            subst eo53
                            have hnb54 := NB250_233.out
                            have hnc54 := NB233_250.out
                            have hnb55 := NB250_234.out
                            have hnc55 := NB234_250.out
                            have hcz56_0 : w42.cell? ⟨gb250, 0, none⟩ = some (.int .i64 0) := (blk_cell BK250.out 0).trans rfl
                            have hcz56_1 : w42.cell? ⟨gb250, 1, none⟩ = some (.int .i64 0) := (blk_cell BK250.out 1).trans rfl
                            have hcz56_2 : w42.cell? ⟨gb250, 2, none⟩ = some (.int .i64 0) := (blk_cell BK250.out 2).trans rfl
                            have hcz56_3 : w42.cell? ⟨gb250, 3, none⟩ = some (.int .i64 0) := (blk_cell BK250.out 3).trans rfl
                            have hfz56_0 := blk_frozen BK250.out 0
                            have hfz56_1 := blk_frozen BK250.out 1
                            have hfz56_2 := blk_frozen BK250.out 2
                            have hfz56_3 := blk_frozen BK250.out 3
                            have p251 : 0 ≤ (a2 : Int) := of_decide_eq_true (by first | (with_reducible assumption) | assumption)
                            have q251 : a2 < (t237.length : Int) := of_decide_eq_true (by first | (with_reducible assumption) | assumption)
                            obtain ⟨ad251, e251, hx251_0, hx251_1, hx251_2, hx251_3⟩ := at_T35 (Kd.R_reads' HO_11.out).2.2 a2 p251 q251
                            cases e251
                            have hn251_0 : ad251.block ≠ gb250 := Kd.own_blk (Kd.R_away HO_11.out (fun _ hk => hk.2))
                            have hn251_1 : ad251.block ≠ gb250 := Kd.own_blk (Kd.R_away HO_11.out (fun _ hk => hk.2))
                            have hn251_2 : ad251.block ≠ gb250 := Kd.own_blk (Kd.R_away HO_11.out (fun _ hk => hk.2))
                            have hn251_3 : ad251.block ≠ gb250 := Kd.own_blk (Kd.R_away HO_11.out (fun _ hk => hk.2))
                            replace hx251_0 := (cell_far (p := ⟨gb250, 0, none⟩) (by first | (rw [add_block]; exact hn251_0) | (show (Addr.add _ _).block ≠ _; rw [add_block]; exact hn251_0) | exact hn251_0) (.int .i64 t245)).trans hx251_0
                            replace hx251_1 := (cell_far (p := ⟨gb250, 0, none⟩) (by first | (rw [add_block]; exact hn251_0) | (show (Addr.add _ _).block ≠ _; rw [add_block]; exact hn251_0) | exact hn251_0) (.int .i64 t245)).trans hx251_1
                            replace hx251_2 := (cell_far (p := ⟨gb250, 0, none⟩) (by first | (rw [add_block]; exact hn251_0) | (show (Addr.add _ _).block ≠ _; rw [add_block]; exact hn251_0) | exact hn251_0) (.int .i64 t245)).trans hx251_2
                            replace hx251_3 := (cell_far (p := ⟨gb250, 0, none⟩) (by first | (rw [add_block]; exact hn251_0) | (show (Addr.add _ _).block ≠ _; rw [add_block]; exact hn251_0) | exact hn251_0) (.int .i64 t245)).trans hx251_3
                            replace hx251_0 := (cell_far (p := ⟨gb250, 1, none⟩) (by first | (rw [add_block]; exact hn251_1) | (show (Addr.add _ _).block ≠ _; rw [add_block]; exact hn251_1) | exact hn251_1) (.int .i64 t246)).trans hx251_0
                            replace hx251_1 := (cell_far (p := ⟨gb250, 1, none⟩) (by first | (rw [add_block]; exact hn251_1) | (show (Addr.add _ _).block ≠ _; rw [add_block]; exact hn251_1) | exact hn251_1) (.int .i64 t246)).trans hx251_1
                            replace hx251_2 := (cell_far (p := ⟨gb250, 1, none⟩) (by first | (rw [add_block]; exact hn251_1) | (show (Addr.add _ _).block ≠ _; rw [add_block]; exact hn251_1) | exact hn251_1) (.int .i64 t246)).trans hx251_2
                            replace hx251_3 := (cell_far (p := ⟨gb250, 1, none⟩) (by first | (rw [add_block]; exact hn251_1) | (show (Addr.add _ _).block ≠ _; rw [add_block]; exact hn251_1) | exact hn251_1) (.int .i64 t246)).trans hx251_3
                            replace hx251_0 := (cell_far (p := ⟨gb250, 2, none⟩) (by first | (rw [add_block]; exact hn251_2) | (show (Addr.add _ _).block ≠ _; rw [add_block]; exact hn251_2) | exact hn251_2) (.int .i64 t247)).trans hx251_0
                            replace hx251_1 := (cell_far (p := ⟨gb250, 2, none⟩) (by first | (rw [add_block]; exact hn251_2) | (show (Addr.add _ _).block ≠ _; rw [add_block]; exact hn251_2) | exact hn251_2) (.int .i64 t247)).trans hx251_1
                            replace hx251_2 := (cell_far (p := ⟨gb250, 2, none⟩) (by first | (rw [add_block]; exact hn251_2) | (show (Addr.add _ _).block ≠ _; rw [add_block]; exact hn251_2) | exact hn251_2) (.int .i64 t247)).trans hx251_2
                            replace hx251_3 := (cell_far (p := ⟨gb250, 2, none⟩) (by first | (rw [add_block]; exact hn251_2) | (show (Addr.add _ _).block ≠ _; rw [add_block]; exact hn251_2) | exact hn251_2) (.int .i64 t247)).trans hx251_3
                            replace hx251_0 := (cell_far (p := ⟨gb250, 3, none⟩) (by first | (rw [add_block]; exact hn251_3) | (show (Addr.add _ _).block ≠ _; rw [add_block]; exact hn251_3) | exact hn251_3) (.int .i64 t248)).trans hx251_0
                            replace hx251_1 := (cell_far (p := ⟨gb250, 3, none⟩) (by first | (rw [add_block]; exact hn251_3) | (show (Addr.add _ _).block ≠ _; rw [add_block]; exact hn251_3) | exact hn251_3) (.int .i64 t248)).trans hx251_1
                            replace hx251_2 := (cell_far (p := ⟨gb250, 3, none⟩) (by first | (rw [add_block]; exact hn251_3) | (show (Addr.add _ _).block ≠ _; rw [add_block]; exact hn251_3) | exact hn251_3) (.int .i64 t248)).trans hx251_2
                            replace hx251_3 := (cell_far (p := ⟨gb250, 3, none⟩) (by first | (rw [add_block]; exact hn251_3) | (show (Addr.add _ _).block ≠ _; rw [add_block]; exact hn251_3) | exact hn251_3) (.int .i64 t248)).trans hx251_3
                            (try have hy251_0 := fun (n_ : Nat) => (show ((((((w42.drewN n_).setCell ⟨gb250, 0, none⟩ (.int .i64 t245)).setCell ⟨gb250, 1, none⟩ (.int .i64 t246)).setCell ⟨gb250, 2, none⟩ (.int .i64 t247)).setCell ⟨gb250, 3, none⟩ (.int .i64 t248))).cell? _ = some _ from hx251_0))
                            (try have hy251_1 := fun (n_ : Nat) => (show ((((((w42.drewN n_).setCell ⟨gb250, 0, none⟩ (.int .i64 t245)).setCell ⟨gb250, 1, none⟩ (.int .i64 t246)).setCell ⟨gb250, 2, none⟩ (.int .i64 t247)).setCell ⟨gb250, 3, none⟩ (.int .i64 t248))).cell? _ = some _ from hx251_1))
                            (try have hy251_2 := fun (n_ : Nat) => (show ((((((w42.drewN n_).setCell ⟨gb250, 0, none⟩ (.int .i64 t245)).setCell ⟨gb250, 1, none⟩ (.int .i64 t246)).setCell ⟨gb250, 2, none⟩ (.int .i64 t247)).setCell ⟨gb250, 3, none⟩ (.int .i64 t248))).cell? _ = some _ from hx251_2))
                            (try have hy251_3 := fun (n_ : Nat) => (show ((((((w42.drewN n_).setCell ⟨gb250, 0, none⟩ (.int .i64 t245)).setCell ⟨gb250, 1, none⟩ (.int .i64 t246)).setCell ⟨gb250, 2, none⟩ (.int .i64 t247)).setCell ⟨gb250, 3, none⟩ (.int .i64 t248))).cell? _ = some _ from hx251_3))
                            clear hn251_0
                            clear hn251_1
                            clear hn251_2
                            clear hn251_3
                            replace p251 := eq_true p251
                            replace q251 := eq_true q251
                            go_wp2
                            repeat (go_quiet (fail); try go_wp2)
                            go_meet
                            case rel => exact ⟨_, (true), (by first | rfl | (simp; done) | (simp [*]; done)), H', ⟨by have := HJ6.out; have := HJ16.out; first | omega | exact Nat.le_refl _⟩, ⟨by (with_reducible repeat (first | apply Kd.R_alloc | apply Kd.R_drewN | apply Kd.R_drew)); exact Kd.R_mono (Kd.R_far (p := ⟨gb250, 3, none⟩) (Kd.R_far (p := ⟨gb250, 2, none⟩) (Kd.R_far (p := ⟨gb250, 1, none⟩) (Kd.R_far (p := ⟨gb250, 0, none⟩) (Kd.R_mono HO_11.out (fun k_ hk => (⟨hk, hk.2⟩ : _ ∧ k_ ≠ gb250))) (fun _ hk => hk.2) (.int .i64 t245)) (fun _ hk => hk.2) (.int .i64 t246)) (fun _ hk => hk.2) (.int .i64 t247)) (fun _ hk => hk.2) (.int .i64 t248)) (fun _ hk => ⟨hk.1.1, hk.1.2⟩)⟩, ⟨by (with_reducible repeat (first | refine blk_drewN ?_ _ | refine blk_drew ?_ | refine blk_alloc ?_ _)); refine blk_far ?_ NB233_250.out _; (with_reducible repeat (first | refine blk_drewN ?_ _ | refine blk_drew ?_ | refine blk_alloc ?_ _)); refine blk_far ?_ NB233_250.out _; (with_reducible repeat (first | refine blk_drewN ?_ _ | refine blk_drew ?_ | refine blk_alloc ?_ _)); refine blk_far ?_ NB233_250.out _; (with_reducible repeat (first | refine blk_drewN ?_ _ | refine blk_drew ?_ | refine blk_alloc ?_ _)); refine blk_far ?_ NB233_250.out _; (with_reducible repeat (first | refine blk_drewN ?_ _ | refine blk_drew ?_ | refine blk_alloc ?_ _)); exact BK233.out⟩, ⟨by (with_reducible repeat (first | refine blk_drewN ?_ _ | refine blk_drew ?_ | refine blk_alloc ?_ _)); refine blk_far ?_ NB234_250.out _; (with_reducible repeat (first | refine blk_drewN ?_ _ | refine blk_drew ?_ | refine blk_alloc ?_ _)); refine blk_far ?_ NB234_250.out _; (with_reducible repeat (first | refine blk_drewN ?_ _ | refine blk_drew ?_ | refine blk_alloc ?_ _)); refine blk_far ?_ NB234_250.out _; (with_reducible repeat (first | refine blk_drewN ?_ _ | refine blk_drew ?_ | refine blk_alloc ?_ _)); refine blk_far ?_ NB234_250.out _; (with_reducible repeat (first | refine blk_drewN ?_ _ | refine blk_drew ?_ | refine blk_alloc ?_ _)); exact BK234.out⟩, ⟨by (with_reducible repeat (first | refine blk_drewN ?_ _ | refine blk_drew ?_ | refine blk_alloc ?_ _)); refine blk_put (cs := #[.int .i64 t245, .int .i64 t246, .int .i64 t247, .int .i64 0]) ?_ 3 _ rfl; (with_reducible repeat (first | refine blk_drewN ?_ _ | refine blk_drew ?_ | refine blk_alloc ?_ _)); refine blk_put (cs := #[.int .i64 t245, .int .i64 t246, .int .i64 0, .int .i64 0]) ?_ 2 _ rfl; (with_reducible repeat (first | refine blk_drewN ?_ _ | refine blk_drew ?_ | refine blk_alloc ?_ _)); refine blk_put (cs := #[.int .i64 t245, .int .i64 0, .int .i64 0, .int .i64 0]) ?_ 1 _ rfl; (with_reducible repeat (first | refine blk_drewN ?_ _ | refine blk_drew ?_ | refine blk_alloc ?_ _)); refine blk_put (cs := #[.int .i64 0, .int .i64 0, .int .i64 0, .int .i64 0]) ?_ 0 _ rfl; (with_reducible repeat (first | refine blk_drewN ?_ _ | refine blk_drew ?_ | refine blk_alloc ?_ _)); exact BK250.out⟩, ⟨by repeat (first | (with_reducible first | exact HB.out | apply below_alloc | apply pw_below_drewN | apply below_drew1 | refine below_set ?_ GE233.out | refine below_set ?_ GE234.out | refine below_set ?_ GE250.out) | exact HB.out)⟩⟩
                          · rw [if_neg c52] at H
                            have c52b0 : (!(t245 == ((rd_T35 t237 a2).f0)) || (!(t246 == ((rd_T35 t237 a2).f1)) || (!(t247 == ((rd_T35 t237 a2).f2)) || (!(t248 == ((rd_T35 t237 a2).f3)))))) = false := by simpa using c52
                            clear c52
                            have H' := Aside0.mk H
                            clear H
                            obtain ⟨Ao57, co57, eo57⟩ := Kd.R_slice HO_11.out
                            subst eo57
                            have hnb58 := NB250_233.out
                            have hnc58 := NB233_250.out
                            have hnb59 := NB250_234.out
                            have hnc59 := NB234_250.out
                            have hcz60_0 : w42.cell? ⟨gb250, 0, none⟩ = some (.int .i64 0) := (blk_cell BK250.out 0).trans rfl
                            have hcz60_1 : w42.cell? ⟨gb250, 1, none⟩ = some (.int .i64 0) := (blk_cell BK250.out 1).trans rfl
                            have hcz60_2 : w42.cell? ⟨gb250, 2, none⟩ = some (.int .i64 0) := (blk_cell BK250.out 2).trans rfl
                            have hcz60_3 : w42.cell? ⟨gb250, 3, none⟩ = some (.int .i64 0) := (blk_cell BK250.out 3).trans rfl
                            have hfz60_0 := blk_frozen BK250.out 0
                            have hfz60_1 := blk_frozen BK250.out 1
                            have hfz60_2 := blk_frozen BK250.out 2
                            have hfz60_3 := blk_frozen BK250.out 3
                            have p251 : 0 ≤ (a2 : Int) := of_decide_eq_true (by first | (with_reducible assumption) | assumption)
                            have q251 : a2 < (t237.length : Int) := of_decide_eq_true (by first | (with_reducible assumption) | assumption)
                            obtain ⟨ad251, e251, hx251_0, hx251_1, hx251_2, hx251_3⟩ := at_T35 (Kd.R_reads' HO_11.out).2.2 a2 p251 q251
                            cases e251
                            have hn251_0 : ad251.block ≠ gb250 := Kd.own_blk (Kd.R_away HO_11.out (fun _ hk => hk.2))
                            have hn251_1 : ad251.block ≠ gb250 := Kd.own_blk (Kd.R_away HO_11.out (fun _ hk => hk.2))
                            have hn251_2 : ad251.block ≠ gb250 := Kd.own_blk (Kd.R_away HO_11.out (fun _ hk => hk.2))
                            have hn251_3 : ad251.block ≠ gb250 := Kd.own_blk (Kd.R_away HO_11.out (fun _ hk => hk.2))
                            replace hx251_0 := (cell_far (p := ⟨gb250, 0, none⟩) (by first | (rw [add_block]; exact hn251_0) | (show (Addr.add _ _).block ≠ _; rw [add_block]; exact hn251_0) | exact hn251_0) (.int .i64 t245)).trans hx251_0
                            replace hx251_1 := (cell_far (p := ⟨gb250, 0, none⟩) (by first | (rw [add_block]; exact hn251_0) | (show (Addr.add _ _).block ≠ _; rw [add_block]; exact hn251_0) | exact hn251_0) (.int .i64 t245)).trans hx251_1
                            replace hx251_2 := (cell_far (p := ⟨gb250, 0, none⟩) (by first | (rw [add_block]; exact hn251_0) | (show (Addr.add _ _).block ≠ _; rw [add_block]; exact hn251_0) | exact hn251_0) (.int .i64 t245)).trans hx251_2
                            replace hx251_3 := (cell_far (p := ⟨gb250, 0, none⟩) (by first | (rw [add_block]; exact hn251_0) | (show (Addr.add _ _).block ≠ _; rw [add_block]; exact hn251_0) | exact hn251_0) (.int .i64 t245)).trans hx251_3
                            replace hx251_0 := (cell_far (p := ⟨gb250, 1, none⟩) (by first | (rw [add_block]; exact hn251_1) | (show (Addr.add _ _).block ≠ _; rw [add_block]; exact hn251_1) | exact hn251_1) (.int .i64 t246)).trans hx251_0
                            replace hx251_1 := (cell_far (p := ⟨gb250, 1, none⟩) (by first | (rw [add_block]; exact hn251_1) | (show (Addr.add _ _).block ≠ _; rw [add_block]; exact hn251_1) | exact hn251_1) (.int .i64 t246)).trans hx251_1
                            replace hx251_2 := (cell_far (p := ⟨gb250, 1, none⟩) (by first | (rw [add_block]; exact hn251_1) | (show (Addr.add _ _).block ≠ _; rw [add_block]; exact hn251_1) | exact hn251_1) (.int .i64 t246)).trans hx251_2
                            replace hx251_3 := (cell_far (p := ⟨gb250, 1, none⟩) (by first | (rw [add_block]; exact hn251_1) | (show (Addr.add _ _).block ≠ _; rw [add_block]; exact hn251_1) | exact hn251_1) (.int .i64 t246)).trans hx251_3
                            replace hx251_0 := (cell_far (p := ⟨gb250, 2, none⟩) (by first | (rw [add_block]; exact hn251_2) | (show (Addr.add _ _).block ≠ _; rw [add_block]; exact hn251_2) | exact hn251_2) (.int .i64 t247)).trans hx251_0
                            replace hx251_1 := (cell_far (p := ⟨gb250, 2, none⟩) (by first | (rw [add_block]; exact hn251_2) | (show (Addr.add _ _).block ≠ _; rw [add_block]; exact hn251_2) | exact hn251_2) (.int .i64 t247)).trans hx251_1
                            replace hx251_2 := (cell_far (p := ⟨gb250, 2, none⟩) (by first | (rw [add_block]; exact hn251_2) | (show (Addr.add _ _).block ≠ _; rw [add_block]; exact hn251_2) | exact hn251_2) (.int .i64 t247)).trans hx251_2
                            replace hx251_3 := (cell_far (p := ⟨gb250, 2, none⟩) (by first | (rw [add_block]; exact hn251_2) | (show (Addr.add _ _).block ≠ _; rw [add_block]; exact hn251_2) | exact hn251_2) (.int .i64 t247)).trans hx251_3
                            replace hx251_0 := (cell_far (p := ⟨gb250, 3, none⟩) (by first | (rw [add_block]; exact hn251_3) | (show (Addr.add _ _).block ≠ _; rw [add_block]; exact hn251_3) | exact hn251_3) (.int .i64 t248)).trans hx251_0
                            replace hx251_1 := (cell_far (p := ⟨gb250, 3, none⟩) (by first | (rw [add_block]; exact hn251_3) | (show (Addr.add _ _).block ≠ _; rw [add_block]; exact hn251_3) | exact hn251_3) (.int .i64 t248)).trans hx251_1
                            replace hx251_2 := (cell_far (p := ⟨gb250, 3, none⟩) (by first | (rw [add_block]; exact hn251_3) | (show (Addr.add _ _).block ≠ _; rw [add_block]; exact hn251_3) | exact hn251_3) (.int .i64 t248)).trans hx251_2
                            replace hx251_3 := (cell_far (p := ⟨gb250, 3, none⟩) (by first | (rw [add_block]; exact hn251_3) | (show (Addr.add _ _).block ≠ _; rw [add_block]; exact hn251_3) | exact hn251_3) (.int .i64 t248)).trans hx251_3
                            (try have hy251_0 := fun (n_ : Nat) => (show ((((((w42.drewN n_).setCell ⟨gb250, 0, none⟩ (.int .i64 t245)).setCell ⟨gb250, 1, none⟩ (.int .i64 t246)).setCell ⟨gb250, 2, none⟩ (.int .i64 t247)).setCell ⟨gb250, 3, none⟩ (.int .i64 t248))).cell? _ = some _ from hx251_0))
                            (try have hy251_1 := fun (n_ : Nat) => (show ((((((w42.drewN n_).setCell ⟨gb250, 0, none⟩ (.int .i64 t245)).setCell ⟨gb250, 1, none⟩ (.int .i64 t246)).setCell ⟨gb250, 2, none⟩ (.int .i64 t247)).setCell ⟨gb250, 3, none⟩ (.int .i64 t248))).cell? _ = some _ from hx251_1))
                            (try have hy251_2 := fun (n_ : Nat) => (show ((((((w42.drewN n_).setCell ⟨gb250, 0, none⟩ (.int .i64 t245)).setCell ⟨gb250, 1, none⟩ (.int .i64 t246)).setCell ⟨gb250, 2, none⟩ (.int .i64 t247)).setCell ⟨gb250, 3, none⟩ (.int .i64 t248))).cell? _ = some _ from hx251_2))
                            (try have hy251_3 := fun (n_ : Nat) => (show ((((((w42.drewN n_).setCell ⟨gb250, 0, none⟩ (.int .i64 t245)).setCell ⟨gb250, 1, none⟩ (.int .i64 t246)).setCell ⟨gb250, 2, none⟩ (.int .i64 t247)).setCell ⟨gb250, 3, none⟩ (.int .i64 t248))).cell? _ = some _ from hx251_3))
                            clear hn251_0
                            clear hn251_1
                            clear hn251_2
                            clear hn251_3
                            replace p251 := eq_true p251
                            replace q251 := eq_true q251
                            go_wp2
                            repeat (go_quiet (fail); try go_wp2)
                            go_meet
                            case rel => exact ⟨_, (false), (by first | rfl | (simp; done) | (simp [*]; done)), H', ⟨by have := HJ6.out; have := HJ16.out; first | omega | exact Nat.le_refl _⟩, ⟨by (with_reducible repeat (first | apply Kd.R_alloc | apply Kd.R_drewN | apply Kd.R_drew)); exact Kd.R_mono (Kd.R_far (p := ⟨gb250, 3, none⟩) (Kd.R_far (p := ⟨gb250, 2, none⟩) (Kd.R_far (p := ⟨gb250, 1, none⟩) (Kd.R_far (p := ⟨gb250, 0, none⟩) (Kd.R_mono HO_11.out (fun k_ hk => (⟨hk, hk.2⟩ : _ ∧ k_ ≠ gb250))) (fun _ hk => hk.2) (.int .i64 t245)) (fun _ hk => hk.2) (.int .i64 t246)) (fun _ hk => hk.2) (.int .i64 t247)) (fun _ hk => hk.2) (.int .i64 t248)) (fun _ hk => ⟨hk.1.1, hk.1.2⟩)⟩, ⟨by (with_reducible repeat (first | refine blk_drewN ?_ _ | refine blk_drew ?_ | refine blk_alloc ?_ _)); refine blk_far ?_ NB233_250.out _; (with_reducible repeat (first | refine blk_drewN ?_ _ | refine blk_drew ?_ | refine blk_alloc ?_ _)); refine blk_far ?_ NB233_250.out _; (with_reducible repeat (first | refine blk_drewN ?_ _ | refine blk_drew ?_ | refine blk_alloc ?_ _)); refine blk_far ?_ NB233_250.out _; (with_reducible repeat (first | refine blk_drewN ?_ _ | refine blk_drew ?_ | refine blk_alloc ?_ _)); refine blk_far ?_ NB233_250.out _; (with_reducible repeat (first | refine blk_drewN ?_ _ | refine blk_drew ?_ | refine blk_alloc ?_ _)); exact BK233.out⟩, ⟨by (with_reducible repeat (first | refine blk_drewN ?_ _ | refine blk_drew ?_ | refine blk_alloc ?_ _)); refine blk_far ?_ NB234_250.out _; (with_reducible repeat (first | refine blk_drewN ?_ _ | refine blk_drew ?_ | refine blk_alloc ?_ _)); refine blk_far ?_ NB234_250.out _; (with_reducible repeat (first | refine blk_drewN ?_ _ | refine blk_drew ?_ | refine blk_alloc ?_ _)); refine blk_far ?_ NB234_250.out _; (with_reducible repeat (first | refine blk_drewN ?_ _ | refine blk_drew ?_ | refine blk_alloc ?_ _)); refine blk_far ?_ NB234_250.out _; (with_reducible repeat (first | refine blk_drewN ?_ _ | refine blk_drew ?_ | refine blk_alloc ?_ _)); exact BK234.out⟩, ⟨by (with_reducible repeat (first | refine blk_drewN ?_ _ | refine blk_drew ?_ | refine blk_alloc ?_ _)); refine blk_put (cs := #[.int .i64 t245, .int .i64 t246, .int .i64 t247, .int .i64 0]) ?_ 3 _ rfl; (with_reducible repeat (first | refine blk_drewN ?_ _ | refine blk_drew ?_ | refine blk_alloc ?_ _)); refine blk_put (cs := #[.int .i64 t245, .int .i64 t246, .int .i64 0, .int .i64 0]) ?_ 2 _ rfl; (with_reducible repeat (first | refine blk_drewN ?_ _ | refine blk_drew ?_ | refine blk_alloc ?_ _)); refine blk_put (cs := #[.int .i64 t245, .int .i64 0, .int .i64 0, .int .i64 0]) ?_ 1 _ rfl; (with_reducible repeat (first | refine blk_drewN ?_ _ | refine blk_drew ?_ | refine blk_alloc ?_ _)); refine blk_put (cs := #[.int .i64 0, .int .i64 0, .int .i64 0, .int .i64 0]) ?_ 0 _ rfl; (with_reducible repeat (first | refine blk_drewN ?_ _ | refine blk_drew ?_ | refine blk_alloc ?_ _)); exact BK250.out⟩, ⟨by repeat (first | (with_reducible first | exact HB.out | apply below_alloc | apply pw_below_drewN | apply below_drew1 | refine below_set ?_ GE233.out | refine below_set ?_ GE234.out | refine below_set ?_ GE250.out) | exact HB.out)⟩⟩
                        · rw [if_neg c51] at H
                          exact absurd H (by simp)
                      · rw [if_neg c50] at H
                        exact absurd H (by simp)
                    · replace c49 := Bool.eq_false_iff.mpr c49
                      subst c49
                      have H1 : (serinettelaw19_PresetChoices.j2 kj16 a1 t235 t237 (!(t245 == 0) || (!(t246 == 0) || (!(t247 == 0) || (!(t248 == 0))))) a0_0 a0_1 a0_2 a0_3 l0_4 l0_5 a0_6 a0_7 a3_0 a3_1 a3_2 a3_3) = some r := by rw [if_neg (show ¬ (false = true) by decide)] at H; exact H
                      clear H
                      have H := H1
                      clear H1
                      have H' := Aside0.mk H
                      clear H
                      obtain ⟨Ao61, co61, eo61⟩ := Kd.R_slice HO_11.out
                      subst eo61
                      have hnb62 := NB250_233.out
                      have hnc62 := NB233_250.out
                      have hnb63 := NB250_234.out
                      have hnc63 := NB234_250.out
                      have hcz64_0 : w42.cell? ⟨gb250, 0, none⟩ = some (.int .i64 0) := (blk_cell BK250.out 0).trans rfl
                      have hcz64_1 : w42.cell? ⟨gb250, 1, none⟩ = some (.int .i64 0) := (blk_cell BK250.out 1).trans rfl
                      have hcz64_2 : w42.cell? ⟨gb250, 2, none⟩ = some (.int .i64 0) := (blk_cell BK250.out 2).trans rfl
                      have hcz64_3 : w42.cell? ⟨gb250, 3, none⟩ = some (.int .i64 0) := (blk_cell BK250.out 3).trans rfl
                      have hfz64_0 := blk_frozen BK250.out 0
                      have hfz64_1 := blk_frozen BK250.out 1
                      have hfz64_2 := blk_frozen BK250.out 2
                      have hfz64_3 := blk_frozen BK250.out 3
                      go_wp2
                      repeat (go_quiet (fail); try go_wp2)
                      go_meet
                      case rel => exact ⟨_, ((!(t245 == 0) || (!(t246 == 0) || (!(t247 == 0) || (!(t248 == 0)))))), (by first | rfl | (simp; done) | (simp [*]; done)), H', ⟨by have := HJ6.out; have := HJ16.out; first | omega | exact Nat.le_refl _⟩, ⟨by (with_reducible repeat (first | apply Kd.R_alloc | apply Kd.R_drewN | apply Kd.R_drew)); exact Kd.R_mono (Kd.R_far (p := ⟨gb250, 3, none⟩) (Kd.R_far (p := ⟨gb250, 2, none⟩) (Kd.R_far (p := ⟨gb250, 1, none⟩) (Kd.R_far (p := ⟨gb250, 0, none⟩) (Kd.R_mono HO_11.out (fun k_ hk => (⟨hk, hk.2⟩ : _ ∧ k_ ≠ gb250))) (fun _ hk => hk.2) (.int .i64 t245)) (fun _ hk => hk.2) (.int .i64 t246)) (fun _ hk => hk.2) (.int .i64 t247)) (fun _ hk => hk.2) (.int .i64 t248)) (fun _ hk => ⟨hk.1.1, hk.1.2⟩)⟩, ⟨by (with_reducible repeat (first | refine blk_drewN ?_ _ | refine blk_drew ?_ | refine blk_alloc ?_ _)); refine blk_far ?_ NB233_250.out _; (with_reducible repeat (first | refine blk_drewN ?_ _ | refine blk_drew ?_ | refine blk_alloc ?_ _)); refine blk_far ?_ NB233_250.out _; (with_reducible repeat (first | refine blk_drewN ?_ _ | refine blk_drew ?_ | refine blk_alloc ?_ _)); refine blk_far ?_ NB233_250.out _; (with_reducible repeat (first | refine blk_drewN ?_ _ | refine blk_drew ?_ | refine blk_alloc ?_ _)); refine blk_far ?_ NB233_250.out _; (with_reducible repeat (first | refine blk_drewN ?_ _ | refine blk_drew ?_ | refine blk_alloc ?_ _)); exact BK233.out⟩, ⟨by (with_reducible repeat (first | refine blk_drewN ?_ _ | refine blk_drew ?_ | refine blk_alloc ?_ _)); refine blk_far ?_ NB234_250.out _; (with_reducible repeat (first | refine blk_drewN ?_ _ | refine blk_drew ?_ | refine blk_alloc ?_ _)); refine blk_far ?_ NB234_250.out _; (with_reducible repeat (first | refine blk_drewN ?_ _ | refine blk_drew ?_ | refine blk_alloc ?_ _)); refine blk_far ?_ NB234_250.out _; (with_reducible repeat (first | refine blk_drewN ?_ _ | refine blk_drew ?_ | refine blk_alloc ?_ _)); refine blk_far ?_ NB234_250.out _; (with_reducible repeat (first | refine blk_drewN ?_ _ | refine blk_drew ?_ | refine blk_alloc ?_ _)); exact BK234.out⟩, ⟨by (with_reducible repeat (first | refine blk_drewN ?_ _ | refine blk_drew ?_ | refine blk_alloc ?_ _)); refine blk_put (cs := #[.int .i64 t245, .int .i64 t246, .int .i64 t247, .int .i64 0]) ?_ 3 _ rfl; (with_reducible repeat (first | refine blk_drewN ?_ _ | refine blk_drew ?_ | refine blk_alloc ?_ _)); refine blk_put (cs := #[.int .i64 t245, .int .i64 t246, .int .i64 0, .int .i64 0]) ?_ 2 _ rfl; (with_reducible repeat (first | refine blk_drewN ?_ _ | refine blk_drew ?_ | refine blk_alloc ?_ _)); refine blk_put (cs := #[.int .i64 t245, .int .i64 0, .int .i64 0, .int .i64 0]) ?_ 1 _ rfl; (with_reducible repeat (first | refine blk_drewN ?_ _ | refine blk_drew ?_ | refine blk_alloc ?_ _)); refine blk_put (cs := #[.int .i64 0, .int .i64 0, .int .i64 0, .int .i64 0]) ?_ 0 _ rfl; (with_reducible repeat (first | refine blk_drewN ?_ _ | refine blk_drew ?_ | refine blk_alloc ?_ _)); exact BK250.out⟩, ⟨by repeat (first | (with_reducible first | exact HB.out | apply below_alloc | apply pw_below_drewN | apply below_drew1 | refine below_set ?_ GE233.out | refine below_set ?_ GE234.out | refine below_set ?_ GE250.out) | exact HB.out)⟩⟩
                · rw [if_neg c46] at H
                  have c46b0 : decide (0 ≤ a2) = false := decide_eq_false c46
                  clear c46
                  (first | rw [c46b0] | (simp only [i64_w, i32_w]; rw [c46b0]) | skip)
                  by_cases c65 : (t249 != false) = true
                  · rw [if_pos c65] at H
                    have c65b0 : (t249 != false) = true := c65
                    (try (have c65b1 : decide (t249 = false) = false := by simpa using c65))
                    (try (have c65b2 : (t249 == false) = false := by simpa using c65))
                    (try (have c65b3 : ¬ (t249 = false) := by simpa using c65))
                    clear c65
                    have H' := Aside0.mk H
                    clear H
                    go_wp2
                    repeat (go_quiet (fail); try go_wp2)
                    go_meet
                    case rel => exact ⟨_, (true), (by first | rfl | (simp; done) | (simp [*]; done)), H', ⟨by have := HJ6.out; have := HJ16.out; first | omega | exact Nat.le_refl _⟩, ⟨by (with_reducible repeat (first | apply Kd.R_alloc | apply Kd.R_drewN | apply Kd.R_drew)); exact Kd.R_mono (Kd.R_far (p := ⟨gb250, 3, none⟩) (Kd.R_far (p := ⟨gb250, 2, none⟩) (Kd.R_far (p := ⟨gb250, 1, none⟩) (Kd.R_far (p := ⟨gb250, 0, none⟩) (Kd.R_mono HO_11.out (fun k_ hk => (⟨hk, hk.2⟩ : _ ∧ k_ ≠ gb250))) (fun _ hk => hk.2) (.int .i64 t245)) (fun _ hk => hk.2) (.int .i64 t246)) (fun _ hk => hk.2) (.int .i64 t247)) (fun _ hk => hk.2) (.int .i64 t248)) (fun _ hk => ⟨hk.1.1, hk.1.2⟩)⟩, ⟨by (with_reducible repeat (first | refine blk_drewN ?_ _ | refine blk_drew ?_ | refine blk_alloc ?_ _)); refine blk_far ?_ NB233_250.out _; (with_reducible repeat (first | refine blk_drewN ?_ _ | refine blk_drew ?_ | refine blk_alloc ?_ _)); refine blk_far ?_ NB233_250.out _; (with_reducible repeat (first | refine blk_drewN ?_ _ | refine blk_drew ?_ | refine blk_alloc ?_ _)); refine blk_far ?_ NB233_250.out _; (with_reducible repeat (first | refine blk_drewN ?_ _ | refine blk_drew ?_ | refine blk_alloc ?_ _)); refine blk_far ?_ NB233_250.out _; (with_reducible repeat (first | refine blk_drewN ?_ _ | refine blk_drew ?_ | refine blk_alloc ?_ _)); exact BK233.out⟩, ⟨by (with_reducible repeat (first | refine blk_drewN ?_ _ | refine blk_drew ?_ | refine blk_alloc ?_ _)); refine blk_far ?_ NB234_250.out _; (with_reducible repeat (first | refine blk_drewN ?_ _ | refine blk_drew ?_ | refine blk_alloc ?_ _)); refine blk_far ?_ NB234_250.out _; (with_reducible repeat (first | refine blk_drewN ?_ _ | refine blk_drew ?_ | refine blk_alloc ?_ _)); refine blk_far ?_ NB234_250.out _; (with_reducible repeat (first | refine blk_drewN ?_ _ | refine blk_drew ?_ | refine blk_alloc ?_ _)); refine blk_far ?_ NB234_250.out _; (with_reducible repeat (first | refine blk_drewN ?_ _ | refine blk_drew ?_ | refine blk_alloc ?_ _)); exact BK234.out⟩, ⟨by (with_reducible repeat (first | refine blk_drewN ?_ _ | refine blk_drew ?_ | refine blk_alloc ?_ _)); refine blk_put (cs := #[.int .i64 t245, .int .i64 t246, .int .i64 t247, .int .i64 0]) ?_ 3 _ rfl; (with_reducible repeat (first | refine blk_drewN ?_ _ | refine blk_drew ?_ | refine blk_alloc ?_ _)); refine blk_put (cs := #[.int .i64 t245, .int .i64 t246, .int .i64 0, .int .i64 0]) ?_ 2 _ rfl; (with_reducible repeat (first | refine blk_drewN ?_ _ | refine blk_drew ?_ | refine blk_alloc ?_ _)); refine blk_put (cs := #[.int .i64 t245, .int .i64 0, .int .i64 0, .int .i64 0]) ?_ 1 _ rfl; (with_reducible repeat (first | refine blk_drewN ?_ _ | refine blk_drew ?_ | refine blk_alloc ?_ _)); refine blk_put (cs := #[.int .i64 0, .int .i64 0, .int .i64 0, .int .i64 0]) ?_ 0 _ rfl; (with_reducible repeat (first | refine blk_drewN ?_ _ | refine blk_drew ?_ | refine blk_alloc ?_ _)); exact BK250.out⟩, ⟨by repeat (first | (with_reducible first | exact HB.out | apply below_alloc | apply pw_below_drewN | apply below_drew1 | refine below_set ?_ GE233.out | refine below_set ?_ GE234.out | refine below_set ?_ GE250.out) | exact HB.out)⟩⟩
                  · rw [if_neg c65] at H
                    have c65b0 : (t249 != false) = false := by simpa using c65
                    (try (have c65b1 : decide (t249 = false) = true := by simpa using c65))
                    (try (have c65b2 : (t249 == false) = true := by simpa using c65))
                    clear c65
                    by_cases c66 : t249 = true
                    · subst c66
                      have H1 : (if 0 ≤ a2 then (if a2 < (t237.length : Int) then (if (!(t245 == ((rd_T35 t237 a2).f0)) || (!(t246 == ((rd_T35 t237 a2).f1)) || (!(t247 == ((rd_T35 t237 a2).f2)) || (!(t248 == ((rd_T35 t237 a2).f3)))))) = true then (serinettelaw19_PresetChoices.j2 kj16 a1 t235 t237 true a0_0 a0_1 a0_2 a0_3 l0_4 l0_5 a0_6 a0_7 a3_0 a3_1 a3_2 a3_3) else (serinettelaw19_PresetChoices.j2 kj16 a1 t235 t237 false a0_0 a0_1 a0_2 a0_3 l0_4 l0_5 a0_6 a0_7 a3_0 a3_1 a3_2 a3_3)) else (none)) else (none)) = some r := by rw [if_pos rfl] at H; exact H
                      clear H
                      have H := H1
                      clear H1
                      by_cases c67 : 0 ≤ a2
                      · rw [if_pos c67] at H
                        have c67b0 : decide (0 ≤ a2) = true := decide_eq_true c67
                        clear c67
                        by_cases c68 : a2 < (t237.length : Int)
                        · rw [if_pos c68] at H
                          have c68b0 : decide (a2 < (t237.length : Int)) = true := decide_eq_true c68
                          clear c68
                          by_cases c69 : (!(t245 == ((rd_T35 t237 a2).f0)) || (!(t246 == ((rd_T35 t237 a2).f1)) || (!(t247 == ((rd_T35 t237 a2).f2)) || (!(t248 == ((rd_T35 t237 a2).f3)))))) = true
                          · rw [if_pos c69] at H
                            have c69b0 : (!(t245 == ((rd_T35 t237 a2).f0)) || (!(t246 == ((rd_T35 t237 a2).f1)) || (!(t247 == ((rd_T35 t237 a2).f2)) || (!(t248 == ((rd_T35 t237 a2).f3)))))) = true := c69
                            clear c69
                            have H' := Aside0.mk H
                            clear H
                            have hnb70 := NB250_233.out
                            have hnc70 := NB233_250.out
                            have hnb71 := NB250_234.out
                            have hnc71 := NB234_250.out
                            have hcz72_0 : w42.cell? ⟨gb250, 0, none⟩ = some (.int .i64 0) := (blk_cell BK250.out 0).trans rfl
                            have hcz72_1 : w42.cell? ⟨gb250, 1, none⟩ = some (.int .i64 0) := (blk_cell BK250.out 1).trans rfl
                            have hcz72_2 : w42.cell? ⟨gb250, 2, none⟩ = some (.int .i64 0) := (blk_cell BK250.out 2).trans rfl
                            have hcz72_3 : w42.cell? ⟨gb250, 3, none⟩ = some (.int .i64 0) := (blk_cell BK250.out 3).trans rfl
                            have hfz72_0 := blk_frozen BK250.out 0
                            have hfz72_1 := blk_frozen BK250.out 1
                            have hfz72_2 := blk_frozen BK250.out 2
                            have hfz72_3 := blk_frozen BK250.out 3
                            obtain ⟨Ao73, co73, eo73⟩ := Kd.R_slice HO_11.out
                            subst eo73
                            have p252 : 0 ≤ (a2 : Int) := of_decide_eq_true (by first | (with_reducible assumption) | assumption)
                            have q252 : a2 < (t237.length : Int) := of_decide_eq_true (by first | (with_reducible assumption) | assumption)
                            obtain ⟨ad252, e252, hx252_0, hx252_1, hx252_2, hx252_3⟩ := at_T35 (Kd.R_reads' HO_11.out).2.2 a2 p252 q252
                            cases e252
                            have hn252_0 : ad252.block ≠ gb250 := Kd.own_blk (Kd.R_away HO_11.out (fun _ hk => hk.2))
                            have hn252_1 : ad252.block ≠ gb250 := Kd.own_blk (Kd.R_away HO_11.out (fun _ hk => hk.2))
                            have hn252_2 : ad252.block ≠ gb250 := Kd.own_blk (Kd.R_away HO_11.out (fun _ hk => hk.2))
                            have hn252_3 : ad252.block ≠ gb250 := Kd.own_blk (Kd.R_away HO_11.out (fun _ hk => hk.2))
                            replace hx252_0 := (cell_far (p := ⟨gb250, 0, none⟩) (by first | (rw [add_block]; exact hn252_0) | (show (Addr.add _ _).block ≠ _; rw [add_block]; exact hn252_0) | exact hn252_0) (.int .i64 t245)).trans hx252_0
                            replace hx252_1 := (cell_far (p := ⟨gb250, 0, none⟩) (by first | (rw [add_block]; exact hn252_0) | (show (Addr.add _ _).block ≠ _; rw [add_block]; exact hn252_0) | exact hn252_0) (.int .i64 t245)).trans hx252_1
                            replace hx252_2 := (cell_far (p := ⟨gb250, 0, none⟩) (by first | (rw [add_block]; exact hn252_0) | (show (Addr.add _ _).block ≠ _; rw [add_block]; exact hn252_0) | exact hn252_0) (.int .i64 t245)).trans hx252_2
                            replace hx252_3 := (cell_far (p := ⟨gb250, 0, none⟩) (by first | (rw [add_block]; exact hn252_0) | (show (Addr.add _ _).block ≠ _; rw [add_block]; exact hn252_0) | exact hn252_0) (.int .i64 t245)).trans hx252_3
                            replace hx252_0 := (cell_far (p := ⟨gb250, 1, none⟩) (by first | (rw [add_block]; exact hn252_1) | (show (Addr.add _ _).block ≠ _; rw [add_block]; exact hn252_1) | exact hn252_1) (.int .i64 t246)).trans hx252_0
                            replace hx252_1 := (cell_far (p := ⟨gb250, 1, none⟩) (by first | (rw [add_block]; exact hn252_1) | (show (Addr.add _ _).block ≠ _; rw [add_block]; exact hn252_1) | exact hn252_1) (.int .i64 t246)).trans hx252_1
                            replace hx252_2 := (cell_far (p := ⟨gb250, 1, none⟩) (by first | (rw [add_block]; exact hn252_1) | (show (Addr.add _ _).block ≠ _; rw [add_block]; exact hn252_1) | exact hn252_1) (.int .i64 t246)).trans hx252_2
                            replace hx252_3 := (cell_far (p := ⟨gb250, 1, none⟩) (by first | (rw [add_block]; exact hn252_1) | (show (Addr.add _ _).block ≠ _; rw [add_block]; exact hn252_1) | exact hn252_1) (.int .i64 t246)).trans hx252_3
                            replace hx252_0 := (cell_far (p := ⟨gb250, 2, none⟩) (by first | (rw [add_block]; exact hn252_2) | (show (Addr.add _ _).block ≠ _; rw [add_block]; exact hn252_2) | exact hn252_2) (.int .i64 t247)).trans hx252_0
                            replace hx252_1 := (cell_far (p := ⟨gb250, 2, none⟩) (by first | (rw [add_block]; exact hn252_2) | (show (Addr.add _ _).block ≠ _; rw [add_block]; exact hn252_2) | exact hn252_2) (.int .i64 t247)).trans hx252_1
                            replace hx252_2 := (cell_far (p := ⟨gb250, 2, none⟩) (by first | (rw [add_block]; exact hn252_2) | (show (Addr.add _ _).block ≠ _; rw [add_block]; exact hn252_2) | exact hn252_2) (.int .i64 t247)).trans hx252_2
                            replace hx252_3 := (cell_far (p := ⟨gb250, 2, none⟩) (by first | (rw [add_block]; exact hn252_2) | (show (Addr.add _ _).block ≠ _; rw [add_block]; exact hn252_2) | exact hn252_2) (.int .i64 t247)).trans hx252_3
                            replace hx252_0 := (cell_far (p := ⟨gb250, 3, none⟩) (by first | (rw [add_block]; exact hn252_3) | (show (Addr.add _ _).block ≠ _; rw [add_block]; exact hn252_3) | exact hn252_3) (.int .i64 t248)).trans hx252_0
                            replace hx252_1 := (cell_far (p := ⟨gb250, 3, none⟩) (by first | (rw [add_block]; exact hn252_3) | (show (Addr.add _ _).block ≠ _; rw [add_block]; exact hn252_3) | exact hn252_3) (.int .i64 t248)).trans hx252_1
                            replace hx252_2 := (cell_far (p := ⟨gb250, 3, none⟩) (by first | (rw [add_block]; exact hn252_3) | (show (Addr.add _ _).block ≠ _; rw [add_block]; exact hn252_3) | exact hn252_3) (.int .i64 t248)).trans hx252_2
                            replace hx252_3 := (cell_far (p := ⟨gb250, 3, none⟩) (by first | (rw [add_block]; exact hn252_3) | (show (Addr.add _ _).block ≠ _; rw [add_block]; exact hn252_3) | exact hn252_3) (.int .i64 t248)).trans hx252_3
                            (try have hy252_0 := fun (n_ : Nat) => (show ((((((w42.drewN n_).setCell ⟨gb250, 0, none⟩ (.int .i64 t245)).setCell ⟨gb250, 1, none⟩ (.int .i64 t246)).setCell ⟨gb250, 2, none⟩ (.int .i64 t247)).setCell ⟨gb250, 3, none⟩ (.int .i64 t248))).cell? _ = some _ from hx252_0))
                            (try have hy252_1 := fun (n_ : Nat) => (show ((((((w42.drewN n_).setCell ⟨gb250, 0, none⟩ (.int .i64 t245)).setCell ⟨gb250, 1, none⟩ (.int .i64 t246)).setCell ⟨gb250, 2, none⟩ (.int .i64 t247)).setCell ⟨gb250, 3, none⟩ (.int .i64 t248))).cell? _ = some _ from hx252_1))
                            (try have hy252_2 := fun (n_ : Nat) => (show ((((((w42.drewN n_).setCell ⟨gb250, 0, none⟩ (.int .i64 t245)).setCell ⟨gb250, 1, none⟩ (.int .i64 t246)).setCell ⟨gb250, 2, none⟩ (.int .i64 t247)).setCell ⟨gb250, 3, none⟩ (.int .i64 t248))).cell? _ = some _ from hx252_2))
                            (try have hy252_3 := fun (n_ : Nat) => (show ((((((w42.drewN n_).setCell ⟨gb250, 0, none⟩ (.int .i64 t245)).setCell ⟨gb250, 1, none⟩ (.int .i64 t246)).setCell ⟨gb250, 2, none⟩ (.int .i64 t247)).setCell ⟨gb250, 3, none⟩ (.int .i64 t248))).cell? _ = some _ from hx252_3))
                            clear hn252_0
                            clear hn252_1
                            clear hn252_2
                            clear hn252_3
                            replace p252 := eq_true p252
                            replace q252 := eq_true q252
                            go_wp2
                            repeat (go_quiet (fail); try go_wp2)
                            go_meet
                            case rel => exact ⟨_, (true), (by first | rfl | (simp; done) | (simp [*]; done)), H', ⟨by have := HJ6.out; have := HJ16.out; first | omega | exact Nat.le_refl _⟩, ⟨by (with_reducible repeat (first | apply Kd.R_alloc | apply Kd.R_drewN | apply Kd.R_drew)); exact Kd.R_mono (Kd.R_far (p := ⟨gb250, 3, none⟩) (Kd.R_far (p := ⟨gb250, 2, none⟩) (Kd.R_far (p := ⟨gb250, 1, none⟩) (Kd.R_far (p := ⟨gb250, 0, none⟩) (Kd.R_mono HO_11.out (fun k_ hk => (⟨hk, hk.2⟩ : _ ∧ k_ ≠ gb250))) (fun _ hk => hk.2) (.int .i64 t245)) (fun _ hk => hk.2) (.int .i64 t246)) (fun _ hk => hk.2) (.int .i64 t247)) (fun _ hk => hk.2) (.int .i64 t248)) (fun _ hk => ⟨hk.1.1, hk.1.2⟩)⟩, ⟨by (with_reducible repeat (first | refine blk_drewN ?_ _ | refine blk_drew ?_ | refine blk_alloc ?_ _)); refine blk_far ?_ NB233_250.out _; (with_reducible repeat (first | refine blk_drewN ?_ _ | refine blk_drew ?_ | refine blk_alloc ?_ _)); refine blk_far ?_ NB233_250.out _; (with_reducible repeat (first | refine blk_drewN ?_ _ | refine blk_drew ?_ | refine blk_alloc ?_ _)); refine blk_far ?_ NB233_250.out _; (with_reducible repeat (first | refine blk_drewN ?_ _ | refine blk_drew ?_ | refine blk_alloc ?_ _)); refine blk_far ?_ NB233_250.out _; (with_reducible repeat (first | refine blk_drewN ?_ _ | refine blk_drew ?_ | refine blk_alloc ?_ _)); exact BK233.out⟩, ⟨by (with_reducible repeat (first | refine blk_drewN ?_ _ | refine blk_drew ?_ | refine blk_alloc ?_ _)); refine blk_far ?_ NB234_250.out _; (with_reducible repeat (first | refine blk_drewN ?_ _ | refine blk_drew ?_ | refine blk_alloc ?_ _)); refine blk_far ?_ NB234_250.out _; (with_reducible repeat (first | refine blk_drewN ?_ _ | refine blk_drew ?_ | refine blk_alloc ?_ _)); refine blk_far ?_ NB234_250.out _; (with_reducible repeat (first | refine blk_drewN ?_ _ | refine blk_drew ?_ | refine blk_alloc ?_ _)); refine blk_far ?_ NB234_250.out _; (with_reducible repeat (first | refine blk_drewN ?_ _ | refine blk_drew ?_ | refine blk_alloc ?_ _)); exact BK234.out⟩, ⟨by (with_reducible repeat (first | refine blk_drewN ?_ _ | refine blk_drew ?_ | refine blk_alloc ?_ _)); refine blk_put (cs := #[.int .i64 t245, .int .i64 t246, .int .i64 t247, .int .i64 0]) ?_ 3 _ rfl; (with_reducible repeat (first | refine blk_drewN ?_ _ | refine blk_drew ?_ | refine blk_alloc ?_ _)); refine blk_put (cs := #[.int .i64 t245, .int .i64 t246, .int .i64 0, .int .i64 0]) ?_ 2 _ rfl; (with_reducible repeat (first | refine blk_drewN ?_ _ | refine blk_drew ?_ | refine blk_alloc ?_ _)); refine blk_put (cs := #[.int .i64 t245, .int .i64 0, .int .i64 0, .int .i64 0]) ?_ 1 _ rfl; (with_reducible repeat (first | refine blk_drewN ?_ _ | refine blk_drew ?_ | refine blk_alloc ?_ _)); refine blk_put (cs := #[.int .i64 0, .int .i64 0, .int .i64 0, .int .i64 0]) ?_ 0 _ rfl; (with_reducible repeat (first | refine blk_drewN ?_ _ | refine blk_drew ?_ | refine blk_alloc ?_ _)); exact BK250.out⟩, ⟨by repeat (first | (with_reducible first | exact HB.out | apply below_alloc | apply pw_below_drewN | apply below_drew1 | refine below_set ?_ GE233.out | refine below_set ?_ GE234.out | refine below_set ?_ GE250.out) | exact HB.out)⟩⟩
                          · rw [if_neg c69] at H
                            have c69b0 : (!(t245 == ((rd_T35 t237 a2).f0)) || (!(t246 == ((rd_T35 t237 a2).f1)) || (!(t247 == ((rd_T35 t237 a2).f2)) || (!(t248 == ((rd_T35 t237 a2).f3)))))) = false := by simpa using c69
                            clear c69
                            have H' := Aside0.mk H
                            clear H
                            have hnb74 := NB250_233.out
                            have hnc74 := NB233_250.out
                            have hnb75 := NB250_234.out
                            have hnc75 := NB234_250.out
                            have hcz76_0 : w42.cell? ⟨gb250, 0, none⟩ = some (.int .i64 0) := (blk_cell BK250.out 0).trans rfl
                            have hcz76_1 : w42.cell? ⟨gb250, 1, none⟩ = some (.int .i64 0) := (blk_cell BK250.out 1).trans rfl
                            have hcz76_2 : w42.cell? ⟨gb250, 2, none⟩ = some (.int .i64 0) := (blk_cell BK250.out 2).trans rfl
                            have hcz76_3 : w42.cell? ⟨gb250, 3, none⟩ = some (.int .i64 0) := (blk_cell BK250.out 3).trans rfl
                            have hfz76_0 := blk_frozen BK250.out 0
                            have hfz76_1 := blk_frozen BK250.out 1
                            have hfz76_2 := blk_frozen BK250.out 2
                            have hfz76_3 := blk_frozen BK250.out 3
                            obtain ⟨Ao77, co77, eo77⟩ := Kd.R_slice HO_11.out
                            subst eo77
                            have p252 : 0 ≤ (a2 : Int) := of_decide_eq_true (by first | (with_reducible assumption) | assumption)
                            have q252 : a2 < (t237.length : Int) := of_decide_eq_true (by first | (with_reducible assumption) | assumption)
                            obtain ⟨ad252, e252, hx252_0, hx252_1, hx252_2, hx252_3⟩ := at_T35 (Kd.R_reads' HO_11.out).2.2 a2 p252 q252
                            cases e252
                            have hn252_0 : ad252.block ≠ gb250 := Kd.own_blk (Kd.R_away HO_11.out (fun _ hk => hk.2))
                            have hn252_1 : ad252.block ≠ gb250 := Kd.own_blk (Kd.R_away HO_11.out (fun _ hk => hk.2))
                            have hn252_2 : ad252.block ≠ gb250 := Kd.own_blk (Kd.R_away HO_11.out (fun _ hk => hk.2))
                            have hn252_3 : ad252.block ≠ gb250 := Kd.own_blk (Kd.R_away HO_11.out (fun _ hk => hk.2))
                            replace hx252_0 := (cell_far (p := ⟨gb250, 0, none⟩) (by first | (rw [add_block]; exact hn252_0) | (show (Addr.add _ _).block ≠ _; rw [add_block]; exact hn252_0) | exact hn252_0) (.int .i64 t245)).trans hx252_0
                            replace hx252_1 := (cell_far (p := ⟨gb250, 0, none⟩) (by first | (rw [add_block]; exact hn252_0) | (show (Addr.add _ _).block ≠ _; rw [add_block]; exact hn252_0) | exact hn252_0) (.int .i64 t245)).trans hx252_1
                            replace hx252_2 := (cell_far (p := ⟨gb250, 0, none⟩) (by first | (rw [add_block]; exact hn252_0) | (show (Addr.add _ _).block ≠ _; rw [add_block]; exact hn252_0) | exact hn252_0) (.int .i64 t245)).trans hx252_2
                            replace hx252_3 := (cell_far (p := ⟨gb250, 0, none⟩) (by first | (rw [add_block]; exact hn252_0) | (show (Addr.add _ _).block ≠ _; rw [add_block]; exact hn252_0) | exact hn252_0) (.int .i64 t245)).trans hx252_3
                            replace hx252_0 := (cell_far (p := ⟨gb250, 1, none⟩) (by first | (rw [add_block]; exact hn252_1) | (show (Addr.add _ _).block ≠ _; rw [add_block]; exact hn252_1) | exact hn252_1) (.int .i64 t246)).trans hx252_0
                            replace hx252_1 := (cell_far (p := ⟨gb250, 1, none⟩) (by first | (rw [add_block]; exact hn252_1) | (show (Addr.add _ _).block ≠ _; rw [add_block]; exact hn252_1) | exact hn252_1) (.int .i64 t246)).trans hx252_1
                            replace hx252_2 := (cell_far (p := ⟨gb250, 1, none⟩) (by first | (rw [add_block]; exact hn252_1) | (show (Addr.add _ _).block ≠ _; rw [add_block]; exact hn252_1) | exact hn252_1) (.int .i64 t246)).trans hx252_2
                            replace hx252_3 := (cell_far (p := ⟨gb250, 1, none⟩) (by first | (rw [add_block]; exact hn252_1) | (show (Addr.add _ _).block ≠ _; rw [add_block]; exact hn252_1) | exact hn252_1) (.int .i64 t246)).trans hx252_3
                            replace hx252_0 := (cell_far (p := ⟨gb250, 2, none⟩) (by first | (rw [add_block]; exact hn252_2) | (show (Addr.add _ _).block ≠ _; rw [add_block]; exact hn252_2) | exact hn252_2) (.int .i64 t247)).trans hx252_0
                            replace hx252_1 := (cell_far (p := ⟨gb250, 2, none⟩) (by first | (rw [add_block]; exact hn252_2) | (show (Addr.add _ _).block ≠ _; rw [add_block]; exact hn252_2) | exact hn252_2) (.int .i64 t247)).trans hx252_1
                            replace hx252_2 := (cell_far (p := ⟨gb250, 2, none⟩) (by first | (rw [add_block]; exact hn252_2) | (show (Addr.add _ _).block ≠ _; rw [add_block]; exact hn252_2) | exact hn252_2) (.int .i64 t247)).trans hx252_2
                            replace hx252_3 := (cell_far (p := ⟨gb250, 2, none⟩) (by first | (rw [add_block]; exact hn252_2) | (show (Addr.add _ _).block ≠ _; rw [add_block]; exact hn252_2) | exact hn252_2) (.int .i64 t247)).trans hx252_3
                            replace hx252_0 := (cell_far (p := ⟨gb250, 3, none⟩) (by first | (rw [add_block]; exact hn252_3) | (show (Addr.add _ _).block ≠ _; rw [add_block]; exact hn252_3) | exact hn252_3) (.int .i64 t248)).trans hx252_0
                            replace hx252_1 := (cell_far (p := ⟨gb250, 3, none⟩) (by first | (rw [add_block]; exact hn252_3) | (show (Addr.add _ _).block ≠ _; rw [add_block]; exact hn252_3) | exact hn252_3) (.int .i64 t248)).trans hx252_1
                            replace hx252_2 := (cell_far (p := ⟨gb250, 3, none⟩) (by first | (rw [add_block]; exact hn252_3) | (show (Addr.add _ _).block ≠ _; rw [add_block]; exact hn252_3) | exact hn252_3) (.int .i64 t248)).trans hx252_2
                            replace hx252_3 := (cell_far (p := ⟨gb250, 3, none⟩) (by first | (rw [add_block]; exact hn252_3) | (show (Addr.add _ _).block ≠ _; rw [add_block]; exact hn252_3) | exact hn252_3) (.int .i64 t248)).trans hx252_3
                            (try have hy252_0 := fun (n_ : Nat) => (show ((((((w42.drewN n_).setCell ⟨gb250, 0, none⟩ (.int .i64 t245)).setCell ⟨gb250, 1, none⟩ (.int .i64 t246)).setCell ⟨gb250, 2, none⟩ (.int .i64 t247)).setCell ⟨gb250, 3, none⟩ (.int .i64 t248))).cell? _ = some _ from hx252_0))
                            (try have hy252_1 := fun (n_ : Nat) => (show ((((((w42.drewN n_).setCell ⟨gb250, 0, none⟩ (.int .i64 t245)).setCell ⟨gb250, 1, none⟩ (.int .i64 t246)).setCell ⟨gb250, 2, none⟩ (.int .i64 t247)).setCell ⟨gb250, 3, none⟩ (.int .i64 t248))).cell? _ = some _ from hx252_1))
                            (try have hy252_2 := fun (n_ : Nat) => (show ((((((w42.drewN n_).setCell ⟨gb250, 0, none⟩ (.int .i64 t245)).setCell ⟨gb250, 1, none⟩ (.int .i64 t246)).setCell ⟨gb250, 2, none⟩ (.int .i64 t247)).setCell ⟨gb250, 3, none⟩ (.int .i64 t248))).cell? _ = some _ from hx252_2))
                            (try have hy252_3 := fun (n_ : Nat) => (show ((((((w42.drewN n_).setCell ⟨gb250, 0, none⟩ (.int .i64 t245)).setCell ⟨gb250, 1, none⟩ (.int .i64 t246)).setCell ⟨gb250, 2, none⟩ (.int .i64 t247)).setCell ⟨gb250, 3, none⟩ (.int .i64 t248))).cell? _ = some _ from hx252_3))
                            clear hn252_0
                            clear hn252_1
                            clear hn252_2
                            clear hn252_3
                            replace p252 := eq_true p252
                            replace q252 := eq_true q252
                            go_wp2
                            repeat (go_quiet (fail); try go_wp2)
                            go_meet
                            case rel => exact ⟨_, (false), (by first | rfl | (simp; done) | (simp [*]; done)), H', ⟨by have := HJ6.out; have := HJ16.out; first | omega | exact Nat.le_refl _⟩, ⟨by (with_reducible repeat (first | apply Kd.R_alloc | apply Kd.R_drewN | apply Kd.R_drew)); exact Kd.R_mono (Kd.R_far (p := ⟨gb250, 3, none⟩) (Kd.R_far (p := ⟨gb250, 2, none⟩) (Kd.R_far (p := ⟨gb250, 1, none⟩) (Kd.R_far (p := ⟨gb250, 0, none⟩) (Kd.R_mono HO_11.out (fun k_ hk => (⟨hk, hk.2⟩ : _ ∧ k_ ≠ gb250))) (fun _ hk => hk.2) (.int .i64 t245)) (fun _ hk => hk.2) (.int .i64 t246)) (fun _ hk => hk.2) (.int .i64 t247)) (fun _ hk => hk.2) (.int .i64 t248)) (fun _ hk => ⟨hk.1.1, hk.1.2⟩)⟩, ⟨by (with_reducible repeat (first | refine blk_drewN ?_ _ | refine blk_drew ?_ | refine blk_alloc ?_ _)); refine blk_far ?_ NB233_250.out _; (with_reducible repeat (first | refine blk_drewN ?_ _ | refine blk_drew ?_ | refine blk_alloc ?_ _)); refine blk_far ?_ NB233_250.out _; (with_reducible repeat (first | refine blk_drewN ?_ _ | refine blk_drew ?_ | refine blk_alloc ?_ _)); refine blk_far ?_ NB233_250.out _; (with_reducible repeat (first | refine blk_drewN ?_ _ | refine blk_drew ?_ | refine blk_alloc ?_ _)); refine blk_far ?_ NB233_250.out _; (with_reducible repeat (first | refine blk_drewN ?_ _ | refine blk_drew ?_ | refine blk_alloc ?_ _)); exact BK233.out⟩, ⟨by (with_reducible repeat (first | refine blk_drewN ?_ _ | refine blk_drew ?_ | refine blk_alloc ?_ _)); refine blk_far ?_ NB234_250.out _; (with_reducible repeat (first | refine blk_drewN ?_ _ | refine blk_drew ?_ | refine blk_alloc ?_ _)); refine blk_far ?_ NB234_250.out _; (with_reducible repeat (first | refine blk_drewN ?_ _ | refine blk_drew ?_ | refine blk_alloc ?_ _)); refine blk_far ?_ NB234_250.out _; (with_reducible repeat (first | refine blk_drewN ?_ _ | refine blk_drew ?_ | refine blk_alloc ?_ _)); refine blk_far ?_ NB234_250.out _; (with_reducible repeat (first | refine blk_drewN ?_ _ | refine blk_drew ?_ | refine blk_alloc ?_ _)); exact BK234.out⟩, ⟨by (with_reducible repeat (first | refine blk_drewN ?_ _ | refine blk_drew ?_ | refine blk_alloc ?_ _)); refine blk_put (cs := #[.int .i64 t245, .int .i64 t246, .int .i64 t247, .int .i64 0]) ?_ 3 _ rfl; (with_reducible repeat (first | refine blk_drewN ?_ _ | refine blk_drew ?_ | refine blk_alloc ?_ _)); refine blk_put (cs := #[.int .i64 t245, .int .i64 t246, .int .i64 0, .int .i64 0]) ?_ 2 _ rfl; (with_reducible repeat (first | refine blk_drewN ?_ _ | refine blk_drew ?_ | refine blk_alloc ?_ _)); refine blk_put (cs := #[.int .i64 t245, .int .i64 0, .int .i64 0, .int .i64 0]) ?_ 1 _ rfl; (with_reducible repeat (first | refine blk_drewN ?_ _ | refine blk_drew ?_ | refine blk_alloc ?_ _)); refine blk_put (cs := #[.int .i64 0, .int .i64 0, .int .i64 0, .int .i64 0]) ?_ 0 _ rfl; (with_reducible repeat (first | refine blk_drewN ?_ _ | refine blk_drew ?_ | refine blk_alloc ?_ _)); exact BK250.out⟩, ⟨by repeat (first | (with_reducible first | exact HB.out | apply below_alloc | apply pw_below_drewN | apply below_drew1 | refine below_set ?_ GE233.out | refine below_set ?_ GE234.out | refine below_set ?_ GE250.out) | exact HB.out)⟩⟩
                        · rw [if_neg c68] at H
                          exact absurd H (by simp)
                      · rw [if_neg c67] at H
                        exact absurd H (by simp)
                    · replace c66 := Bool.eq_false_iff.mpr c66
                      subst c66
                      have H1 : (serinettelaw19_PresetChoices.j2 kj16 a1 t235 t237 (!(t245 == 0) || (!(t246 == 0) || (!(t247 == 0) || (!(t248 == 0))))) a0_0 a0_1 a0_2 a0_3 l0_4 l0_5 a0_6 a0_7 a3_0 a3_1 a3_2 a3_3) = some r := by rw [if_neg (show ¬ (false = true) by decide)] at H; exact H
                      clear H
                      have H := H1
                      clear H1
                      have H' := Aside0.mk H
                      clear H
                      have hnb78 := NB250_233.out
                      have hnc78 := NB233_250.out
                      have hnb79 := NB250_234.out
                      have hnc79 := NB234_250.out
                      have hcz80_0 : w42.cell? ⟨gb250, 0, none⟩ = some (.int .i64 0) := (blk_cell BK250.out 0).trans rfl
                      have hcz80_1 : w42.cell? ⟨gb250, 1, none⟩ = some (.int .i64 0) := (blk_cell BK250.out 1).trans rfl
                      have hcz80_2 : w42.cell? ⟨gb250, 2, none⟩ = some (.int .i64 0) := (blk_cell BK250.out 2).trans rfl
                      have hcz80_3 : w42.cell? ⟨gb250, 3, none⟩ = some (.int .i64 0) := (blk_cell BK250.out 3).trans rfl
                      have hfz80_0 := blk_frozen BK250.out 0
                      have hfz80_1 := blk_frozen BK250.out 1
                      have hfz80_2 := blk_frozen BK250.out 2
                      have hfz80_3 := blk_frozen BK250.out 3
                      go_wp2
                      repeat (go_quiet (fail); try go_wp2)
                      go_meet
                      case rel => exact ⟨_, ((!(t245 == 0) || (!(t246 == 0) || (!(t247 == 0) || (!(t248 == 0)))))), (by first | rfl | (simp; done) | (simp [*]; done)), H', ⟨by have := HJ6.out; have := HJ16.out; first | omega | exact Nat.le_refl _⟩, ⟨by (with_reducible repeat (first | apply Kd.R_alloc | apply Kd.R_drewN | apply Kd.R_drew)); exact Kd.R_mono (Kd.R_far (p := ⟨gb250, 3, none⟩) (Kd.R_far (p := ⟨gb250, 2, none⟩) (Kd.R_far (p := ⟨gb250, 1, none⟩) (Kd.R_far (p := ⟨gb250, 0, none⟩) (Kd.R_mono HO_11.out (fun k_ hk => (⟨hk, hk.2⟩ : _ ∧ k_ ≠ gb250))) (fun _ hk => hk.2) (.int .i64 t245)) (fun _ hk => hk.2) (.int .i64 t246)) (fun _ hk => hk.2) (.int .i64 t247)) (fun _ hk => hk.2) (.int .i64 t248)) (fun _ hk => ⟨hk.1.1, hk.1.2⟩)⟩, ⟨by (with_reducible repeat (first | refine blk_drewN ?_ _ | refine blk_drew ?_ | refine blk_alloc ?_ _)); refine blk_far ?_ NB233_250.out _; (with_reducible repeat (first | refine blk_drewN ?_ _ | refine blk_drew ?_ | refine blk_alloc ?_ _)); refine blk_far ?_ NB233_250.out _; (with_reducible repeat (first | refine blk_drewN ?_ _ | refine blk_drew ?_ | refine blk_alloc ?_ _)); refine blk_far ?_ NB233_250.out _; (with_reducible repeat (first | refine blk_drewN ?_ _ | refine blk_drew ?_ | refine blk_alloc ?_ _)); refine blk_far ?_ NB233_250.out _; (with_reducible repeat (first | refine blk_drewN ?_ _ | refine blk_drew ?_ | refine blk_alloc ?_ _)); exact BK233.out⟩, ⟨by (with_reducible repeat (first | refine blk_drewN ?_ _ | refine blk_drew ?_ | refine blk_alloc ?_ _)); refine blk_far ?_ NB234_250.out _; (with_reducible repeat (first | refine blk_drewN ?_ _ | refine blk_drew ?_ | refine blk_alloc ?_ _)); refine blk_far ?_ NB234_250.out _; (with_reducible repeat (first | refine blk_drewN ?_ _ | refine blk_drew ?_ | refine blk_alloc ?_ _)); refine blk_far ?_ NB234_250.out _; (with_reducible repeat (first | refine blk_drewN ?_ _ | refine blk_drew ?_ | refine blk_alloc ?_ _)); refine blk_far ?_ NB234_250.out _; (with_reducible repeat (first | refine blk_drewN ?_ _ | refine blk_drew ?_ | refine blk_alloc ?_ _)); exact BK234.out⟩, ⟨by (with_reducible repeat (first | refine blk_drewN ?_ _ | refine blk_drew ?_ | refine blk_alloc ?_ _)); refine blk_put (cs := #[.int .i64 t245, .int .i64 t246, .int .i64 t247, .int .i64 0]) ?_ 3 _ rfl; (with_reducible repeat (first | refine blk_drewN ?_ _ | refine blk_drew ?_ | refine blk_alloc ?_ _)); refine blk_put (cs := #[.int .i64 t245, .int .i64 t246, .int .i64 0, .int .i64 0]) ?_ 2 _ rfl; (with_reducible repeat (first | refine blk_drewN ?_ _ | refine blk_drew ?_ | refine blk_alloc ?_ _)); refine blk_put (cs := #[.int .i64 t245, .int .i64 0, .int .i64 0, .int .i64 0]) ?_ 1 _ rfl; (with_reducible repeat (first | refine blk_drewN ?_ _ | refine blk_drew ?_ | refine blk_alloc ?_ _)); refine blk_put (cs := #[.int .i64 0, .int .i64 0, .int .i64 0, .int .i64 0]) ?_ 0 _ rfl; (with_reducible repeat (first | refine blk_drewN ?_ _ | refine blk_drew ?_ | refine blk_alloc ?_ _)); exact BK250.out⟩, ⟨by repeat (first | (with_reducible first | exact HB.out | apply below_alloc | apply pw_below_drewN | apply below_drew1 | refine below_set ?_ GE233.out | refine below_set ?_ GE234.out | refine below_set ?_ GE250.out) | exact HB.out)⟩⟩
              case rest =>
                clear HC38
                try clear c1
                try clear c2
                try clear p2
                try clear q2
                try clear hx2
                try clear c3
                try clear c4
                try clear c5
                try clear c6
                try clear c7
                try clear c11
                try clear c14
                try clear c14b0
                try clear c14b1
                try clear c15
                try clear c18
                try clear c22
                try clear c22b0
                try clear c22b1
                try clear c25
                try clear p25
                try clear q25
                try clear hx25
                try clear c32
                try clear c36
                try clear c39
                try clear c43
                try clear c44
                try clear c46
                try clear c46b0
                try clear c47
                try clear c47b0
                try clear c47b1
                try clear c47b2
                try clear c49
                try clear c50
                try clear c50b0
                try clear c51
                try clear c51b0
                try clear c52
                try clear c52b0
                try clear c54
                try clear c55
                try clear c58
                try clear c59
                try clear c62
                try clear c63
                try clear c65
                try clear c65b0
                try clear c65b1
                try clear c65b2
                try clear c66
                try clear c67
                try clear c67b0
                try clear c68
                try clear c68b0
                try clear c69
                try clear c69b0
                try clear c70
                try clear c71
                try clear c74
                try clear c75
                try clear c78
                try clear c79
                try clear hcz12_0
                try clear hcz12_1
                try clear hcz12_2
                try clear hcz12_3
                try clear hcz12_4
                try clear hcz12_5
                try clear hcz12_6
                try clear hcz12_7
                try clear hcz19_0
                try clear hcz19_1
                try clear hcz19_2
                try clear hcz19_3
                try clear hcz19_4
                try clear hcz19_5
                try clear hcz19_6
                try clear hcz19_7
                try clear hcz26_0
                try clear hcz26_1
                try clear hcz26_2
                try clear hcz26_3
                try clear hcz26_4
                try clear hcz26_5
                try clear hcz26_6
                try clear hcz26_7
                try clear hcz29_0
                try clear hcz29_1
                try clear hcz29_2
                try clear hcz29_3
                try clear hcz29_4
                try clear hcz29_5
                try clear hcz29_6
                try clear hcz29_7
                try clear hcz33_0
                try clear hcz33_1
                try clear hcz33_2
                try clear hcz33_3
                try clear hcz33_4
                try clear hcz33_5
                try clear hcz33_6
                try clear hcz33_7
                try clear hcz40_0
                try clear hcz40_1
                try clear hcz40_2
                try clear hcz40_3
                try clear hcz40_4
                try clear hcz40_5
                try clear hcz40_6
                try clear hcz40_7
                try clear hcz45_0
                try clear hcz45_1
                try clear hcz45_2
                try clear hcz45_3
                try clear hcz56_0
                try clear hcz56_1
                try clear hcz56_2
                try clear hcz56_3
                try clear hcz60_0
                try clear hcz60_1
                try clear hcz60_2
                try clear hcz60_3
                try clear hcz64_0
                try clear hcz64_1
                try clear hcz64_2
                try clear hcz64_3
                try clear hcz72_0
                try clear hcz72_1
                try clear hcz72_2
                try clear hcz72_3
                try clear hcz76_0
                try clear hcz76_1
                try clear hcz76_2
                try clear hcz76_3
                try clear hcz80_0
                try clear hcz80_1
                try clear hcz80_2
                try clear hcz80_3
                try clear hfz12_0
                try clear hfz12_1
                try clear hfz12_2
                try clear hfz12_3
                try clear hfz12_4
                try clear hfz12_5
                try clear hfz12_6
                try clear hfz12_7
                try clear hfz19_0
                try clear hfz19_1
                try clear hfz19_2
                try clear hfz19_3
                try clear hfz19_4
                try clear hfz19_5
                try clear hfz19_6
                try clear hfz19_7
                try clear hfz26_0
                try clear hfz26_1
                try clear hfz26_2
                try clear hfz26_3
                try clear hfz26_4
                try clear hfz26_5
                try clear hfz26_6
                try clear hfz26_7
                try clear hfz29_0
                try clear hfz29_1
                try clear hfz29_2
                try clear hfz29_3
                try clear hfz29_4
                try clear hfz29_5
                try clear hfz29_6
                try clear hfz29_7
                try clear hfz33_0
                try clear hfz33_1
                try clear hfz33_2
                try clear hfz33_3
                try clear hfz33_4
                try clear hfz33_5
                try clear hfz33_6
                try clear hfz33_7
                try clear hfz40_0
                try clear hfz40_1
                try clear hfz40_2
                try clear hfz40_3
                try clear hfz40_4
                try clear hfz40_5
                try clear hfz40_6
                try clear hfz40_7
                try clear hfz45_0
                try clear hfz45_1
                try clear hfz45_2
                try clear hfz45_3
                try clear hfz56_0
                try clear hfz56_1
                try clear hfz56_2
                try clear hfz56_3
                try clear hfz60_0
                try clear hfz60_1
                try clear hfz60_2
                try clear hfz60_3
                try clear hfz64_0
                try clear hfz64_1
                try clear hfz64_2
                try clear hfz64_3
                try clear hfz72_0
                try clear hfz72_1
                try clear hfz72_2
                try clear hfz72_3
                try clear hfz76_0
                try clear hfz76_1
                try clear hfz76_2
                try clear hfz76_3
                try clear hfz80_0
                try clear hfz80_1
                try clear hfz80_2
                try clear hfz80_3
                try clear hx251_0
                try clear hx251_1
                try clear hx251_2
                try clear hx251_3
                try clear hx252_0
                try clear hx252_1
                try clear hx252_2
                try clear hx252_3
                try clear p2
                try clear p251
                try clear p252
                try clear q251
                try clear q252
                obtain ⟨kq, x80_37, rfl, HA, HJ37, HO_11, BK233, BK234, BK250, HB⟩ := hcut
                cases kq with
                | zero => exact absurd HA.out (by simp [serinettelaw19_PresetChoices.j2])
                | succ kj37 =>
                  have H := HA.out
                  clear HA
                  simp only [serinettelaw19_PresetChoices.j2] at H
                  by_cases c81 : x80_37 = true
                  · subst c81
                    have H1 : (some false) = some r := by rw [if_pos rfl] at H; exact H
                    clear H
                    have H := H1
                    clear H1
                    obtain rfl := Option.some.inj H
                    go_wp2
                    repeat (go_quiet (fail); try go_wp2)
                    go_ret
                    exact ⟨by first | rfl | (simp [errW_none, errW_some] <;> rfl) | (simp [*, errW_none, errW_some] <;> rfl), by repeat (first | (with_reducible first | exact HB.out | apply below_alloc | apply pw_below_drewN | apply below_drew1 | refine below_set ?_ GE233.out | refine below_set ?_ GE234.out | refine below_set ?_ GE250.out) | exact HB.out)⟩
                  · replace c81 := Bool.eq_false_iff.mpr c81
                    subst c81
                    have H1 : ((preset_Index.f kj37 a0_0 a0_1 a0_2 a0_3 l0_4 l0_5 a0_6 a0_7 a1 a3_0 a3_1 a3_2 a3_3).bind fun bt253 => ((serinetteref19_At.f kj37 t237 a3_0 a3_1 a3_2 a3_3).bind fun t255 => (if t235 = true then (if (bt253.2 == (decide (t255 ≥ 0))) = true then (some (bt253.1 == (mx t255 0))) else (some false)) else (some false)))) = some r := by rw [if_neg (show ¬ (false = true) by decide)] at H; exact H
                    clear H
                    have H := H1
                    clear H1
                    replace H := Option.bind_eq_some_iff.mp H
                    obtain ⟨⟨t253, t254⟩, A820, H⟩ := H
                    replace H : ((serinetteref19_At.f kj37 t237 a3_0 a3_1 a3_2 a3_3).bind fun t255 => (if t235 = true then (if (t254 == (decide (t255 ≥ 0))) = true then (some (t253 == (mx t255 0))) else (some false)) else (some false))) = some r := H
                    have A82 := Aside0.mk A820
                    clear A820
                    replace H := Option.bind_eq_some_iff.mp H
                    obtain ⟨t255, A830, H⟩ := H
                    replace H : (if t235 = true then (if (t254 == (decide (t255 ≥ 0))) = true then (some (t253 == (mx t255 0))) else (some false)) else (some false)) = some r := H
                    have A83 := Aside0.mk A830
                    clear A830
                    by_cases c84 : t235 = true
                    · subst c84
                      have H1 : (if (t254 == (decide (t255 ≥ 0))) = true then (some (t253 == (mx t255 0))) else (some false)) = some r := by rw [if_pos rfl] at H; exact H
                      clear H
                      have H := H1
                      clear H1
                      by_cases c85 : (t254 == (decide (t255 ≥ 0))) = true
                      · rw [if_pos c85] at H
                        have c85b0 : (t254 == (decide (t255 ≥ 0))) = true := c85
                        (try (have c85b1 : decide (t254 = (decide (t255 ≥ 0))) = true := by simpa using c85))
                        (try (have c85b2 : (t254 == (decide (t255 ≥ 0))) = true := by simpa using c85))
                        clear c85
                        obtain ⟨ji86, hji86⟩ : ∃ j_ : Int, (mx t255 0) = j_ := ⟨_, rfl⟩
                        replace H : (some (t253 == (ji86))) = some r := by first | (rw [hji86] at H; exact H) | (simp only [hji86] at H ⊢; exact H)
                        (try rw [hji86] at A82)
                        (try rw [hji86] at A83)
                        (try (have hji86l : 0 ≤ ji86 := by (rw [← hji86]; unfold mx; (repeat' split) <;> omega)))
                        (try (have hji86m : 0 ≤ ji86 := by omega))
                        have hji86_ : (if t255 < 0 then 0 else t255) = ji86 := hji86
                        obtain rfl := Option.some.inj H
                        have hnb87 := NB233_234.out
                        have hnc87 := NB234_233.out
                        have hnb88 := NB233_250.out
                        have hnc88 := NB250_233.out
                        have hcz89_0 : wc.cell? ⟨gb233, 0, none⟩ = some (.int .i64 a0_0) := (blk_cell BK233.out 0).trans rfl
                        have hcz89_1 : wc.cell? ⟨gb233, 1, none⟩ = some (.bool a0_1) := (blk_cell BK233.out 1).trans rfl
                        have hcz89_2 : wc.cell? ⟨gb233, 2, none⟩ = some (.int .i64 a0_2) := (blk_cell BK233.out 2).trans rfl
                        have hcz89_3 : wc.cell? ⟨gb233, 3, none⟩ = some (.int .i64 a0_3) := (blk_cell BK233.out 3).trans rfl
                        have hcz89_4 : wc.cell? ⟨gb233, 4, none⟩ = some (.slice A0_4 l0_4.length c0_4) := (blk_cell BK233.out 4).trans rfl
                        have hcz89_5 : wc.cell? ⟨gb233, 5, none⟩ = some (.slice A0_5 l0_5.length c0_5) := (blk_cell BK233.out 5).trans rfl
                        have hcz89_6 : wc.cell? ⟨gb233, 6, none⟩ = some (.int .i64 a0_6) := (blk_cell BK233.out 6).trans rfl
                        have hcz89_7 : wc.cell? ⟨gb233, 7, none⟩ = some (.bool a0_7) := (blk_cell BK233.out 7).trans rfl
                        have hfz89_0 := blk_frozen BK233.out 0
                        have hfz89_1 := blk_frozen BK233.out 1
                        have hfz89_2 := blk_frozen BK233.out 2
                        have hfz89_3 := blk_frozen BK233.out 3
                        have hfz89_4 := blk_frozen BK233.out 4
                        have hfz89_5 := blk_frozen BK233.out 5
                        have hfz89_6 := blk_frozen BK233.out 6
                        have hfz89_7 := blk_frozen BK233.out 7
                        have hnb90 := NB234_250.out
                        have hnc90 := NB250_234.out
                        have hcz91_0 : wc.cell? ⟨gb234, 0, none⟩ = some (.int .i64 a3_0) := (blk_cell BK234.out 0).trans rfl
                        have hcz91_1 : wc.cell? ⟨gb234, 1, none⟩ = some (.int .i64 a3_1) := (blk_cell BK234.out 1).trans rfl
                        have hcz91_2 : wc.cell? ⟨gb234, 2, none⟩ = some (.int .i64 a3_2) := (blk_cell BK234.out 2).trans rfl
                        have hcz91_3 : wc.cell? ⟨gb234, 3, none⟩ = some (.int .i64 a3_3) := (blk_cell BK234.out 3).trans rfl
                        have hfz91_0 := blk_frozen BK234.out 0
                        have hfz91_1 := blk_frozen BK234.out 1
                        have hfz91_2 := blk_frozen BK234.out 2
                        have hfz91_3 := blk_frozen BK234.out 3
                        go_wp2_with (first | (go_at_call 19; (with_reducible refine (preset_Index.calls kj37 a0_0 a0_1 a0_2 a0_3 _ _ l0_4 _ _ l0_5 a0_6 a0_7 a1 a3_0 a3_1 a3_2 a3_3 t253 t254 _ ?side1 ?side2 ?side3 ?side4 A82.out).mono ?_); (case side1 => repeat (first | exact (Kd.C_below HR0_4.out HB.out) | (with_reducible refine Kd.C_alloc ?_ _) | (with_reducible refine Kd.C_drewN ?_ _) | (with_reducible refine Kd.C_drew ?_))); (case side2 => exact HC0_4.out); (case side3 => repeat (first | exact (Kd.C_below HR0_5.out HB.out) | (with_reducible refine Kd.C_alloc ?_ _) | (with_reducible refine Kd.C_drewN ?_ _) | (with_reducible refine Kd.C_drew ?_))); (case side4 => exact HC0_5.out); rintro e w92 ⟨rfl, hb⟩; have n0_ := Aside0.mk (Kd.R_below (by (with_reducible repeat (first | apply Kd.R_alloc | apply Kd.R_drewN | apply Kd.R_drew)); exact HO_11.out) hb); have n1_ := Aside0.mk (blk_below (g := gb233) (o := .cells #[.int .i64 a0_0, .bool a0_1, .int .i64 a0_2, .int .i64 a0_3, .slice A0_4 l0_4.length c0_4, .slice A0_5 l0_5.length c0_5, .int .i64 a0_6, .bool a0_7] 24 (0, 0)) (by (with_reducible repeat (first | refine blk_drewN ?_ _ | refine blk_drew ?_ | refine blk_alloc ?_ _)); exact BK233.out) hb); have n2_ := Aside0.mk (blk_below (g := gb234) (o := .cells #[.int .i64 a3_0, .int .i64 a3_1, .int .i64 a3_2, .int .i64 a3_3] 35 (0, 0)) (by (with_reducible repeat (first | refine blk_drewN ?_ _ | refine blk_drew ?_ | refine blk_alloc ?_ _)); exact BK234.out) hb); have n3_ := Aside0.mk (blk_below (g := gb250) (o := .cells #[.int .i64 t245, .int .i64 t246, .int .i64 t247, .int .i64 t248] 35 (0, 0)) (by (with_reducible repeat (first | refine blk_drewN ?_ _ | refine blk_drew ?_ | refine blk_alloc ?_ _)); exact BK250.out) hb); have n4_ := Aside0.mk (below_step (by repeat (first | (with_reducible first | exact HB.out | apply below_alloc | apply pw_below_drewN | apply below_drew1 | refine below_set ?_ GE233.out | refine below_set ?_ GE234.out | refine below_set ?_ GE250.out) | exact HB.out)) hb); clear HO_11; clear BK233; clear BK234; clear BK250; clear HB; have HO_11 := n0_; have BK233 := n1_; have BK234 := n2_; have BK250 := n3_; have HB := n4_; clear n0_ n1_ n2_ n3_ n4_; (try clear hb); (try clear hb2); (try clear hk); (try clear hi); have hcz93_0 : w92.cell? ⟨gb234, 0, none⟩ = some (.int .i64 a3_0) := (blk_cell BK234.out 0).trans rfl; have hcz93_1 : w92.cell? ⟨gb234, 1, none⟩ = some (.int .i64 a3_1) := (blk_cell BK234.out 1).trans rfl; have hcz93_2 : w92.cell? ⟨gb234, 2, none⟩ = some (.int .i64 a3_2) := (blk_cell BK234.out 2).trans rfl; have hcz93_3 : w92.cell? ⟨gb234, 3, none⟩ = some (.int .i64 a3_3) := (blk_cell BK234.out 3).trans rfl; have hfz93_0 := blk_frozen BK234.out 0; have hfz93_1 := blk_frozen BK234.out 1; have hfz93_2 := blk_frozen BK234.out 2; have hfz93_3 := blk_frozen BK234.out 3; obtain ⟨Ao94, co94, eo94⟩ := Kd.R_slice HO_11.out; subst eo94) | (go_at_call 20; (with_reducible refine (serinetteref19_At.calls kj37 _ _ t237 a3_0 a3_1 a3_2 a3_3 t255 _ ?side1 ?side2 A83.out).mono ?_); (case side1 => repeat (first | exact (Kd.R_reads' HO_11.out).2.2 | (with_reducible refine Kd.C_alloc ?_ _) | (with_reducible refine Kd.C_drewN ?_ _) | (with_reducible refine Kd.C_drew ?_))); (case side2 => exact (Kd.R_reads' HO_11.out).2.1); rintro e w95 ⟨rfl, hb⟩; have n0_ := Aside0.mk (Kd.R_below (by (with_reducible repeat (first | apply Kd.R_alloc | apply Kd.R_drewN | apply Kd.R_drew)); exact HO_11.out) hb); have n1_ := Aside0.mk (blk_below (g := gb233) (o := .cells #[.int .i64 a0_0, .bool a0_1, .int .i64 a0_2, .int .i64 a0_3, .slice A0_4 l0_4.length c0_4, .slice A0_5 l0_5.length c0_5, .int .i64 a0_6, .bool a0_7] 24 (0, 0)) (by (with_reducible repeat (first | refine blk_drewN ?_ _ | refine blk_drew ?_ | refine blk_alloc ?_ _)); exact BK233.out) hb); have n2_ := Aside0.mk (blk_below (g := gb234) (o := .cells #[.int .i64 a3_0, .int .i64 a3_1, .int .i64 a3_2, .int .i64 a3_3] 35 (0, 0)) (by (with_reducible repeat (first | refine blk_drewN ?_ _ | refine blk_drew ?_ | refine blk_alloc ?_ _)); exact BK234.out) hb); have n3_ := Aside0.mk (blk_below (g := gb250) (o := .cells #[.int .i64 t245, .int .i64 t246, .int .i64 t247, .int .i64 t248] 35 (0, 0)) (by (with_reducible repeat (first | refine blk_drewN ?_ _ | refine blk_drew ?_ | refine blk_alloc ?_ _)); exact BK250.out) hb); have n4_ := Aside0.mk (below_step (by repeat (first | (with_reducible first | exact HB.out | apply below_alloc | apply pw_below_drewN | apply below_drew1 | refine below_set ?_ GE233.out | refine below_set ?_ GE234.out | refine below_set ?_ GE250.out) | exact HB.out)) hb); clear HO_11; clear BK233; clear BK234; clear BK250; clear HB; have HO_11 := n0_; have BK233 := n1_; have BK234 := n2_; have BK250 := n3_; have HB := n4_; clear n0_ n1_ n2_ n3_ n4_; (try clear hb); (try clear hb2); (try clear hk); (try clear hi)))
                        repeat (go_quiet (first | (go_at_call 19; (with_reducible refine (preset_Index.calls kj37 a0_0 a0_1 a0_2 a0_3 _ _ l0_4 _ _ l0_5 a0_6 a0_7 a1 a3_0 a3_1 a3_2 a3_3 t253 t254 _ ?side1 ?side2 ?side3 ?side4 A82.out).mono ?_); (case side1 => repeat (first | exact (Kd.C_below HR0_4.out HB.out) | (with_reducible refine Kd.C_alloc ?_ _) | (with_reducible refine Kd.C_drewN ?_ _) | (with_reducible refine Kd.C_drew ?_))); (case side2 => exact HC0_4.out); (case side3 => repeat (first | exact (Kd.C_below HR0_5.out HB.out) | (with_reducible refine Kd.C_alloc ?_ _) | (with_reducible refine Kd.C_drewN ?_ _) | (with_reducible refine Kd.C_drew ?_))); (case side4 => exact HC0_5.out); rintro e w92 ⟨rfl, hb⟩; have n0_ := Aside0.mk (Kd.R_below (by (with_reducible repeat (first | apply Kd.R_alloc | apply Kd.R_drewN | apply Kd.R_drew)); exact HO_11.out) hb); have n1_ := Aside0.mk (blk_below (g := gb233) (o := .cells #[.int .i64 a0_0, .bool a0_1, .int .i64 a0_2, .int .i64 a0_3, .slice A0_4 l0_4.length c0_4, .slice A0_5 l0_5.length c0_5, .int .i64 a0_6, .bool a0_7] 24 (0, 0)) (by (with_reducible repeat (first | refine blk_drewN ?_ _ | refine blk_drew ?_ | refine blk_alloc ?_ _)); exact BK233.out) hb); have n2_ := Aside0.mk (blk_below (g := gb234) (o := .cells #[.int .i64 a3_0, .int .i64 a3_1, .int .i64 a3_2, .int .i64 a3_3] 35 (0, 0)) (by (with_reducible repeat (first | refine blk_drewN ?_ _ | refine blk_drew ?_ | refine blk_alloc ?_ _)); exact BK234.out) hb); have n3_ := Aside0.mk (blk_below (g := gb250) (o := .cells #[.int .i64 t245, .int .i64 t246, .int .i64 t247, .int .i64 t248] 35 (0, 0)) (by (with_reducible repeat (first | refine blk_drewN ?_ _ | refine blk_drew ?_ | refine blk_alloc ?_ _)); exact BK250.out) hb); have n4_ := Aside0.mk (below_step (by repeat (first | (with_reducible first | exact HB.out | apply below_alloc | apply pw_below_drewN | apply below_drew1 | refine below_set ?_ GE233.out | refine below_set ?_ GE234.out | refine below_set ?_ GE250.out) | exact HB.out)) hb); clear HO_11; clear BK233; clear BK234; clear BK250; clear HB; have HO_11 := n0_; have BK233 := n1_; have BK234 := n2_; have BK250 := n3_; have HB := n4_; clear n0_ n1_ n2_ n3_ n4_; (try clear hb); (try clear hb2); (try clear hk); (try clear hi); have hcz93_0 : w92.cell? ⟨gb234, 0, none⟩ = some (.int .i64 a3_0) := (blk_cell BK234.out 0).trans rfl; have hcz93_1 : w92.cell? ⟨gb234, 1, none⟩ = some (.int .i64 a3_1) := (blk_cell BK234.out 1).trans rfl; have hcz93_2 : w92.cell? ⟨gb234, 2, none⟩ = some (.int .i64 a3_2) := (blk_cell BK234.out 2).trans rfl; have hcz93_3 : w92.cell? ⟨gb234, 3, none⟩ = some (.int .i64 a3_3) := (blk_cell BK234.out 3).trans rfl; have hfz93_0 := blk_frozen BK234.out 0; have hfz93_1 := blk_frozen BK234.out 1; have hfz93_2 := blk_frozen BK234.out 2; have hfz93_3 := blk_frozen BK234.out 3; obtain ⟨Ao94, co94, eo94⟩ := Kd.R_slice HO_11.out; subst eo94) | (go_at_call 20; (with_reducible refine (serinetteref19_At.calls kj37 _ _ t237 a3_0 a3_1 a3_2 a3_3 t255 _ ?side1 ?side2 A83.out).mono ?_); (case side1 => repeat (first | exact (Kd.R_reads' HO_11.out).2.2 | (with_reducible refine Kd.C_alloc ?_ _) | (with_reducible refine Kd.C_drewN ?_ _) | (with_reducible refine Kd.C_drew ?_))); (case side2 => exact (Kd.R_reads' HO_11.out).2.1); rintro e w95 ⟨rfl, hb⟩; have n0_ := Aside0.mk (Kd.R_below (by (with_reducible repeat (first | apply Kd.R_alloc | apply Kd.R_drewN | apply Kd.R_drew)); exact HO_11.out) hb); have n1_ := Aside0.mk (blk_below (g := gb233) (o := .cells #[.int .i64 a0_0, .bool a0_1, .int .i64 a0_2, .int .i64 a0_3, .slice A0_4 l0_4.length c0_4, .slice A0_5 l0_5.length c0_5, .int .i64 a0_6, .bool a0_7] 24 (0, 0)) (by (with_reducible repeat (first | refine blk_drewN ?_ _ | refine blk_drew ?_ | refine blk_alloc ?_ _)); exact BK233.out) hb); have n2_ := Aside0.mk (blk_below (g := gb234) (o := .cells #[.int .i64 a3_0, .int .i64 a3_1, .int .i64 a3_2, .int .i64 a3_3] 35 (0, 0)) (by (with_reducible repeat (first | refine blk_drewN ?_ _ | refine blk_drew ?_ | refine blk_alloc ?_ _)); exact BK234.out) hb); have n3_ := Aside0.mk (blk_below (g := gb250) (o := .cells #[.int .i64 t245, .int .i64 t246, .int .i64 t247, .int .i64 t248] 35 (0, 0)) (by (with_reducible repeat (first | refine blk_drewN ?_ _ | refine blk_drew ?_ | refine blk_alloc ?_ _)); exact BK250.out) hb); have n4_ := Aside0.mk (below_step (by repeat (first | (with_reducible first | exact HB.out | apply below_alloc | apply pw_below_drewN | apply below_drew1 | refine below_set ?_ GE233.out | refine below_set ?_ GE234.out | refine below_set ?_ GE250.out) | exact HB.out)) hb); clear HO_11; clear BK233; clear BK234; clear BK250; clear HB; have HO_11 := n0_; have BK233 := n1_; have BK234 := n2_; have BK250 := n3_; have HB := n4_; clear n0_ n1_ n2_ n3_ n4_; (try clear hb); (try clear hb2); (try clear hk); (try clear hi))); try go_wp2_with (first | (go_at_call 19; (with_reducible refine (preset_Index.calls kj37 a0_0 a0_1 a0_2 a0_3 _ _ l0_4 _ _ l0_5 a0_6 a0_7 a1 a3_0 a3_1 a3_2 a3_3 t253 t254 _ ?side1 ?side2 ?side3 ?side4 A82.out).mono ?_); (case side1 => repeat (first | exact (Kd.C_below HR0_4.out HB.out) | (with_reducible refine Kd.C_alloc ?_ _) | (with_reducible refine Kd.C_drewN ?_ _) | (with_reducible refine Kd.C_drew ?_))); (case side2 => exact HC0_4.out); (case side3 => repeat (first | exact (Kd.C_below HR0_5.out HB.out) | (with_reducible refine Kd.C_alloc ?_ _) | (with_reducible refine Kd.C_drewN ?_ _) | (with_reducible refine Kd.C_drew ?_))); (case side4 => exact HC0_5.out); rintro e w92 ⟨rfl, hb⟩; have n0_ := Aside0.mk (Kd.R_below (by (with_reducible repeat (first | apply Kd.R_alloc | apply Kd.R_drewN | apply Kd.R_drew)); exact HO_11.out) hb); have n1_ := Aside0.mk (blk_below (g := gb233) (o := .cells #[.int .i64 a0_0, .bool a0_1, .int .i64 a0_2, .int .i64 a0_3, .slice A0_4 l0_4.length c0_4, .slice A0_5 l0_5.length c0_5, .int .i64 a0_6, .bool a0_7] 24 (0, 0)) (by (with_reducible repeat (first | refine blk_drewN ?_ _ | refine blk_drew ?_ | refine blk_alloc ?_ _)); exact BK233.out) hb); have n2_ := Aside0.mk (blk_below (g := gb234) (o := .cells #[.int .i64 a3_0, .int .i64 a3_1, .int .i64 a3_2, .int .i64 a3_3] 35 (0, 0)) (by (with_reducible repeat (first | refine blk_drewN ?_ _ | refine blk_drew ?_ | refine blk_alloc ?_ _)); exact BK234.out) hb); have n3_ := Aside0.mk (blk_below (g := gb250) (o := .cells #[.int .i64 t245, .int .i64 t246, .int .i64 t247, .int .i64 t248] 35 (0, 0)) (by (with_reducible repeat (first | refine blk_drewN ?_ _ | refine blk_drew ?_ | refine blk_alloc ?_ _)); exact BK250.out) hb); have n4_ := Aside0.mk (below_step (by repeat (first | (with_reducible first | exact HB.out | apply below_alloc | apply pw_below_drewN | apply below_drew1 | refine below_set ?_ GE233.out | refine below_set ?_ GE234.out | refine below_set ?_ GE250.out) | exact HB.out)) hb); clear HO_11; clear BK233; clear BK234; clear BK250; clear HB; have HO_11 := n0_; have BK233 := n1_; have BK234 := n2_; have BK250 := n3_; have HB := n4_; clear n0_ n1_ n2_ n3_ n4_; (try clear hb); (try clear hb2); (try clear hk); (try clear hi); have hcz93_0 : w92.cell? ⟨gb234, 0, none⟩ = some (.int .i64 a3_0) := (blk_cell BK234.out 0).trans rfl; have hcz93_1 : w92.cell? ⟨gb234, 1, none⟩ = some (.int .i64 a3_1) := (blk_cell BK234.out 1).trans rfl; have hcz93_2 : w92.cell? ⟨gb234, 2, none⟩ = some (.int .i64 a3_2) := (blk_cell BK234.out 2).trans rfl; have hcz93_3 : w92.cell? ⟨gb234, 3, none⟩ = some (.int .i64 a3_3) := (blk_cell BK234.out 3).trans rfl; have hfz93_0 := blk_frozen BK234.out 0; have hfz93_1 := blk_frozen BK234.out 1; have hfz93_2 := blk_frozen BK234.out 2; have hfz93_3 := blk_frozen BK234.out 3; obtain ⟨Ao94, co94, eo94⟩ := Kd.R_slice HO_11.out; subst eo94) | (go_at_call 20; (with_reducible refine (serinetteref19_At.calls kj37 _ _ t237 a3_0 a3_1 a3_2 a3_3 t255 _ ?side1 ?side2 A83.out).mono ?_); (case side1 => repeat (first | exact (Kd.R_reads' HO_11.out).2.2 | (with_reducible refine Kd.C_alloc ?_ _) | (with_reducible refine Kd.C_drewN ?_ _) | (with_reducible refine Kd.C_drew ?_))); (case side2 => exact (Kd.R_reads' HO_11.out).2.1); rintro e w95 ⟨rfl, hb⟩; have n0_ := Aside0.mk (Kd.R_below (by (with_reducible repeat (first | apply Kd.R_alloc | apply Kd.R_drewN | apply Kd.R_drew)); exact HO_11.out) hb); have n1_ := Aside0.mk (blk_below (g := gb233) (o := .cells #[.int .i64 a0_0, .bool a0_1, .int .i64 a0_2, .int .i64 a0_3, .slice A0_4 l0_4.length c0_4, .slice A0_5 l0_5.length c0_5, .int .i64 a0_6, .bool a0_7] 24 (0, 0)) (by (with_reducible repeat (first | refine blk_drewN ?_ _ | refine blk_drew ?_ | refine blk_alloc ?_ _)); exact BK233.out) hb); have n2_ := Aside0.mk (blk_below (g := gb234) (o := .cells #[.int .i64 a3_0, .int .i64 a3_1, .int .i64 a3_2, .int .i64 a3_3] 35 (0, 0)) (by (with_reducible repeat (first | refine blk_drewN ?_ _ | refine blk_drew ?_ | refine blk_alloc ?_ _)); exact BK234.out) hb); have n3_ := Aside0.mk (blk_below (g := gb250) (o := .cells #[.int .i64 t245, .int .i64 t246, .int .i64 t247, .int .i64 t248] 35 (0, 0)) (by (with_reducible repeat (first | refine blk_drewN ?_ _ | refine blk_drew ?_ | refine blk_alloc ?_ _)); exact BK250.out) hb); have n4_ := Aside0.mk (below_step (by repeat (first | (with_reducible first | exact HB.out | apply below_alloc | apply pw_below_drewN | apply below_drew1 | refine below_set ?_ GE233.out | refine below_set ?_ GE234.out | refine below_set ?_ GE250.out) | exact HB.out)) hb); clear HO_11; clear BK233; clear BK234; clear BK250; clear HB; have HO_11 := n0_; have BK233 := n1_; have BK234 := n2_; have BK250 := n3_; have HB := n4_; clear n0_ n1_ n2_ n3_ n4_; (try clear hb); (try clear hb2); (try clear hk); (try clear hi))))
                        go_ret
                        exact ⟨by first | rfl | (simp [errW_none, errW_some] <;> rfl) | (simp only [← hji86]; first | rfl | (simp [errW_none, errW_some] <;> rfl)) | (simp [*, errW_none, errW_some] <;> rfl), by repeat (first | (with_reducible first | exact HB.out | apply below_alloc | apply pw_below_drewN | apply below_drew1 | refine below_set ?_ GE233.out | refine below_set ?_ GE234.out | refine below_set ?_ GE250.out) | exact HB.out)⟩
                      · rw [if_neg c85] at H
                        have c85b0 : (t254 == (decide (t255 ≥ 0))) = false := by simpa using c85
                        (try (have c85b1 : decide (t254 = (decide (t255 ≥ 0))) = false := by simpa using c85))
                        (try (have c85b2 : (t254 == (decide (t255 ≥ 0))) = false := by simpa using c85))
                        (try (have c85b3 : ¬ (t254 = (decide (t255 ≥ 0))) := by simpa using c85))
                        clear c85
                        obtain rfl := Option.some.inj H
                        have hnb96 := NB233_234.out
                        have hnc96 := NB234_233.out
                        have hnb97 := NB233_250.out
                        have hnc97 := NB250_233.out
                        have hcz98_0 : wc.cell? ⟨gb233, 0, none⟩ = some (.int .i64 a0_0) := (blk_cell BK233.out 0).trans rfl
                        have hcz98_1 : wc.cell? ⟨gb233, 1, none⟩ = some (.bool a0_1) := (blk_cell BK233.out 1).trans rfl
                        have hcz98_2 : wc.cell? ⟨gb233, 2, none⟩ = some (.int .i64 a0_2) := (blk_cell BK233.out 2).trans rfl
                        have hcz98_3 : wc.cell? ⟨gb233, 3, none⟩ = some (.int .i64 a0_3) := (blk_cell BK233.out 3).trans rfl
                        have hcz98_4 : wc.cell? ⟨gb233, 4, none⟩ = some (.slice A0_4 l0_4.length c0_4) := (blk_cell BK233.out 4).trans rfl
                        have hcz98_5 : wc.cell? ⟨gb233, 5, none⟩ = some (.slice A0_5 l0_5.length c0_5) := (blk_cell BK233.out 5).trans rfl
                        have hcz98_6 : wc.cell? ⟨gb233, 6, none⟩ = some (.int .i64 a0_6) := (blk_cell BK233.out 6).trans rfl
                        have hcz98_7 : wc.cell? ⟨gb233, 7, none⟩ = some (.bool a0_7) := (blk_cell BK233.out 7).trans rfl
                        have hfz98_0 := blk_frozen BK233.out 0
                        have hfz98_1 := blk_frozen BK233.out 1
                        have hfz98_2 := blk_frozen BK233.out 2
                        have hfz98_3 := blk_frozen BK233.out 3
                        have hfz98_4 := blk_frozen BK233.out 4
                        have hfz98_5 := blk_frozen BK233.out 5
                        have hfz98_6 := blk_frozen BK233.out 6
                        have hfz98_7 := blk_frozen BK233.out 7
                        have hnb99 := NB234_250.out
                        have hnc99 := NB250_234.out
                        have hcz100_0 : wc.cell? ⟨gb234, 0, none⟩ = some (.int .i64 a3_0) := (blk_cell BK234.out 0).trans rfl
                        have hcz100_1 : wc.cell? ⟨gb234, 1, none⟩ = some (.int .i64 a3_1) := (blk_cell BK234.out 1).trans rfl
                        have hcz100_2 : wc.cell? ⟨gb234, 2, none⟩ = some (.int .i64 a3_2) := (blk_cell BK234.out 2).trans rfl
                        have hcz100_3 : wc.cell? ⟨gb234, 3, none⟩ = some (.int .i64 a3_3) := (blk_cell BK234.out 3).trans rfl
                        have hfz100_0 := blk_frozen BK234.out 0
                        have hfz100_1 := blk_frozen BK234.out 1
                        have hfz100_2 := blk_frozen BK234.out 2
                        have hfz100_3 := blk_frozen BK234.out 3
                        go_wp2_with (first | (go_at_call 19; (with_reducible refine (preset_Index.calls kj37 a0_0 a0_1 a0_2 a0_3 _ _ l0_4 _ _ l0_5 a0_6 a0_7 a1 a3_0 a3_1 a3_2 a3_3 t253 t254 _ ?side1 ?side2 ?side3 ?side4 A82.out).mono ?_); (case side1 => repeat (first | exact (Kd.C_below HR0_4.out HB.out) | (with_reducible refine Kd.C_alloc ?_ _) | (with_reducible refine Kd.C_drewN ?_ _) | (with_reducible refine Kd.C_drew ?_))); (case side2 => exact HC0_4.out); (case side3 => repeat (first | exact (Kd.C_below HR0_5.out HB.out) | (with_reducible refine Kd.C_alloc ?_ _) | (with_reducible refine Kd.C_drewN ?_ _) | (with_reducible refine Kd.C_drew ?_))); (case side4 => exact HC0_5.out); rintro e w101 ⟨rfl, hb⟩; have n0_ := Aside0.mk (Kd.R_below (by (with_reducible repeat (first | apply Kd.R_alloc | apply Kd.R_drewN | apply Kd.R_drew)); exact HO_11.out) hb); have n1_ := Aside0.mk (blk_below (g := gb233) (o := .cells #[.int .i64 a0_0, .bool a0_1, .int .i64 a0_2, .int .i64 a0_3, .slice A0_4 l0_4.length c0_4, .slice A0_5 l0_5.length c0_5, .int .i64 a0_6, .bool a0_7] 24 (0, 0)) (by (with_reducible repeat (first | refine blk_drewN ?_ _ | refine blk_drew ?_ | refine blk_alloc ?_ _)); exact BK233.out) hb); have n2_ := Aside0.mk (blk_below (g := gb234) (o := .cells #[.int .i64 a3_0, .int .i64 a3_1, .int .i64 a3_2, .int .i64 a3_3] 35 (0, 0)) (by (with_reducible repeat (first | refine blk_drewN ?_ _ | refine blk_drew ?_ | refine blk_alloc ?_ _)); exact BK234.out) hb); have n3_ := Aside0.mk (blk_below (g := gb250) (o := .cells #[.int .i64 t245, .int .i64 t246, .int .i64 t247, .int .i64 t248] 35 (0, 0)) (by (with_reducible repeat (first | refine blk_drewN ?_ _ | refine blk_drew ?_ | refine blk_alloc ?_ _)); exact BK250.out) hb); have n4_ := Aside0.mk (below_step (by repeat (first | (with_reducible first | exact HB.out | apply below_alloc | apply pw_below_drewN | apply below_drew1 | refine below_set ?_ GE233.out | refine below_set ?_ GE234.out | refine below_set ?_ GE250.out) | exact HB.out)) hb); clear HO_11; clear BK233; clear BK234; clear BK250; clear HB; have HO_11 := n0_; have BK233 := n1_; have BK234 := n2_; have BK250 := n3_; have HB := n4_; clear n0_ n1_ n2_ n3_ n4_; (try clear hb); (try clear hb2); (try clear hk); (try clear hi); have hcz102_0 : w101.cell? ⟨gb234, 0, none⟩ = some (.int .i64 a3_0) := (blk_cell BK234.out 0).trans rfl; have hcz102_1 : w101.cell? ⟨gb234, 1, none⟩ = some (.int .i64 a3_1) := (blk_cell BK234.out 1).trans rfl; have hcz102_2 : w101.cell? ⟨gb234, 2, none⟩ = some (.int .i64 a3_2) := (blk_cell BK234.out 2).trans rfl; have hcz102_3 : w101.cell? ⟨gb234, 3, none⟩ = some (.int .i64 a3_3) := (blk_cell BK234.out 3).trans rfl; have hfz102_0 := blk_frozen BK234.out 0; have hfz102_1 := blk_frozen BK234.out 1; have hfz102_2 := blk_frozen BK234.out 2; have hfz102_3 := blk_frozen BK234.out 3; obtain ⟨Ao103, co103, eo103⟩ := Kd.R_slice HO_11.out; subst eo103) | (go_at_call 20; (with_reducible refine (serinetteref19_At.calls kj37 _ _ t237 a3_0 a3_1 a3_2 a3_3 t255 _ ?side1 ?side2 A83.out).mono ?_); (case side1 => repeat (first | exact (Kd.R_reads' HO_11.out).2.2 | (with_reducible refine Kd.C_alloc ?_ _) | (with_reducible refine Kd.C_drewN ?_ _) | (with_reducible refine Kd.C_drew ?_))); (case side2 => exact (Kd.R_reads' HO_11.out).2.1); rintro e w104 ⟨rfl, hb⟩; have n0_ := Aside0.mk (Kd.R_below (by (with_reducible repeat (first | apply Kd.R_alloc | apply Kd.R_drewN | apply Kd.R_drew)); exact HO_11.out) hb); have n1_ := Aside0.mk (blk_below (g := gb233) (o := .cells #[.int .i64 a0_0, .bool a0_1, .int .i64 a0_2, .int .i64 a0_3, .slice A0_4 l0_4.length c0_4, .slice A0_5 l0_5.length c0_5, .int .i64 a0_6, .bool a0_7] 24 (0, 0)) (by (with_reducible repeat (first | refine blk_drewN ?_ _ | refine blk_drew ?_ | refine blk_alloc ?_ _)); exact BK233.out) hb); have n2_ := Aside0.mk (blk_below (g := gb234) (o := .cells #[.int .i64 a3_0, .int .i64 a3_1, .int .i64 a3_2, .int .i64 a3_3] 35 (0, 0)) (by (with_reducible repeat (first | refine blk_drewN ?_ _ | refine blk_drew ?_ | refine blk_alloc ?_ _)); exact BK234.out) hb); have n3_ := Aside0.mk (blk_below (g := gb250) (o := .cells #[.int .i64 t245, .int .i64 t246, .int .i64 t247, .int .i64 t248] 35 (0, 0)) (by (with_reducible repeat (first | refine blk_drewN ?_ _ | refine blk_drew ?_ | refine blk_alloc ?_ _)); exact BK250.out) hb); have n4_ := Aside0.mk (below_step (by repeat (first | (with_reducible first | exact HB.out | apply below_alloc | apply pw_below_drewN | apply below_drew1 | refine below_set ?_ GE233.out | refine below_set ?_ GE234.out | refine below_set ?_ GE250.out) | exact HB.out)) hb); clear HO_11; clear BK233; clear BK234; clear BK250; clear HB; have HO_11 := n0_; have BK233 := n1_; have BK234 := n2_; have BK250 := n3_; have HB := n4_; clear n0_ n1_ n2_ n3_ n4_; (try clear hb); (try clear hb2); (try clear hk); (try clear hi)))
                        repeat (go_quiet (first | (go_at_call 19; (with_reducible refine (preset_Index.calls kj37 a0_0 a0_1 a0_2 a0_3 _ _ l0_4 _ _ l0_5 a0_6 a0_7 a1 a3_0 a3_1 a3_2 a3_3 t253 t254 _ ?side1 ?side2 ?side3 ?side4 A82.out).mono ?_); (case side1 => repeat (first | exact (Kd.C_below HR0_4.out HB.out) | (with_reducible refine Kd.C_alloc ?_ _) | (with_reducible refine Kd.C_drewN ?_ _) | (with_reducible refine Kd.C_drew ?_))); (case side2 => exact HC0_4.out); (case side3 => repeat (first | exact (Kd.C_below HR0_5.out HB.out) | (with_reducible refine Kd.C_alloc ?_ _) | (with_reducible refine Kd.C_drewN ?_ _) | (with_reducible refine Kd.C_drew ?_))); (case side4 => exact HC0_5.out); rintro e w101 ⟨rfl, hb⟩; have n0_ := Aside0.mk (Kd.R_below (by (with_reducible repeat (first | apply Kd.R_alloc | apply Kd.R_drewN | apply Kd.R_drew)); exact HO_11.out) hb); have n1_ := Aside0.mk (blk_below (g := gb233) (o := .cells #[.int .i64 a0_0, .bool a0_1, .int .i64 a0_2, .int .i64 a0_3, .slice A0_4 l0_4.length c0_4, .slice A0_5 l0_5.length c0_5, .int .i64 a0_6, .bool a0_7] 24 (0, 0)) (by (with_reducible repeat (first | refine blk_drewN ?_ _ | refine blk_drew ?_ | refine blk_alloc ?_ _)); exact BK233.out) hb); have n2_ := Aside0.mk (blk_below (g := gb234) (o := .cells #[.int .i64 a3_0, .int .i64 a3_1, .int .i64 a3_2, .int .i64 a3_3] 35 (0, 0)) (by (with_reducible repeat (first | refine blk_drewN ?_ _ | refine blk_drew ?_ | refine blk_alloc ?_ _)); exact BK234.out) hb); have n3_ := Aside0.mk (blk_below (g := gb250) (o := .cells #[.int .i64 t245, .int .i64 t246, .int .i64 t247, .int .i64 t248] 35 (0, 0)) (by (with_reducible repeat (first | refine blk_drewN ?_ _ | refine blk_drew ?_ | refine blk_alloc ?_ _)); exact BK250.out) hb); have n4_ := Aside0.mk (below_step (by repeat (first | (with_reducible first | exact HB.out | apply below_alloc | apply pw_below_drewN | apply below_drew1 | refine below_set ?_ GE233.out | refine below_set ?_ GE234.out | refine below_set ?_ GE250.out) | exact HB.out)) hb); clear HO_11; clear BK233; clear BK234; clear BK250; clear HB; have HO_11 := n0_; have BK233 := n1_; have BK234 := n2_; have BK250 := n3_; have HB := n4_; clear n0_ n1_ n2_ n3_ n4_; (try clear hb); (try clear hb2); (try clear hk); (try clear hi); have hcz102_0 : w101.cell? ⟨gb234, 0, none⟩ = some (.int .i64 a3_0) := (blk_cell BK234.out 0).trans rfl; have hcz102_1 : w101.cell? ⟨gb234, 1, none⟩ = some (.int .i64 a3_1) := (blk_cell BK234.out 1).trans rfl; have hcz102_2 : w101.cell? ⟨gb234, 2, none⟩ = some (.int .i64 a3_2) := (blk_cell BK234.out 2).trans rfl; have hcz102_3 : w101.cell? ⟨gb234, 3, none⟩ = some (.int .i64 a3_3) := (blk_cell BK234.out 3).trans rfl; have hfz102_0 := blk_frozen BK234.out 0; have hfz102_1 := blk_frozen BK234.out 1; have hfz102_2 := blk_frozen BK234.out 2; have hfz102_3 := blk_frozen BK234.out 3; obtain ⟨Ao103, co103, eo103⟩ := Kd.R_slice HO_11.out; subst eo103) | (go_at_call 20; (with_reducible refine (serinetteref19_At.calls kj37 _ _ t237 a3_0 a3_1 a3_2 a3_3 t255 _ ?side1 ?side2 A83.out).mono ?_); (case side1 => repeat (first | exact (Kd.R_reads' HO_11.out).2.2 | (with_reducible refine Kd.C_alloc ?_ _) | (with_reducible refine Kd.C_drewN ?_ _) | (with_reducible refine Kd.C_drew ?_))); (case side2 => exact (Kd.R_reads' HO_11.out).2.1); rintro e w104 ⟨rfl, hb⟩; have n0_ := Aside0.mk (Kd.R_below (by (with_reducible repeat (first | apply Kd.R_alloc | apply Kd.R_drewN | apply Kd.R_drew)); exact HO_11.out) hb); have n1_ := Aside0.mk (blk_below (g := gb233) (o := .cells #[.int .i64 a0_0, .bool a0_1, .int .i64 a0_2, .int .i64 a0_3, .slice A0_4 l0_4.length c0_4, .slice A0_5 l0_5.length c0_5, .int .i64 a0_6, .bool a0_7] 24 (0, 0)) (by (with_reducible repeat (first | refine blk_drewN ?_ _ | refine blk_drew ?_ | refine blk_alloc ?_ _)); exact BK233.out) hb); have n2_ := Aside0.mk (blk_below (g := gb234) (o := .cells #[.int .i64 a3_0, .int .i64 a3_1, .int .i64 a3_2, .int .i64 a3_3] 35 (0, 0)) (by (with_reducible repeat (first | refine blk_drewN ?_ _ | refine blk_drew ?_ | refine blk_alloc ?_ _)); exact BK234.out) hb); have n3_ := Aside0.mk (blk_below (g := gb250) (o := .cells #[.int .i64 t245, .int .i64 t246, .int .i64 t247, .int .i64 t248] 35 (0, 0)) (by (with_reducible repeat (first | refine blk_drewN ?_ _ | refine blk_drew ?_ | refine blk_alloc ?_ _)); exact BK250.out) hb); have n4_ := Aside0.mk (below_step (by repeat (first | (with_reducible first | exact HB.out | apply below_alloc | apply pw_below_drewN | apply below_drew1 | refine below_set ?_ GE233.out | refine below_set ?_ GE234.out | refine below_set ?_ GE250.out) | exact HB.out)) hb); clear HO_11; clear BK233; clear BK234; clear BK250; clear HB; have HO_11 := n0_; have BK233 := n1_; have BK234 := n2_; have BK250 := n3_; have HB := n4_; clear n0_ n1_ n2_ n3_ n4_; (try clear hb); (try clear hb2); (try clear hk); (try clear hi))); try go_wp2_with (first | (go_at_call 19; (with_reducible refine (preset_Index.calls kj37 a0_0 a0_1 a0_2 a0_3 _ _ l0_4 _ _ l0_5 a0_6 a0_7 a1 a3_0 a3_1 a3_2 a3_3 t253 t254 _ ?side1 ?side2 ?side3 ?side4 A82.out).mono ?_); (case side1 => repeat (first | exact (Kd.C_below HR0_4.out HB.out) | (with_reducible refine Kd.C_alloc ?_ _) | (with_reducible refine Kd.C_drewN ?_ _) | (with_reducible refine Kd.C_drew ?_))); (case side2 => exact HC0_4.out); (case side3 => repeat (first | exact (Kd.C_below HR0_5.out HB.out) | (with_reducible refine Kd.C_alloc ?_ _) | (with_reducible refine Kd.C_drewN ?_ _) | (with_reducible refine Kd.C_drew ?_))); (case side4 => exact HC0_5.out); rintro e w101 ⟨rfl, hb⟩; have n0_ := Aside0.mk (Kd.R_below (by (with_reducible repeat (first | apply Kd.R_alloc | apply Kd.R_drewN | apply Kd.R_drew)); exact HO_11.out) hb); have n1_ := Aside0.mk (blk_below (g := gb233) (o := .cells #[.int .i64 a0_0, .bool a0_1, .int .i64 a0_2, .int .i64 a0_3, .slice A0_4 l0_4.length c0_4, .slice A0_5 l0_5.length c0_5, .int .i64 a0_6, .bool a0_7] 24 (0, 0)) (by (with_reducible repeat (first | refine blk_drewN ?_ _ | refine blk_drew ?_ | refine blk_alloc ?_ _)); exact BK233.out) hb); have n2_ := Aside0.mk (blk_below (g := gb234) (o := .cells #[.int .i64 a3_0, .int .i64 a3_1, .int .i64 a3_2, .int .i64 a3_3] 35 (0, 0)) (by (with_reducible repeat (first | refine blk_drewN ?_ _ | refine blk_drew ?_ | refine blk_alloc ?_ _)); exact BK234.out) hb); have n3_ := Aside0.mk (blk_below (g := gb250) (o := .cells #[.int .i64 t245, .int .i64 t246, .int .i64 t247, .int .i64 t248] 35 (0, 0)) (by (with_reducible repeat (first | refine blk_drewN ?_ _ | refine blk_drew ?_ | refine blk_alloc ?_ _)); exact BK250.out) hb); have n4_ := Aside0.mk (below_step (by repeat (first | (with_reducible first | exact HB.out | apply below_alloc | apply pw_below_drewN | apply below_drew1 | refine below_set ?_ GE233.out | refine below_set ?_ GE234.out | refine below_set ?_ GE250.out) | exact HB.out)) hb); clear HO_11; clear BK233; clear BK234; clear BK250; clear HB; have HO_11 := n0_; have BK233 := n1_; have BK234 := n2_; have BK250 := n3_; have HB := n4_; clear n0_ n1_ n2_ n3_ n4_; (try clear hb); (try clear hb2); (try clear hk); (try clear hi); have hcz102_0 : w101.cell? ⟨gb234, 0, none⟩ = some (.int .i64 a3_0) := (blk_cell BK234.out 0).trans rfl; have hcz102_1 : w101.cell? ⟨gb234, 1, none⟩ = some (.int .i64 a3_1) := (blk_cell BK234.out 1).trans rfl; have hcz102_2 : w101.cell? ⟨gb234, 2, none⟩ = some (.int .i64 a3_2) := (blk_cell BK234.out 2).trans rfl; have hcz102_3 : w101.cell? ⟨gb234, 3, none⟩ = some (.int .i64 a3_3) := (blk_cell BK234.out 3).trans rfl; have hfz102_0 := blk_frozen BK234.out 0; have hfz102_1 := blk_frozen BK234.out 1; have hfz102_2 := blk_frozen BK234.out 2; have hfz102_3 := blk_frozen BK234.out 3; obtain ⟨Ao103, co103, eo103⟩ := Kd.R_slice HO_11.out; subst eo103) | (go_at_call 20; (with_reducible refine (serinetteref19_At.calls kj37 _ _ t237 a3_0 a3_1 a3_2 a3_3 t255 _ ?side1 ?side2 A83.out).mono ?_); (case side1 => repeat (first | exact (Kd.R_reads' HO_11.out).2.2 | (with_reducible refine Kd.C_alloc ?_ _) | (with_reducible refine Kd.C_drewN ?_ _) | (with_reducible refine Kd.C_drew ?_))); (case side2 => exact (Kd.R_reads' HO_11.out).2.1); rintro e w104 ⟨rfl, hb⟩; have n0_ := Aside0.mk (Kd.R_below (by (with_reducible repeat (first | apply Kd.R_alloc | apply Kd.R_drewN | apply Kd.R_drew)); exact HO_11.out) hb); have n1_ := Aside0.mk (blk_below (g := gb233) (o := .cells #[.int .i64 a0_0, .bool a0_1, .int .i64 a0_2, .int .i64 a0_3, .slice A0_4 l0_4.length c0_4, .slice A0_5 l0_5.length c0_5, .int .i64 a0_6, .bool a0_7] 24 (0, 0)) (by (with_reducible repeat (first | refine blk_drewN ?_ _ | refine blk_drew ?_ | refine blk_alloc ?_ _)); exact BK233.out) hb); have n2_ := Aside0.mk (blk_below (g := gb234) (o := .cells #[.int .i64 a3_0, .int .i64 a3_1, .int .i64 a3_2, .int .i64 a3_3] 35 (0, 0)) (by (with_reducible repeat (first | refine blk_drewN ?_ _ | refine blk_drew ?_ | refine blk_alloc ?_ _)); exact BK234.out) hb); have n3_ := Aside0.mk (blk_below (g := gb250) (o := .cells #[.int .i64 t245, .int .i64 t246, .int .i64 t247, .int .i64 t248] 35 (0, 0)) (by (with_reducible repeat (first | refine blk_drewN ?_ _ | refine blk_drew ?_ | refine blk_alloc ?_ _)); exact BK250.out) hb); have n4_ := Aside0.mk (below_step (by repeat (first | (with_reducible first | exact HB.out | apply below_alloc | apply pw_below_drewN | apply below_drew1 | refine below_set ?_ GE233.out | refine below_set ?_ GE234.out | refine below_set ?_ GE250.out) | exact HB.out)) hb); clear HO_11; clear BK233; clear BK234; clear BK250; clear HB; have HO_11 := n0_; have BK233 := n1_; have BK234 := n2_; have BK250 := n3_; have HB := n4_; clear n0_ n1_ n2_ n3_ n4_; (try clear hb); (try clear hb2); (try clear hk); (try clear hi))))
                        go_ret
                        exact ⟨by first | rfl | (simp [errW_none, errW_some] <;> rfl) | (simp [*, errW_none, errW_some] <;> rfl), by repeat (first | (with_reducible first | exact HB.out | apply below_alloc | apply pw_below_drewN | apply below_drew1 | refine below_set ?_ GE233.out | refine below_set ?_ GE234.out | refine below_set ?_ GE250.out) | exact HB.out)⟩
                    · replace c84 := Bool.eq_false_iff.mpr c84
                      subst c84
                      have H1 : (some false) = some r := by rw [if_neg (show ¬ (false = true) by decide)] at H; exact H
                      clear H
                      have H := H1
                      clear H1
                      obtain rfl := Option.some.inj H
                      have hnb105 := NB233_234.out
                      have hnc105 := NB234_233.out
                      have hnb106 := NB233_250.out
                      have hnc106 := NB250_233.out
                      have hcz107_0 : wc.cell? ⟨gb233, 0, none⟩ = some (.int .i64 a0_0) := (blk_cell BK233.out 0).trans rfl
                      have hcz107_1 : wc.cell? ⟨gb233, 1, none⟩ = some (.bool a0_1) := (blk_cell BK233.out 1).trans rfl
                      have hcz107_2 : wc.cell? ⟨gb233, 2, none⟩ = some (.int .i64 a0_2) := (blk_cell BK233.out 2).trans rfl
                      have hcz107_3 : wc.cell? ⟨gb233, 3, none⟩ = some (.int .i64 a0_3) := (blk_cell BK233.out 3).trans rfl
                      have hcz107_4 : wc.cell? ⟨gb233, 4, none⟩ = some (.slice A0_4 l0_4.length c0_4) := (blk_cell BK233.out 4).trans rfl
                      have hcz107_5 : wc.cell? ⟨gb233, 5, none⟩ = some (.slice A0_5 l0_5.length c0_5) := (blk_cell BK233.out 5).trans rfl
                      have hcz107_6 : wc.cell? ⟨gb233, 6, none⟩ = some (.int .i64 a0_6) := (blk_cell BK233.out 6).trans rfl
                      have hcz107_7 : wc.cell? ⟨gb233, 7, none⟩ = some (.bool a0_7) := (blk_cell BK233.out 7).trans rfl
                      have hfz107_0 := blk_frozen BK233.out 0
                      have hfz107_1 := blk_frozen BK233.out 1
                      have hfz107_2 := blk_frozen BK233.out 2
                      have hfz107_3 := blk_frozen BK233.out 3
                      have hfz107_4 := blk_frozen BK233.out 4
                      have hfz107_5 := blk_frozen BK233.out 5
                      have hfz107_6 := blk_frozen BK233.out 6
                      have hfz107_7 := blk_frozen BK233.out 7
                      have hnb108 := NB234_250.out
                      have hnc108 := NB250_234.out
                      have hcz109_0 : wc.cell? ⟨gb234, 0, none⟩ = some (.int .i64 a3_0) := (blk_cell BK234.out 0).trans rfl
                      have hcz109_1 : wc.cell? ⟨gb234, 1, none⟩ = some (.int .i64 a3_1) := (blk_cell BK234.out 1).trans rfl
                      have hcz109_2 : wc.cell? ⟨gb234, 2, none⟩ = some (.int .i64 a3_2) := (blk_cell BK234.out 2).trans rfl
                      have hcz109_3 : wc.cell? ⟨gb234, 3, none⟩ = some (.int .i64 a3_3) := (blk_cell BK234.out 3).trans rfl
                      have hfz109_0 := blk_frozen BK234.out 0
                      have hfz109_1 := blk_frozen BK234.out 1
                      have hfz109_2 := blk_frozen BK234.out 2
                      have hfz109_3 := blk_frozen BK234.out 3
                      go_wp2_with (first | (go_at_call 19; (with_reducible refine (preset_Index.calls kj37 a0_0 a0_1 a0_2 a0_3 _ _ l0_4 _ _ l0_5 a0_6 a0_7 a1 a3_0 a3_1 a3_2 a3_3 t253 t254 _ ?side1 ?side2 ?side3 ?side4 A82.out).mono ?_); (case side1 => repeat (first | exact (Kd.C_below HR0_4.out HB.out) | (with_reducible refine Kd.C_alloc ?_ _) | (with_reducible refine Kd.C_drewN ?_ _) | (with_reducible refine Kd.C_drew ?_))); (case side2 => exact HC0_4.out); (case side3 => repeat (first | exact (Kd.C_below HR0_5.out HB.out) | (with_reducible refine Kd.C_alloc ?_ _) | (with_reducible refine Kd.C_drewN ?_ _) | (with_reducible refine Kd.C_drew ?_))); (case side4 => exact HC0_5.out); rintro e w110 ⟨rfl, hb⟩; have n0_ := Aside0.mk (Kd.R_below (by (with_reducible repeat (first | apply Kd.R_alloc | apply Kd.R_drewN | apply Kd.R_drew)); exact HO_11.out) hb); have n1_ := Aside0.mk (blk_below (g := gb233) (o := .cells #[.int .i64 a0_0, .bool a0_1, .int .i64 a0_2, .int .i64 a0_3, .slice A0_4 l0_4.length c0_4, .slice A0_5 l0_5.length c0_5, .int .i64 a0_6, .bool a0_7] 24 (0, 0)) (by (with_reducible repeat (first | refine blk_drewN ?_ _ | refine blk_drew ?_ | refine blk_alloc ?_ _)); exact BK233.out) hb); have n2_ := Aside0.mk (blk_below (g := gb234) (o := .cells #[.int .i64 a3_0, .int .i64 a3_1, .int .i64 a3_2, .int .i64 a3_3] 35 (0, 0)) (by (with_reducible repeat (first | refine blk_drewN ?_ _ | refine blk_drew ?_ | refine blk_alloc ?_ _)); exact BK234.out) hb); have n3_ := Aside0.mk (blk_below (g := gb250) (o := .cells #[.int .i64 t245, .int .i64 t246, .int .i64 t247, .int .i64 t248] 35 (0, 0)) (by (with_reducible repeat (first | refine blk_drewN ?_ _ | refine blk_drew ?_ | refine blk_alloc ?_ _)); exact BK250.out) hb); have n4_ := Aside0.mk (below_step (by repeat (first | (with_reducible first | exact HB.out | apply below_alloc | apply pw_below_drewN | apply below_drew1 | refine below_set ?_ GE233.out | refine below_set ?_ GE234.out | refine below_set ?_ GE250.out) | exact HB.out)) hb); clear HO_11; clear BK233; clear BK234; clear BK250; clear HB; have HO_11 := n0_; have BK233 := n1_; have BK234 := n2_; have BK250 := n3_; have HB := n4_; clear n0_ n1_ n2_ n3_ n4_; (try clear hb); (try clear hb2); (try clear hk); (try clear hi); have hcz111_0 : w110.cell? ⟨gb234, 0, none⟩ = some (.int .i64 a3_0) := (blk_cell BK234.out 0).trans rfl; have hcz111_1 : w110.cell? ⟨gb234, 1, none⟩ = some (.int .i64 a3_1) := (blk_cell BK234.out 1).trans rfl; have hcz111_2 : w110.cell? ⟨gb234, 2, none⟩ = some (.int .i64 a3_2) := (blk_cell BK234.out 2).trans rfl; have hcz111_3 : w110.cell? ⟨gb234, 3, none⟩ = some (.int .i64 a3_3) := (blk_cell BK234.out 3).trans rfl; have hfz111_0 := blk_frozen BK234.out 0; have hfz111_1 := blk_frozen BK234.out 1; have hfz111_2 := blk_frozen BK234.out 2; have hfz111_3 := blk_frozen BK234.out 3; obtain ⟨Ao112, co112, eo112⟩ := Kd.R_slice HO_11.out; subst eo112) | (go_at_call 20; (with_reducible refine (serinetteref19_At.calls kj37 _ _ t237 a3_0 a3_1 a3_2 a3_3 t255 _ ?side1 ?side2 A83.out).mono ?_); (case side1 => repeat (first | exact (Kd.R_reads' HO_11.out).2.2 | (with_reducible refine Kd.C_alloc ?_ _) | (with_reducible refine Kd.C_drewN ?_ _) | (with_reducible refine Kd.C_drew ?_))); (case side2 => exact (Kd.R_reads' HO_11.out).2.1); rintro e w113 ⟨rfl, hb⟩; have n0_ := Aside0.mk (Kd.R_below (by (with_reducible repeat (first | apply Kd.R_alloc | apply Kd.R_drewN | apply Kd.R_drew)); exact HO_11.out) hb); have n1_ := Aside0.mk (blk_below (g := gb233) (o := .cells #[.int .i64 a0_0, .bool a0_1, .int .i64 a0_2, .int .i64 a0_3, .slice A0_4 l0_4.length c0_4, .slice A0_5 l0_5.length c0_5, .int .i64 a0_6, .bool a0_7] 24 (0, 0)) (by (with_reducible repeat (first | refine blk_drewN ?_ _ | refine blk_drew ?_ | refine blk_alloc ?_ _)); exact BK233.out) hb); have n2_ := Aside0.mk (blk_below (g := gb234) (o := .cells #[.int .i64 a3_0, .int .i64 a3_1, .int .i64 a3_2, .int .i64 a3_3] 35 (0, 0)) (by (with_reducible repeat (first | refine blk_drewN ?_ _ | refine blk_drew ?_ | refine blk_alloc ?_ _)); exact BK234.out) hb); have n3_ := Aside0.mk (blk_below (g := gb250) (o := .cells #[.int .i64 t245, .int .i64 t246, .int .i64 t247, .int .i64 t248] 35 (0, 0)) (by (with_reducible repeat (first | refine blk_drewN ?_ _ | refine blk_drew ?_ | refine blk_alloc ?_ _)); exact BK250.out) hb); have n4_ := Aside0.mk (below_step (by repeat (first | (with_reducible first | exact HB.out | apply below_alloc | apply pw_below_drewN | apply below_drew1 | refine below_set ?_ GE233.out | refine below_set ?_ GE234.out | refine below_set ?_ GE250.out) | exact HB.out)) hb); clear HO_11; clear BK233; clear BK234; clear BK250; clear HB; have HO_11 := n0_; have BK233 := n1_; have BK234 := n2_; have BK250 := n3_; have HB := n4_; clear n0_ n1_ n2_ n3_ n4_; (try clear hb); (try clear hb2); (try clear hk); (try clear hi)))
                      repeat (go_quiet (first | (go_at_call 19; (with_reducible refine (preset_Index.calls kj37 a0_0 a0_1 a0_2 a0_3 _ _ l0_4 _ _ l0_5 a0_6 a0_7 a1 a3_0 a3_1 a3_2 a3_3 t253 t254 _ ?side1 ?side2 ?side3 ?side4 A82.out).mono ?_); (case side1 => repeat (first | exact (Kd.C_below HR0_4.out HB.out) | (with_reducible refine Kd.C_alloc ?_ _) | (with_reducible refine Kd.C_drewN ?_ _) | (with_reducible refine Kd.C_drew ?_))); (case side2 => exact HC0_4.out); (case side3 => repeat (first | exact (Kd.C_below HR0_5.out HB.out) | (with_reducible refine Kd.C_alloc ?_ _) | (with_reducible refine Kd.C_drewN ?_ _) | (with_reducible refine Kd.C_drew ?_))); (case side4 => exact HC0_5.out); rintro e w110 ⟨rfl, hb⟩; have n0_ := Aside0.mk (Kd.R_below (by (with_reducible repeat (first | apply Kd.R_alloc | apply Kd.R_drewN | apply Kd.R_drew)); exact HO_11.out) hb); have n1_ := Aside0.mk (blk_below (g := gb233) (o := .cells #[.int .i64 a0_0, .bool a0_1, .int .i64 a0_2, .int .i64 a0_3, .slice A0_4 l0_4.length c0_4, .slice A0_5 l0_5.length c0_5, .int .i64 a0_6, .bool a0_7] 24 (0, 0)) (by (with_reducible repeat (first | refine blk_drewN ?_ _ | refine blk_drew ?_ | refine blk_alloc ?_ _)); exact BK233.out) hb); have n2_ := Aside0.mk (blk_below (g := gb234) (o := .cells #[.int .i64 a3_0, .int .i64 a3_1, .int .i64 a3_2, .int .i64 a3_3] 35 (0, 0)) (by (with_reducible repeat (first | refine blk_drewN ?_ _ | refine blk_drew ?_ | refine blk_alloc ?_ _)); exact BK234.out) hb); have n3_ := Aside0.mk (blk_below (g := gb250) (o := .cells #[.int .i64 t245, .int .i64 t246, .int .i64 t247, .int .i64 t248] 35 (0, 0)) (by (with_reducible repeat (first | refine blk_drewN ?_ _ | refine blk_drew ?_ | refine blk_alloc ?_ _)); exact BK250.out) hb); have n4_ := Aside0.mk (below_step (by repeat (first | (with_reducible first | exact HB.out | apply below_alloc | apply pw_below_drewN | apply below_drew1 | refine below_set ?_ GE233.out | refine below_set ?_ GE234.out | refine below_set ?_ GE250.out) | exact HB.out)) hb); clear HO_11; clear BK233; clear BK234; clear BK250; clear HB; have HO_11 := n0_; have BK233 := n1_; have BK234 := n2_; have BK250 := n3_; have HB := n4_; clear n0_ n1_ n2_ n3_ n4_; (try clear hb); (try clear hb2); (try clear hk); (try clear hi); have hcz111_0 : w110.cell? ⟨gb234, 0, none⟩ = some (.int .i64 a3_0) := (blk_cell BK234.out 0).trans rfl; have hcz111_1 : w110.cell? ⟨gb234, 1, none⟩ = some (.int .i64 a3_1) := (blk_cell BK234.out 1).trans rfl; have hcz111_2 : w110.cell? ⟨gb234, 2, none⟩ = some (.int .i64 a3_2) := (blk_cell BK234.out 2).trans rfl; have hcz111_3 : w110.cell? ⟨gb234, 3, none⟩ = some (.int .i64 a3_3) := (blk_cell BK234.out 3).trans rfl; have hfz111_0 := blk_frozen BK234.out 0; have hfz111_1 := blk_frozen BK234.out 1; have hfz111_2 := blk_frozen BK234.out 2; have hfz111_3 := blk_frozen BK234.out 3; obtain ⟨Ao112, co112, eo112⟩ := Kd.R_slice HO_11.out; subst eo112) | (go_at_call 20; (with_reducible refine (serinetteref19_At.calls kj37 _ _ t237 a3_0 a3_1 a3_2 a3_3 t255 _ ?side1 ?side2 A83.out).mono ?_); (case side1 => repeat (first | exact (Kd.R_reads' HO_11.out).2.2 | (with_reducible refine Kd.C_alloc ?_ _) | (with_reducible refine Kd.C_drewN ?_ _) | (with_reducible refine Kd.C_drew ?_))); (case side2 => exact (Kd.R_reads' HO_11.out).2.1); rintro e w113 ⟨rfl, hb⟩; have n0_ := Aside0.mk (Kd.R_below (by (with_reducible repeat (first | apply Kd.R_alloc | apply Kd.R_drewN | apply Kd.R_drew)); exact HO_11.out) hb); have n1_ := Aside0.mk (blk_below (g := gb233) (o := .cells #[.int .i64 a0_0, .bool a0_1, .int .i64 a0_2, .int .i64 a0_3, .slice A0_4 l0_4.length c0_4, .slice A0_5 l0_5.length c0_5, .int .i64 a0_6, .bool a0_7] 24 (0, 0)) (by (with_reducible repeat (first | refine blk_drewN ?_ _ | refine blk_drew ?_ | refine blk_alloc ?_ _)); exact BK233.out) hb); have n2_ := Aside0.mk (blk_below (g := gb234) (o := .cells #[.int .i64 a3_0, .int .i64 a3_1, .int .i64 a3_2, .int .i64 a3_3] 35 (0, 0)) (by (with_reducible repeat (first | refine blk_drewN ?_ _ | refine blk_drew ?_ | refine blk_alloc ?_ _)); exact BK234.out) hb); have n3_ := Aside0.mk (blk_below (g := gb250) (o := .cells #[.int .i64 t245, .int .i64 t246, .int .i64 t247, .int .i64 t248] 35 (0, 0)) (by (with_reducible repeat (first | refine blk_drewN ?_ _ | refine blk_drew ?_ | refine blk_alloc ?_ _)); exact BK250.out) hb); have n4_ := Aside0.mk (below_step (by repeat (first | (with_reducible first | exact HB.out | apply below_alloc | apply pw_below_drewN | apply below_drew1 | refine below_set ?_ GE233.out | refine below_set ?_ GE234.out | refine below_set ?_ GE250.out) | exact HB.out)) hb); clear HO_11; clear BK233; clear BK234; clear BK250; clear HB; have HO_11 := n0_; have BK233 := n1_; have BK234 := n2_; have BK250 := n3_; have HB := n4_; clear n0_ n1_ n2_ n3_ n4_; (try clear hb); (try clear hb2); (try clear hk); (try clear hi))); try go_wp2_with (first | (go_at_call 19; (with_reducible refine (preset_Index.calls kj37 a0_0 a0_1 a0_2 a0_3 _ _ l0_4 _ _ l0_5 a0_6 a0_7 a1 a3_0 a3_1 a3_2 a3_3 t253 t254 _ ?side1 ?side2 ?side3 ?side4 A82.out).mono ?_); (case side1 => repeat (first | exact (Kd.C_below HR0_4.out HB.out) | (with_reducible refine Kd.C_alloc ?_ _) | (with_reducible refine Kd.C_drewN ?_ _) | (with_reducible refine Kd.C_drew ?_))); (case side2 => exact HC0_4.out); (case side3 => repeat (first | exact (Kd.C_below HR0_5.out HB.out) | (with_reducible refine Kd.C_alloc ?_ _) | (with_reducible refine Kd.C_drewN ?_ _) | (with_reducible refine Kd.C_drew ?_))); (case side4 => exact HC0_5.out); rintro e w110 ⟨rfl, hb⟩; have n0_ := Aside0.mk (Kd.R_below (by (with_reducible repeat (first | apply Kd.R_alloc | apply Kd.R_drewN | apply Kd.R_drew)); exact HO_11.out) hb); have n1_ := Aside0.mk (blk_below (g := gb233) (o := .cells #[.int .i64 a0_0, .bool a0_1, .int .i64 a0_2, .int .i64 a0_3, .slice A0_4 l0_4.length c0_4, .slice A0_5 l0_5.length c0_5, .int .i64 a0_6, .bool a0_7] 24 (0, 0)) (by (with_reducible repeat (first | refine blk_drewN ?_ _ | refine blk_drew ?_ | refine blk_alloc ?_ _)); exact BK233.out) hb); have n2_ := Aside0.mk (blk_below (g := gb234) (o := .cells #[.int .i64 a3_0, .int .i64 a3_1, .int .i64 a3_2, .int .i64 a3_3] 35 (0, 0)) (by (with_reducible repeat (first | refine blk_drewN ?_ _ | refine blk_drew ?_ | refine blk_alloc ?_ _)); exact BK234.out) hb); have n3_ := Aside0.mk (blk_below (g := gb250) (o := .cells #[.int .i64 t245, .int .i64 t246, .int .i64 t247, .int .i64 t248] 35 (0, 0)) (by (with_reducible repeat (first | refine blk_drewN ?_ _ | refine blk_drew ?_ | refine blk_alloc ?_ _)); exact BK250.out) hb); have n4_ := Aside0.mk (below_step (by repeat (first | (with_reducible first | exact HB.out | apply below_alloc | apply pw_below_drewN | apply below_drew1 | refine below_set ?_ GE233.out | refine below_set ?_ GE234.out | refine below_set ?_ GE250.out) | exact HB.out)) hb); clear HO_11; clear BK233; clear BK234; clear BK250; clear HB; have HO_11 := n0_; have BK233 := n1_; have BK234 := n2_; have BK250 := n3_; have HB := n4_; clear n0_ n1_ n2_ n3_ n4_; (try clear hb); (try clear hb2); (try clear hk); (try clear hi); have hcz111_0 : w110.cell? ⟨gb234, 0, none⟩ = some (.int .i64 a3_0) := (blk_cell BK234.out 0).trans rfl; have hcz111_1 : w110.cell? ⟨gb234, 1, none⟩ = some (.int .i64 a3_1) := (blk_cell BK234.out 1).trans rfl; have hcz111_2 : w110.cell? ⟨gb234, 2, none⟩ = some (.int .i64 a3_2) := (blk_cell BK234.out 2).trans rfl; have hcz111_3 : w110.cell? ⟨gb234, 3, none⟩ = some (.int .i64 a3_3) := (blk_cell BK234.out 3).trans rfl; have hfz111_0 := blk_frozen BK234.out 0; have hfz111_1 := blk_frozen BK234.out 1; have hfz111_2 := blk_frozen BK234.out 2; have hfz111_3 := blk_frozen BK234.out 3; obtain ⟨Ao112, co112, eo112⟩ := Kd.R_slice HO_11.out; subst eo112) | (go_at_call 20; (with_reducible refine (serinetteref19_At.calls kj37 _ _ t237 a3_0 a3_1 a3_2 a3_3 t255 _ ?side1 ?side2 A83.out).mono ?_); (case side1 => repeat (first | exact (Kd.R_reads' HO_11.out).2.2 | (with_reducible refine Kd.C_alloc ?_ _) | (with_reducible refine Kd.C_drewN ?_ _) | (with_reducible refine Kd.C_drew ?_))); (case side2 => exact (Kd.R_reads' HO_11.out).2.1); rintro e w113 ⟨rfl, hb⟩; have n0_ := Aside0.mk (Kd.R_below (by (with_reducible repeat (first | apply Kd.R_alloc | apply Kd.R_drewN | apply Kd.R_drew)); exact HO_11.out) hb); have n1_ := Aside0.mk (blk_below (g := gb233) (o := .cells #[.int .i64 a0_0, .bool a0_1, .int .i64 a0_2, .int .i64 a0_3, .slice A0_4 l0_4.length c0_4, .slice A0_5 l0_5.length c0_5, .int .i64 a0_6, .bool a0_7] 24 (0, 0)) (by (with_reducible repeat (first | refine blk_drewN ?_ _ | refine blk_drew ?_ | refine blk_alloc ?_ _)); exact BK233.out) hb); have n2_ := Aside0.mk (blk_below (g := gb234) (o := .cells #[.int .i64 a3_0, .int .i64 a3_1, .int .i64 a3_2, .int .i64 a3_3] 35 (0, 0)) (by (with_reducible repeat (first | refine blk_drewN ?_ _ | refine blk_drew ?_ | refine blk_alloc ?_ _)); exact BK234.out) hb); have n3_ := Aside0.mk (blk_below (g := gb250) (o := .cells #[.int .i64 t245, .int .i64 t246, .int .i64 t247, .int .i64 t248] 35 (0, 0)) (by (with_reducible repeat (first | refine blk_drewN ?_ _ | refine blk_drew ?_ | refine blk_alloc ?_ _)); exact BK250.out) hb); have n4_ := Aside0.mk (below_step (by repeat (first | (with_reducible first | exact HB.out | apply below_alloc | apply pw_below_drewN | apply below_drew1 | refine below_set ?_ GE233.out | refine below_set ?_ GE234.out | refine below_set ?_ GE250.out) | exact HB.out)) hb); clear HO_11; clear BK233; clear BK234; clear BK250; clear HB; have HO_11 := n0_; have BK233 := n1_; have BK234 := n2_; have BK250 := n3_; have HB := n4_; clear n0_ n1_ n2_ n3_ n4_; (try clear hb); (try clear hb2); (try clear hk); (try clear hi))))
                      go_ret
                      exact ⟨by first | rfl | (simp [errW_none, errW_some] <;> rfl) | (simp [*, errW_none, errW_some] <;> rfl), by repeat (first | (with_reducible first | exact HB.out | apply below_alloc | apply pw_below_drewN | apply below_drew1 | refine below_set ?_ GE233.out | refine below_set ?_ GE234.out | refine below_set ?_ GE250.out) | exact HB.out)⟩

/-- The one pure statement (lawrow.py). -/
def serinettelaw19_PresetChoices.Pure : Prop := ∀ (a0_0 : Int) (a0_1 : Bool) (a0_2 : Int) (a0_3 : Int) (l0_4 : List Int) (l0_5 : List Int) (a0_6 : Int) (a0_7 : Bool) (a1 : Int) (a2 : Int) (a3_0 : Int) (a3_1 : Int) (a3_2 : Int) (a3_3 : Int), (Lit.int .i64 a0_0).wf = true → (Lit.int .i64 a0_2).wf = true → (Lit.int .i64 a0_3).wf = true → l0_4.length ≤ maxLen → (∀ x ∈ l0_4, (Lit.int .i64 x).wf = true) → l0_5.length ≤ maxLen → (∀ x ∈ l0_5, (Lit.int .i64 x).wf = true) → (Lit.int .i64 a0_6).wf = true → (Lit.int .i64 a1).wf = true → (Lit.int .i64 a2).wf = true → (Lit.int .i64 a3_0).wf = true → (Lit.int .i64 a3_1).wf = true → (Lit.int .i64 a3_2).wf = true → (Lit.int .i64 a3_3).wf = true → ∃ k, serinettelaw19_PresetChoices.f k a0_0 a0_1 a0_2 a0_3 l0_4 l0_5 a0_6 a0_7 a1 a2 a3_0 a3_1 a3_2 a3_3 = some true
theorem serinettelaw19_PresetChoices.walk (P : serinettelaw19_PresetChoices.Pure) (a0_0 : Int) (a0_1 : Bool) (a0_2 : Int) (a0_3 : Int) (l0_4 : List Int) (l0_5 : List Int) (a0_6 : Int) (a0_7 : Bool) (a1 : Int) (a2 : Int) (a3_0 : Int) (a3_1 : Int) (a3_2 : Int) (a3_3 : Int) (w : World) (wa0_0 : (Lit.int .i64 a0_0).wf = true) (wa0_2 : (Lit.int .i64 a0_2).wf = true) (wa0_3 : (Lit.int .i64 a0_3).wf = true) (A0_4 : Option Addr) (c0_4 : Nat) (hr0_4 : Kd.C (Kd.int .i64) w A0_4 l0_4.length l0_4) (hc0_4 : l0_4.length ≤ c0_4) (hm0_4 : l0_4.length ≤ maxLen) (hw0_4 : ∀ x ∈ l0_4, (Lit.int .i64 x).wf = true) (A0_5 : Option Addr) (c0_5 : Nat) (hr0_5 : Kd.C (Kd.int .i64) w A0_5 l0_5.length l0_5) (hc0_5 : l0_5.length ≤ c0_5) (hm0_5 : l0_5.length ≤ maxLen) (hw0_5 : ∀ x ∈ l0_5, (Lit.int .i64 x).wf = true) (wa0_6 : (Lit.int .i64 a0_6).wf = true) (wa1 : (Lit.int .i64 a1).wf = true) (wa2 : (Lit.int .i64 a2).wf = true) (wa3_0 : (Lit.int .i64 a3_0).wf = true) (wa3_1 : (Lit.int .i64 a3_1).wf = true) (wa3_2 : (Lit.int .i64 a3_2).wf = true) (wa3_3 : (Lit.int .i64 a3_3).wf = true) (hrG0 : Kd.C k48 w (some ⟨0, 0, none⟩) TAB0.length TAB0) :
    Calls Tryd.prog 5 #[.agg #[.int .i64 a0_0, .bool a0_1, .int .i64 a0_2, .int .i64 a0_3, .slice A0_4 l0_4.length c0_4, .slice A0_5 l0_5.length c0_5, .int .i64 a0_6, .bool a0_7], .int .i64 a1, .int .i64 a2, .agg #[.int .i64 a3_0, .int .i64 a3_1, .int .i64 a3_2, .int .i64 a3_3]] w fun e w' => e = .returned (.bool true) ∧ Below w.heap.size w w' := by
  obtain ⟨k, h⟩ := P a0_0 a0_1 a0_2 a0_3 l0_4 l0_5 a0_6 a0_7 a1 a2 a3_0 a3_1 a3_2 a3_3 wa0_0 wa0_2 wa0_3 hm0_4 hw0_4 hm0_5 hw0_5 wa0_6 wa1 wa2 wa3_0 wa3_1 wa3_2 wa3_3
  refine (serinettelaw19_PresetChoices.calls k a0_0 a0_1 a0_2 a0_3 A0_4 c0_4 l0_4 A0_5 c0_5 l0_5 a0_6 a0_7 a1 a2 a3_0 a3_1 a3_2 a3_3 true w hr0_4 hc0_4 hr0_5 hc0_5 hrG0 h).mono ?_
  rintro e w' ⟨rfl, hd⟩
  exact ⟨rfl, hd⟩

end Go.Proofs.YtgdgncdnhpflcaaDoor.PPresetChoices
