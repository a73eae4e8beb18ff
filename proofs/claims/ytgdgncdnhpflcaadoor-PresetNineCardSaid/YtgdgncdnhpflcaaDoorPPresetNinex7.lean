-- written by this session's program wip/reprint.sh (a turned copy of the kit's print): the session's own text
import Derived.Test.YtgdgncdnhpflcaaDoorPPresetNinex0
import Derived.Test.YtgdgncdnhpflcaaDoorPPresetNinex2
import Derived.Test.YtgdgncdnhpflcaaDoorPPresetNinex3
import Derived.Test.YtgdgncdnhpflcaaDoorPPresetNinex5
import Derived.Test.YtgdgncdnhpflcaaDoorPPresetNinex6
namespace Go.Proofs.YtgdgncdnhpflcaaDoor.PPresetNine
open Go.RowKit Go.Proofs.YtgdgncdnhpflcaaDoorW.PrintWords Go.Proofs.YtgdgncdnhpflcaaDoorW.PrintLast Go.Proofs.YtgdgncdnhpflcaaDoorW.PrintMore
attribute [local go_sem] max2_int min2_int max_two min_two max_three min_three max_four min_four   -- for this text's walks alone
set_option linter.unusedVariables false
set_option linter.unusedSimpArgs false

/-! ### serinettelaw19_PresetNine: function 7 -/
mutual
def serinettelaw19_PresetNine.j0 : Nat → Int → Bool → Int → Bool → Int → Bool → Int → Int → List Int → List Int → Int → Bool → Int → Bool → Int → Int → List Int → List Int → Int → Bool → Option (Bool)
  | 0, _, _, _, _, _, _, _, _, _, _, _, _, _, _, _, _, _, _, _, _ => none
  | k + 1, x0, x5, x10, x49, x235000, x235001, x235002, x235003, x235004, x235005, x235006, x235007, x249000, x249001, x249002, x249003, x249004, x249005, x249006, x249007 => if x49 = true then (some false) else ((preset_All.f k x235000 x235001 x235002 x235003 x235004 x235005 x235006 x235007 x10).bind fun t251 => (serinettelaw19_PresetNine.l0 k x0 x5 x10 t251 0 x249000 x249001 x249002 x249003 x249004 x249005 x249006 x249007))
def serinettelaw19_PresetNine.l0 : Nat → Int → Bool → Int → List (S35) → Int → Int → Bool → Int → Int → List Int → List Int → Int → Bool → Option (Bool)
  | 0, _, _, _, _, _, _, _, _, _, _, _, _, _ => none
  | k + 1, x0, x5, x10, x11, x12, x249000, x249001, x249002, x249003, x249004, x249005, x249006, x249007 => if x12 < (x11.length : Int) then (if 0 ≤ x12 then ((preset_Index.f k x249000 x249001 x249002 x249003 x249004 x249005 x249006 x249007 x10 ((rd_T35 x11 x12).f0) ((rd_T35 x11 x12).f1) ((rd_T35 x11 x12).f2) ((rd_T35 x11 x12).f3)).bind fun bt255 => (if bt255.2 = true then (serinettelaw19_PresetNine.l0 k x0 x5 x10 x11 (wrap64 (x12 + 1)) x249000 x249001 x249002 x249003 x249004 x249005 x249006 x249007) else (some false))) else (none)) else ((preset_Preset.f k (wrap64 (9 + (wrap64 (x0))))).bind fun bt257 => (if x5 = true then (some (bt257.2.2.2.2.2.2.2.2 == 1)) else (some false)))
end
def serinettelaw19_PresetNine.f (k : Nat) (a0 : Int) (a1 : Int) : Option (Bool) := (serinettelaw19_awake.f k).bind fun t220 => ((preset_Preset.f k (wrap64 (Int.tmod a0 9))).bind fun bt221 => ((preset_Preset.f k 8).bind fun bt235 => (if bt221.2.2.2.2.2.2.2.2 = 0 then (if bt235.2.2.2.2.2.2.2.2 = 0 then ((preset_Check.f k bt221.1 bt221.2.1 bt221.2.2.1 bt221.2.2.2.1 bt221.2.2.2.2.1 bt221.2.2.2.2.2.1 bt221.2.2.2.2.2.2.1 bt221.2.2.2.2.2.2.2.1).bind fun t249 => (if t249 = 0 then ((preset_Count.f bt221.1 bt221.2.1 bt221.2.2.1 bt221.2.2.2.1 bt221.2.2.2.2.1 bt221.2.2.2.2.2.1 bt221.2.2.2.2.2.2.1 bt221.2.2.2.2.2.2.2.1 (wrap64 (1 + (wrap64 (Int.tmod a1 60))))).bind fun t250 => (serinettelaw19_PresetNine.j0 k a0 t220 (wrap64 (1 + (wrap64 (Int.tmod a1 60)))) (decide (t250 < 3)) bt221.1 bt221.2.1 bt221.2.2.1 bt221.2.2.2.1 bt221.2.2.2.2.1 bt221.2.2.2.2.2.1 bt221.2.2.2.2.2.2.1 bt221.2.2.2.2.2.2.2.1 bt235.1 bt235.2.1 bt235.2.2.1 bt235.2.2.2.1 bt235.2.2.2.2.1 bt235.2.2.2.2.2.1 bt235.2.2.2.2.2.2.1 bt235.2.2.2.2.2.2.2.1)) else (serinettelaw19_PresetNine.j0 k a0 t220 (wrap64 (1 + (wrap64 (Int.tmod a1 60)))) true bt221.1 bt221.2.1 bt221.2.2.1 bt221.2.2.2.1 bt221.2.2.2.2.1 bt221.2.2.2.2.2.1 bt221.2.2.2.2.2.2.1 bt221.2.2.2.2.2.2.2.1 bt235.1 bt235.2.1 bt235.2.2.1 bt235.2.2.2.1 bt235.2.2.2.2.1 bt235.2.2.2.2.2.1 bt235.2.2.2.2.2.2.1 bt235.2.2.2.2.2.2.2.1))) else (serinettelaw19_PresetNine.j0 k a0 t220 (wrap64 (1 + (wrap64 (Int.tmod a1 60)))) true bt221.1 bt221.2.1 bt221.2.2.1 bt221.2.2.2.1 bt221.2.2.2.2.1 bt221.2.2.2.2.2.1 bt221.2.2.2.2.2.2.1 bt221.2.2.2.2.2.2.2.1 bt235.1 bt235.2.1 bt235.2.2.1 bt235.2.2.2.1 bt235.2.2.2.2.1 bt235.2.2.2.2.2.1 bt235.2.2.2.2.2.2.1 bt235.2.2.2.2.2.2.2.1)) else (serinettelaw19_PresetNine.j0 k a0 t220 (wrap64 (1 + (wrap64 (Int.tmod a1 60)))) true bt221.1 bt221.2.1 bt221.2.2.1 bt221.2.2.2.1 bt221.2.2.2.2.1 bt221.2.2.2.2.2.1 bt221.2.2.2.2.2.2.1 bt221.2.2.2.2.2.2.2.1 bt235.1 bt235.2.1 bt235.2.2.1 bt235.2.2.2.1 bt235.2.2.2.2.1 bt235.2.2.2.2.2.1 bt235.2.2.2.2.2.2.1 bt235.2.2.2.2.2.2.2.1))))
theorem serinettelaw19_PresetNine.mono_l : ∀ k, (∀ y0 y1 y2 y3 y4 y5 y6 y7 y8 y9 y10 y11 y12 y13 y14 y15 y16 y17 y18 y19, LeO (serinettelaw19_PresetNine.j0 k y0 y1 y2 y3 y4 y5 y6 y7 y8 y9 y10 y11 y12 y13 y14 y15 y16 y17 y18 y19) (serinettelaw19_PresetNine.j0 (k + 1) y0 y1 y2 y3 y4 y5 y6 y7 y8 y9 y10 y11 y12 y13 y14 y15 y16 y17 y18 y19)) ∧ (∀ y0 y1 y2 y3 y4 y5 y6 y7 y8 y9 y10 y11 y12, LeO (serinettelaw19_PresetNine.l0 k y0 y1 y2 y3 y4 y5 y6 y7 y8 y9 y10 y11 y12) (serinettelaw19_PresetNine.l0 (k + 1) y0 y1 y2 y3 y4 y5 y6 y7 y8 y9 y10 y11 y12))
  | 0 => ⟨fun _ _ _ _ _ _ _ _ _ _ _ _ _ _ _ _ _ _ _ _ r h => by simp [serinettelaw19_PresetNine.j0] at h, fun _ _ _ _ _ _ _ _ _ _ _ _ _ r h => by simp [serinettelaw19_PresetNine.l0] at h⟩
  | k + 1 => by
    obtain ⟨ih0, ih1⟩ := serinettelaw19_PresetNine.mono_l k
    refine ⟨?_, ?_⟩
    · intro y0 y1 y2 y3 y4 y5 y6 y7 y8 y9 y10 y11 y12 y13 y14 y15 y16 y17 y18 y19
      unfold serinettelaw19_PresetNine.j0
      repeat' first
      | (with_reducible exact ih0 _ _ _ _ _ _ _ _ _ _ _ _ _ _ _ _ _ _ _ _)
      | (with_reducible exact ih1 _ _ _ _ _ _ _ _ _ _ _ _ _)
      | (with_reducible exact preset_All.mono _ _ _ _ _ _ _ _ _ _)
      | (with_reducible exact preset_Check.mono _ _ _ _ _ _ _ _ _)
      | (with_reducible exact preset_Index.mono _ _ _ _ _ _ _ _ _ _ _ _ _ _)
      | (with_reducible exact preset_Preset.mono _ _)
      | (with_reducible exact serinettelaw19_awake.mono _)
      | (with_reducible exact LeO.refl _)
      | (with_reducible exact LeO.none _)
      | (with_reducible refine LeO.ite ?_ ?_)
      | (with_reducible refine LeO.bind ?_ (fun _ => ?_))
      | exact ih0 _ _ _ _ _ _ _ _ _ _ _ _ _ _ _ _ _ _ _ _
      | exact ih1 _ _ _ _ _ _ _ _ _ _ _ _ _
      | exact preset_All.mono _ _ _ _ _ _ _ _ _ _
      | exact preset_Check.mono _ _ _ _ _ _ _ _ _
      | exact preset_Index.mono _ _ _ _ _ _ _ _ _ _ _ _ _ _
      | exact preset_Preset.mono _ _
      | exact serinettelaw19_awake.mono _
      | exact LeO.none _
      | refine LeO.ite ?_ ?_
      | refine LeO.bind ?_ (fun _ => ?_)
    · intro y0 y1 y2 y3 y4 y5 y6 y7 y8 y9 y10 y11 y12
      unfold serinettelaw19_PresetNine.l0
      repeat' first
      | (with_reducible exact ih0 _ _ _ _ _ _ _ _ _ _ _ _ _ _ _ _ _ _ _ _)
      | (with_reducible exact ih1 _ _ _ _ _ _ _ _ _ _ _ _ _)
      | (with_reducible exact preset_All.mono _ _ _ _ _ _ _ _ _ _)
      | (with_reducible exact preset_Check.mono _ _ _ _ _ _ _ _ _)
      | (with_reducible exact preset_Index.mono _ _ _ _ _ _ _ _ _ _ _ _ _ _)
      | (with_reducible exact preset_Preset.mono _ _)
      | (with_reducible exact serinettelaw19_awake.mono _)
      | (with_reducible exact LeO.refl _)
      | (with_reducible exact LeO.none _)
      | (with_reducible refine LeO.ite ?_ ?_)
      | (with_reducible refine LeO.bind ?_ (fun _ => ?_))
      | exact ih0 _ _ _ _ _ _ _ _ _ _ _ _ _ _ _ _ _ _ _ _
      | exact ih1 _ _ _ _ _ _ _ _ _ _ _ _ _
      | exact preset_All.mono _ _ _ _ _ _ _ _ _ _
      | exact preset_Check.mono _ _ _ _ _ _ _ _ _
      | exact preset_Index.mono _ _ _ _ _ _ _ _ _ _ _ _ _ _
      | exact preset_Preset.mono _ _
      | exact serinettelaw19_awake.mono _
      | exact LeO.none _
      | refine LeO.ite ?_ ?_
      | refine LeO.bind ?_ (fun _ => ?_)
theorem serinettelaw19_PresetNine.mono : ∀ a0 a1 k, LeO (serinettelaw19_PresetNine.f k a0 a1) (serinettelaw19_PresetNine.f (k + 1) a0 a1) := by
  intro a0 a1 k
  obtain ⟨ih0, ih1⟩ := serinettelaw19_PresetNine.mono_l k
  unfold serinettelaw19_PresetNine.f
  repeat' first
      | (with_reducible exact ih0 _ _ _ _ _ _ _ _ _ _ _ _ _ _ _ _ _ _ _ _)
      | (with_reducible exact ih1 _ _ _ _ _ _ _ _ _ _ _ _ _)
      | (with_reducible exact preset_All.mono _ _ _ _ _ _ _ _ _ _)
      | (with_reducible exact preset_Check.mono _ _ _ _ _ _ _ _ _)
      | (with_reducible exact preset_Index.mono _ _ _ _ _ _ _ _ _ _ _ _ _ _)
      | (with_reducible exact preset_Preset.mono _ _)
      | (with_reducible exact serinettelaw19_awake.mono _)
      | (with_reducible exact LeO.refl _)
      | (with_reducible exact LeO.none _)
      | (with_reducible refine LeO.ite ?_ ?_)
      | (with_reducible refine LeO.bind ?_ (fun _ => ?_))
      | exact ih0 _ _ _ _ _ _ _ _ _ _ _ _ _ _ _ _ _ _ _ _
      | exact ih1 _ _ _ _ _ _ _ _ _ _ _ _ _
      | exact preset_All.mono _ _ _ _ _ _ _ _ _ _
      | exact preset_Check.mono _ _ _ _ _ _ _ _ _
      | exact preset_Index.mono _ _ _ _ _ _ _ _ _ _ _ _ _ _
      | exact preset_Preset.mono _ _
      | exact serinettelaw19_awake.mono _
      | exact LeO.none _
      | refine LeO.ite ?_ ?_
      | refine LeO.bind ?_ (fun _ => ?_)
def serinettelaw19_PresetNine.T11 : Bool × List (List Nat × List Nat) := (true, [([], []), ([], []), ([], []), ([], []), ([2, 3], [2, 3]), ([4], [4]), ([0, 1, 5], [0, 1, 5]), ([6], [6]), ([7], [7]), ([7], [7]), ([8, 6, 0, 1, 2, 3, 4, 5, 6, 7, 8], [8]), ([9, 10, 0, 1, 2, 3, 4, 5, 6, 7, 8, 9, 10], [9])])
def serinettelaw19_PresetNine.B11 : List Nat := [0, 0, 0, 0, 12, 28, 63, 127, 255, 255, 511, 2047]
theorem serinettelaw19_PresetNine.tab11 : rtab .any (opsOf Tryd.f7 11) = serinettelaw19_PresetNine.T11 := by kernel_rfl
theorem serinettelaw19_PresetNine.bits11 : waitsOk serinettelaw19_PresetNine.T11.2 serinettelaw19_PresetNine.B11 = true := by kernel_rfl
set_option maxHeartbeats 8000000 in
set_option maxRecDepth 100000 in
theorem serinettelaw19_PresetNine.calls (k : Nat) (a0 : Int) (a1 : Int) (r : Bool) (w : World) (hrG0 : Kd.C k48 w (some ⟨0, 0, none⟩) TAB0.length TAB0) (h : serinettelaw19_PresetNine.f k a0 a1 = some r) :
    Calls Tryd.prog 7 #[.int .u8 a0, .int .u8 a1] w fun e w' => e = .returned (.bool r) ∧ Below w.heap.size w w' := by
  have hu24 := Tryd.underlying24
  have hu35 := Tryd.underlying35
  have HRG0 := Aside0.mk hrG0
  clear hrG0
  have HB := Aside0.mk (Below.refl w.heap.size w)
  have H : ((serinettelaw19_awake.f k).bind fun t220 => ((preset_Preset.f k (wrap64 (Int.tmod a0 9))).bind fun bt221 => ((preset_Preset.f k 8).bind fun bt235 => (if bt221.2.2.2.2.2.2.2.2 = 0 then (if bt235.2.2.2.2.2.2.2.2 = 0 then ((preset_Check.f k bt221.1 bt221.2.1 bt221.2.2.1 bt221.2.2.2.1 bt221.2.2.2.2.1 bt221.2.2.2.2.2.1 bt221.2.2.2.2.2.2.1 bt221.2.2.2.2.2.2.2.1).bind fun t249 => (if t249 = 0 then ((preset_Count.f bt221.1 bt221.2.1 bt221.2.2.1 bt221.2.2.2.1 bt221.2.2.2.2.1 bt221.2.2.2.2.2.1 bt221.2.2.2.2.2.2.1 bt221.2.2.2.2.2.2.2.1 (wrap64 (1 + (wrap64 (Int.tmod a1 60))))).bind fun t250 => (serinettelaw19_PresetNine.j0 k a0 t220 (wrap64 (1 + (wrap64 (Int.tmod a1 60)))) (decide (t250 < 3)) bt221.1 bt221.2.1 bt221.2.2.1 bt221.2.2.2.1 bt221.2.2.2.2.1 bt221.2.2.2.2.2.1 bt221.2.2.2.2.2.2.1 bt221.2.2.2.2.2.2.2.1 bt235.1 bt235.2.1 bt235.2.2.1 bt235.2.2.2.1 bt235.2.2.2.2.1 bt235.2.2.2.2.2.1 bt235.2.2.2.2.2.2.1 bt235.2.2.2.2.2.2.2.1)) else (serinettelaw19_PresetNine.j0 k a0 t220 (wrap64 (1 + (wrap64 (Int.tmod a1 60)))) true bt221.1 bt221.2.1 bt221.2.2.1 bt221.2.2.2.1 bt221.2.2.2.2.1 bt221.2.2.2.2.2.1 bt221.2.2.2.2.2.2.1 bt221.2.2.2.2.2.2.2.1 bt235.1 bt235.2.1 bt235.2.2.1 bt235.2.2.2.1 bt235.2.2.2.2.1 bt235.2.2.2.2.2.1 bt235.2.2.2.2.2.2.1 bt235.2.2.2.2.2.2.2.1))) else (serinettelaw19_PresetNine.j0 k a0 t220 (wrap64 (1 + (wrap64 (Int.tmod a1 60)))) true bt221.1 bt221.2.1 bt221.2.2.1 bt221.2.2.2.1 bt221.2.2.2.2.1 bt221.2.2.2.2.2.1 bt221.2.2.2.2.2.2.1 bt221.2.2.2.2.2.2.2.1 bt235.1 bt235.2.1 bt235.2.2.1 bt235.2.2.2.1 bt235.2.2.2.2.1 bt235.2.2.2.2.2.1 bt235.2.2.2.2.2.2.1 bt235.2.2.2.2.2.2.2.1)) else (serinettelaw19_PresetNine.j0 k a0 t220 (wrap64 (1 + (wrap64 (Int.tmod a1 60)))) true bt221.1 bt221.2.1 bt221.2.2.1 bt221.2.2.2.1 bt221.2.2.2.2.1 bt221.2.2.2.2.2.1 bt221.2.2.2.2.2.2.1 bt221.2.2.2.2.2.2.2.1 bt235.1 bt235.2.1 bt235.2.2.1 bt235.2.2.2.1 bt235.2.2.2.2.1 bt235.2.2.2.2.2.1 bt235.2.2.2.2.2.2.1 bt235.2.2.2.2.2.2.2.1))))) = some r := h
  clear h
  replace H := Option.bind_eq_some_iff.mp H
  obtain ⟨t220, A30, H⟩ := H
  replace H : ((preset_Preset.f k (wrap64 (Int.tmod a0 9))).bind fun bt221 => ((preset_Preset.f k 8).bind fun bt235 => (if bt221.2.2.2.2.2.2.2.2 = 0 then (if bt235.2.2.2.2.2.2.2.2 = 0 then ((preset_Check.f k bt221.1 bt221.2.1 bt221.2.2.1 bt221.2.2.2.1 bt221.2.2.2.2.1 bt221.2.2.2.2.2.1 bt221.2.2.2.2.2.2.1 bt221.2.2.2.2.2.2.2.1).bind fun t249 => (if t249 = 0 then ((preset_Count.f bt221.1 bt221.2.1 bt221.2.2.1 bt221.2.2.2.1 bt221.2.2.2.2.1 bt221.2.2.2.2.2.1 bt221.2.2.2.2.2.2.1 bt221.2.2.2.2.2.2.2.1 (wrap64 (1 + (wrap64 (Int.tmod a1 60))))).bind fun t250 => (serinettelaw19_PresetNine.j0 k a0 t220 (wrap64 (1 + (wrap64 (Int.tmod a1 60)))) (decide (t250 < 3)) bt221.1 bt221.2.1 bt221.2.2.1 bt221.2.2.2.1 bt221.2.2.2.2.1 bt221.2.2.2.2.2.1 bt221.2.2.2.2.2.2.1 bt221.2.2.2.2.2.2.2.1 bt235.1 bt235.2.1 bt235.2.2.1 bt235.2.2.2.1 bt235.2.2.2.2.1 bt235.2.2.2.2.2.1 bt235.2.2.2.2.2.2.1 bt235.2.2.2.2.2.2.2.1)) else (serinettelaw19_PresetNine.j0 k a0 t220 (wrap64 (1 + (wrap64 (Int.tmod a1 60)))) true bt221.1 bt221.2.1 bt221.2.2.1 bt221.2.2.2.1 bt221.2.2.2.2.1 bt221.2.2.2.2.2.1 bt221.2.2.2.2.2.2.1 bt221.2.2.2.2.2.2.2.1 bt235.1 bt235.2.1 bt235.2.2.1 bt235.2.2.2.1 bt235.2.2.2.2.1 bt235.2.2.2.2.2.1 bt235.2.2.2.2.2.2.1 bt235.2.2.2.2.2.2.2.1))) else (serinettelaw19_PresetNine.j0 k a0 t220 (wrap64 (1 + (wrap64 (Int.tmod a1 60)))) true bt221.1 bt221.2.1 bt221.2.2.1 bt221.2.2.2.1 bt221.2.2.2.2.1 bt221.2.2.2.2.2.1 bt221.2.2.2.2.2.2.1 bt221.2.2.2.2.2.2.2.1 bt235.1 bt235.2.1 bt235.2.2.1 bt235.2.2.2.1 bt235.2.2.2.2.1 bt235.2.2.2.2.2.1 bt235.2.2.2.2.2.2.1 bt235.2.2.2.2.2.2.2.1)) else (serinettelaw19_PresetNine.j0 k a0 t220 (wrap64 (1 + (wrap64 (Int.tmod a1 60)))) true bt221.1 bt221.2.1 bt221.2.2.1 bt221.2.2.2.1 bt221.2.2.2.2.1 bt221.2.2.2.2.2.1 bt221.2.2.2.2.2.2.1 bt221.2.2.2.2.2.2.2.1 bt235.1 bt235.2.1 bt235.2.2.1 bt235.2.2.2.1 bt235.2.2.2.2.1 bt235.2.2.2.2.2.1 bt235.2.2.2.2.2.2.1 bt235.2.2.2.2.2.2.2.1)))) = some r := H
  have A3 := Aside0.mk A30
  clear A30
  replace H := Option.bind_eq_some_iff.mp H
  obtain ⟨⟨t221, t222, t223, t224, t225, t228, t231, t232, t233⟩, A40, H⟩ := H
  replace H : ((preset_Preset.f k 8).bind fun bt235 => (if t233 = 0 then (if bt235.2.2.2.2.2.2.2.2 = 0 then ((preset_Check.f k t221 t222 t223 t224 t225 t228 t231 t232).bind fun t249 => (if t249 = 0 then ((preset_Count.f t221 t222 t223 t224 t225 t228 t231 t232 (wrap64 (1 + (wrap64 (Int.tmod a1 60))))).bind fun t250 => (serinettelaw19_PresetNine.j0 k a0 t220 (wrap64 (1 + (wrap64 (Int.tmod a1 60)))) (decide (t250 < 3)) t221 t222 t223 t224 t225 t228 t231 t232 bt235.1 bt235.2.1 bt235.2.2.1 bt235.2.2.2.1 bt235.2.2.2.2.1 bt235.2.2.2.2.2.1 bt235.2.2.2.2.2.2.1 bt235.2.2.2.2.2.2.2.1)) else (serinettelaw19_PresetNine.j0 k a0 t220 (wrap64 (1 + (wrap64 (Int.tmod a1 60)))) true t221 t222 t223 t224 t225 t228 t231 t232 bt235.1 bt235.2.1 bt235.2.2.1 bt235.2.2.2.1 bt235.2.2.2.2.1 bt235.2.2.2.2.2.1 bt235.2.2.2.2.2.2.1 bt235.2.2.2.2.2.2.2.1))) else (serinettelaw19_PresetNine.j0 k a0 t220 (wrap64 (1 + (wrap64 (Int.tmod a1 60)))) true t221 t222 t223 t224 t225 t228 t231 t232 bt235.1 bt235.2.1 bt235.2.2.1 bt235.2.2.2.1 bt235.2.2.2.2.1 bt235.2.2.2.2.2.1 bt235.2.2.2.2.2.2.1 bt235.2.2.2.2.2.2.2.1)) else (serinettelaw19_PresetNine.j0 k a0 t220 (wrap64 (1 + (wrap64 (Int.tmod a1 60)))) true t221 t222 t223 t224 t225 t228 t231 t232 bt235.1 bt235.2.1 bt235.2.2.1 bt235.2.2.2.1 bt235.2.2.2.2.1 bt235.2.2.2.2.2.1 bt235.2.2.2.2.2.2.1 bt235.2.2.2.2.2.2.2.1))) = some r := H
  have A4 := Aside0.mk A40
  clear A40
  replace H := Option.bind_eq_some_iff.mp H
  obtain ⟨⟨t235, t236, t237, t238, t239, t242, t245, t246, t247⟩, A50, H⟩ := H
  replace H : (if t233 = 0 then (if t247 = 0 then ((preset_Check.f k t221 t222 t223 t224 t225 t228 t231 t232).bind fun t249 => (if t249 = 0 then ((preset_Count.f t221 t222 t223 t224 t225 t228 t231 t232 (wrap64 (1 + (wrap64 (Int.tmod a1 60))))).bind fun t250 => (serinettelaw19_PresetNine.j0 k a0 t220 (wrap64 (1 + (wrap64 (Int.tmod a1 60)))) (decide (t250 < 3)) t221 t222 t223 t224 t225 t228 t231 t232 t235 t236 t237 t238 t239 t242 t245 t246)) else (serinettelaw19_PresetNine.j0 k a0 t220 (wrap64 (1 + (wrap64 (Int.tmod a1 60)))) true t221 t222 t223 t224 t225 t228 t231 t232 t235 t236 t237 t238 t239 t242 t245 t246))) else (serinettelaw19_PresetNine.j0 k a0 t220 (wrap64 (1 + (wrap64 (Int.tmod a1 60)))) true t221 t222 t223 t224 t225 t228 t231 t232 t235 t236 t237 t238 t239 t242 t245 t246)) else (serinettelaw19_PresetNine.j0 k a0 t220 (wrap64 (1 + (wrap64 (Int.tmod a1 60)))) true t221 t222 t223 t224 t225 t228 t231 t232 t235 t236 t237 t238 t239 t242 t245 t246)) = some r := H
  have A5 := Aside0.mk A50
  clear A50
  have HC6 := Aside0.mk H
  clear H
  go_enter Tryd.func7, Tryd.ntmps7
  go_upto_region 5 with (first | ((with_reducible refine gate_callee (f := 8) rfl ?_); refine goesL_ (some 17) rfl rfl Tryd.func8 (by kernel_rfl) rfl #[] rfl (by (try simp only [List.map_toArray, List.map_cons, List.map_nil]); first | done | rfl | (simp only [List.length_drop, List.length_take]; rfl)) ?_; (with_reducible refine (serinettelaw19_awake.calls k  t220 _ ?side1 A3.out).mono ?_); (case side1 => repeat (first | exact HRG0.out | (with_reducible refine Kd.C_alloc ?_ _) | (with_reducible refine Kd.C_drewN ?_ _) | (with_reducible refine Kd.C_drew ?_))); rintro e w7 ⟨rfl, hb⟩; refine ⟨_, rfl, ?_⟩; have n0_ := Aside0.mk (below_step (by repeat (first | (with_reducible first | exact HB.out | apply below_alloc | apply pw_below_drewN | apply below_drew1) | exact HB.out)) hb); clear HB; have HB := n0_; clear n0_; (try clear hb); (try clear hb2); (try clear hk); (try clear hi)) | ((with_reducible refine gate_callee (f := 9) rfl ?_); refine goesL_ (some 22) rfl rfl Tryd.func9 (by kernel_rfl) rfl #[.int .i64 (wrap64 (Int.tmod a0 9))] rfl (by (try simp only [List.map_toArray, List.map_cons, List.map_nil]); first | done | rfl | (simp only [List.length_drop, List.length_take]; rfl)) ?_; (with_reducible refine (preset_Preset.calls k (wrap64 (Int.tmod a0 9)) t221 t222 t223 t224 t225 t228 t231 t232 t233 _ ?side1 A4.out).mono ?_); (case side1 => repeat (first | exact (Kd.C_below HRG0.out HB.out) | (with_reducible refine Kd.C_alloc ?_ _) | (with_reducible refine Kd.C_drewN ?_ _) | (with_reducible refine Kd.C_drew ?_))); rintro e w8 ⟨v226, v229, rfl, ho0, ho1, hb⟩; refine ⟨_, rfl, ?_⟩; have n0_ := Aside0.mk (Kd.V_lower (Kd.V_mono (ok' := fun k_ => True) ho0 (fun k_ hk_ => trivial)) (below_size (by repeat (first | (with_reducible first | exact HB.out | apply below_alloc | apply pw_below_drewN | apply below_drew1) | exact HB.out)))); have n1_ := Aside0.mk (Kd.V_lower (Kd.V_mono (ok' := fun k_ => True) ho1 (fun k_ hk_ => trivial)) (below_size (by repeat (first | (with_reducible first | exact HB.out | apply below_alloc | apply pw_below_drewN | apply below_drew1) | exact HB.out)))); have n2_ := Aside0.mk (below_step (by repeat (first | (with_reducible first | exact HB.out | apply below_alloc | apply pw_below_drewN | apply below_drew1) | exact HB.out)) hb); clear HB; have HO227 := n0_; have HO230 := n1_; have HB := n2_; clear n0_ n1_ n2_; (try clear hb); (try clear hb2); (try clear hk); (try clear hi); (try clear ho0); (try clear ho1)) | ((with_reducible refine gate_dst (N := 6) rfl ?_); refine box_event ?hg (N := 6) ?hd (cs := #[.int .i64 0, .bool false, .int .i64 0, .int .i64 0, .slice none 0 0, .slice none 0 0, .int .i64 0, .bool false]) (t := 24) ?hr ?_; (case hd => rfl); (case hg => rfl); (case hr => first | (go_simp; done) | (go_simp; rfl)); intro gb234 hg w9 hbox hb; have n0_ := Aside0.mk (Kd.V_below (Kd.V_elderB (by (with_reducible repeat (first | apply Kd.V_alloc | apply Kd.V_drewN | apply Kd.V_drew)); exact HO227.out) gb234 (Nat.le_of_eq hg.symm)) hb); have n1_ := Aside0.mk (Kd.V_below (Kd.V_elderB (by (with_reducible repeat (first | apply Kd.V_alloc | apply Kd.V_drewN | apply Kd.V_drew)); exact HO230.out) gb234 (Nat.le_of_eq hg.symm)) hb); have n2_ := Aside0.mk (below_step (by repeat (first | (with_reducible first | exact HB.out | apply below_alloc | apply pw_below_drewN | apply below_drew1) | exact HB.out)) hb); have n3_ := Aside0.mk (hbox); have n4_ := Aside0.mk ((by rw [hg]; exact (below_size (by repeat (first | (with_reducible first | exact HB.out | apply below_alloc | apply pw_below_drewN | apply below_drew1) | exact HB.out))) : w.heap.size ≤ gb234)); have n5_ := Aside0.mk ((by rw [hg]; exact (below_size (by repeat (first | (with_reducible first | exact HB.out | apply below_alloc | apply pw_below_drewN | apply below_drew1) | exact HB.out))) : w.heap.size ≤ gb234)); clear HO227; clear HO230; clear HB; have HO227 := n0_; have HO230 := n1_; have HB := n2_; have BK234 := n3_; have GW234 := n4_; have GE234 := n5_; clear n0_ n1_ n2_ n3_ n4_ n5_; clear hb hbox hg; have hcz10_0 : w9.cell? ⟨gb234, 0, none⟩ = some (.int .i64 0) := (blk_cell BK234.out 0).trans rfl; have hcz10_1 : w9.cell? ⟨gb234, 1, none⟩ = some (.bool false) := (blk_cell BK234.out 1).trans rfl; have hcz10_2 : w9.cell? ⟨gb234, 2, none⟩ = some (.int .i64 0) := (blk_cell BK234.out 2).trans rfl; have hcz10_3 : w9.cell? ⟨gb234, 3, none⟩ = some (.int .i64 0) := (blk_cell BK234.out 3).trans rfl; have hcz10_4 : w9.cell? ⟨gb234, 4, none⟩ = some (.slice none 0 0) := (blk_cell BK234.out 4).trans rfl; have hcz10_5 : w9.cell? ⟨gb234, 5, none⟩ = some (.slice none 0 0) := (blk_cell BK234.out 5).trans rfl; have hcz10_6 : w9.cell? ⟨gb234, 6, none⟩ = some (.int .i64 0) := (blk_cell BK234.out 6).trans rfl; have hcz10_7 : w9.cell? ⟨gb234, 7, none⟩ = some (.bool false) := (blk_cell BK234.out 7).trans rfl; have hfz10_0 := blk_frozen BK234.out 0; have hfz10_1 := blk_frozen BK234.out 1; have hfz10_2 := blk_frozen BK234.out 2; have hfz10_3 := blk_frozen BK234.out 3; have hfz10_4 := blk_frozen BK234.out 4; have hfz10_5 := blk_frozen BK234.out 5; have hfz10_6 := blk_frozen BK234.out 6; have hfz10_7 := blk_frozen BK234.out 7; obtain ⟨Ao11, co11, eo11⟩ := Kd.V_slice HO227.out; subst eo11; obtain ⟨Ao12, co12, eo12⟩ := Kd.V_slice HO230.out; subst eo12) | ((with_reducible refine gate_callee (f := 9) rfl ?_); refine goesL_ (some 26) rfl rfl Tryd.func9 (by kernel_rfl) rfl #[.int .i64 8] rfl (by (try simp only [List.map_toArray, List.map_cons, List.map_nil]); first | done | rfl | (simp only [List.length_drop, List.length_take]; rfl)) ?_; (with_reducible refine (preset_Preset.calls k 8 t235 t236 t237 t238 t239 t242 t245 t246 t247 _ ?side1 A5.out).mono ?_); (case side1 => exact Kd.C_below HRG0.out (by repeat (first | (with_reducible first | exact HB.out | apply below_alloc | apply pw_below_drewN | apply below_drew1 | refine below_set ?_ GE234.out) | exact HB.out))); rintro e w13 ⟨v240, v243, rfl, ho0, ho1, hb⟩; refine ⟨_, rfl, ?_⟩; have n0_ := Aside0.mk (Kd.V_below (by (with_reducible repeat (first | apply Kd.V_alloc | apply Kd.V_drewN | apply Kd.V_drew)); exact (Kd.V_mono (Kd.V_far (p := ⟨gb234, 7, none⟩) (Kd.V_far (p := ⟨gb234, 6, none⟩) (Kd.V_far (p := ⟨gb234, 5, none⟩) (Kd.V_far (p := ⟨gb234, 4, none⟩) (Kd.V_far (p := ⟨gb234, 3, none⟩) (Kd.V_far (p := ⟨gb234, 2, none⟩) (Kd.V_far (p := ⟨gb234, 1, none⟩) (Kd.V_far (p := ⟨gb234, 0, none⟩) (Kd.V_mono HO227.out (fun k_ hk => (⟨hk, hk.2⟩ : _ ∧ k_ ≠ gb234))) (fun _ hk => hk.2) (.int .i64 t221)) (fun _ hk => hk.2) (.bool t222)) (fun _ hk => hk.2) (.int .i64 t223)) (fun _ hk => hk.2) (.int .i64 t224)) (fun _ hk => hk.2) (.slice Ao11 t225.length co11)) (fun _ hk => hk.2) (.slice Ao12 t228.length co12)) (fun _ hk => hk.2) (.int .i64 t231)) (fun _ hk => hk.2) (.bool t232)) (fun _ h_ => h_.1))) hb); have n1_ := Aside0.mk (Kd.V_below (by (with_reducible repeat (first | apply Kd.V_alloc | apply Kd.V_drewN | apply Kd.V_drew)); exact (Kd.V_mono (Kd.V_far (p := ⟨gb234, 7, none⟩) (Kd.V_far (p := ⟨gb234, 6, none⟩) (Kd.V_far (p := ⟨gb234, 5, none⟩) (Kd.V_far (p := ⟨gb234, 4, none⟩) (Kd.V_far (p := ⟨gb234, 3, none⟩) (Kd.V_far (p := ⟨gb234, 2, none⟩) (Kd.V_far (p := ⟨gb234, 1, none⟩) (Kd.V_far (p := ⟨gb234, 0, none⟩) (Kd.V_mono HO230.out (fun k_ hk => (⟨hk, hk.2⟩ : _ ∧ k_ ≠ gb234))) (fun _ hk => hk.2) (.int .i64 t221)) (fun _ hk => hk.2) (.bool t222)) (fun _ hk => hk.2) (.int .i64 t223)) (fun _ hk => hk.2) (.int .i64 t224)) (fun _ hk => hk.2) (.slice Ao11 t225.length co11)) (fun _ hk => hk.2) (.slice Ao12 t228.length co12)) (fun _ hk => hk.2) (.int .i64 t231)) (fun _ hk => hk.2) (.bool t232)) (fun _ h_ => h_.1))) hb); have n2_ := Aside0.mk (Kd.V_lower (Kd.V_mono (ok' := fun k_ => k_ ≠ gb234) ho0 (fun k_ hk_ => (Kd.freshB (g := gb234) (o := .cells #[.int .i64 t221, .bool t222, .int .i64 t223, .int .i64 t224, .slice Ao11 t225.length co11, .slice Ao12 t228.length co12, .int .i64 t231, .bool t232] 24 (0, 0)) (by (with_reducible repeat (first | refine blk_drewN ?_ _ | refine blk_drew ?_ | refine blk_alloc ?_ _)); refine blk_put (cs := #[.int .i64 t221, .bool t222, .int .i64 t223, .int .i64 t224, .slice Ao11 t225.length co11, .slice Ao12 t228.length co12, .int .i64 t231, .bool false]) ?_ 7 _ rfl; (with_reducible repeat (first | refine blk_drewN ?_ _ | refine blk_drew ?_ | refine blk_alloc ?_ _)); refine blk_put (cs := #[.int .i64 t221, .bool t222, .int .i64 t223, .int .i64 t224, .slice Ao11 t225.length co11, .slice Ao12 t228.length co12, .int .i64 0, .bool false]) ?_ 6 _ rfl; (with_reducible repeat (first | refine blk_drewN ?_ _ | refine blk_drew ?_ | refine blk_alloc ?_ _)); refine blk_put (cs := #[.int .i64 t221, .bool t222, .int .i64 t223, .int .i64 t224, .slice Ao11 t225.length co11, .slice none 0 0, .int .i64 0, .bool false]) ?_ 5 _ rfl; (with_reducible repeat (first | refine blk_drewN ?_ _ | refine blk_drew ?_ | refine blk_alloc ?_ _)); refine blk_put (cs := #[.int .i64 t221, .bool t222, .int .i64 t223, .int .i64 t224, .slice none 0 0, .slice none 0 0, .int .i64 0, .bool false]) ?_ 4 _ rfl; (with_reducible repeat (first | refine blk_drewN ?_ _ | refine blk_drew ?_ | refine blk_alloc ?_ _)); refine blk_put (cs := #[.int .i64 t221, .bool t222, .int .i64 t223, .int .i64 0, .slice none 0 0, .slice none 0 0, .int .i64 0, .bool false]) ?_ 3 _ rfl; (with_reducible repeat (first | refine blk_drewN ?_ _ | refine blk_drew ?_ | refine blk_alloc ?_ _)); refine blk_put (cs := #[.int .i64 t221, .bool t222, .int .i64 0, .int .i64 0, .slice none 0 0, .slice none 0 0, .int .i64 0, .bool false]) ?_ 2 _ rfl; (with_reducible repeat (first | refine blk_drewN ?_ _ | refine blk_drew ?_ | refine blk_alloc ?_ _)); refine blk_put (cs := #[.int .i64 t221, .bool false, .int .i64 0, .int .i64 0, .slice none 0 0, .slice none 0 0, .int .i64 0, .bool false]) ?_ 1 _ rfl; (with_reducible repeat (first | refine blk_drewN ?_ _ | refine blk_drew ?_ | refine blk_alloc ?_ _)); refine blk_put (cs := #[.int .i64 0, .bool false, .int .i64 0, .int .i64 0, .slice none 0 0, .slice none 0 0, .int .i64 0, .bool false]) ?_ 0 _ rfl; (with_reducible repeat (first | refine blk_drewN ?_ _ | refine blk_drew ?_ | refine blk_alloc ?_ _)); exact BK234.out) k_ hk_))) (below_size (by repeat (first | (with_reducible first | exact HB.out | apply below_alloc | apply pw_below_drewN | apply below_drew1 | refine below_set ?_ GE234.out) | exact HB.out)))); have n3_ := Aside0.mk (Kd.V_lower (Kd.V_mono (ok' := fun k_ => k_ ≠ gb234) ho1 (fun k_ hk_ => (Kd.freshB (g := gb234) (o := .cells #[.int .i64 t221, .bool t222, .int .i64 t223, .int .i64 t224, .slice Ao11 t225.length co11, .slice Ao12 t228.length co12, .int .i64 t231, .bool t232] 24 (0, 0)) (by (with_reducible repeat (first | refine blk_drewN ?_ _ | refine blk_drew ?_ | refine blk_alloc ?_ _)); refine blk_put (cs := #[.int .i64 t221, .bool t222, .int .i64 t223, .int .i64 t224, .slice Ao11 t225.length co11, .slice Ao12 t228.length co12, .int .i64 t231, .bool false]) ?_ 7 _ rfl; (with_reducible repeat (first | refine blk_drewN ?_ _ | refine blk_drew ?_ | refine blk_alloc ?_ _)); refine blk_put (cs := #[.int .i64 t221, .bool t222, .int .i64 t223, .int .i64 t224, .slice Ao11 t225.length co11, .slice Ao12 t228.length co12, .int .i64 0, .bool false]) ?_ 6 _ rfl; (with_reducible repeat (first | refine blk_drewN ?_ _ | refine blk_drew ?_ | refine blk_alloc ?_ _)); refine blk_put (cs := #[.int .i64 t221, .bool t222, .int .i64 t223, .int .i64 t224, .slice Ao11 t225.length co11, .slice none 0 0, .int .i64 0, .bool false]) ?_ 5 _ rfl; (with_reducible repeat (first | refine blk_drewN ?_ _ | refine blk_drew ?_ | refine blk_alloc ?_ _)); refine blk_put (cs := #[.int .i64 t221, .bool t222, .int .i64 t223, .int .i64 t224, .slice none 0 0, .slice none 0 0, .int .i64 0, .bool false]) ?_ 4 _ rfl; (with_reducible repeat (first | refine blk_drewN ?_ _ | refine blk_drew ?_ | refine blk_alloc ?_ _)); refine blk_put (cs := #[.int .i64 t221, .bool t222, .int .i64 t223, .int .i64 0, .slice none 0 0, .slice none 0 0, .int .i64 0, .bool false]) ?_ 3 _ rfl; (with_reducible repeat (first | refine blk_drewN ?_ _ | refine blk_drew ?_ | refine blk_alloc ?_ _)); refine blk_put (cs := #[.int .i64 t221, .bool t222, .int .i64 0, .int .i64 0, .slice none 0 0, .slice none 0 0, .int .i64 0, .bool false]) ?_ 2 _ rfl; (with_reducible repeat (first | refine blk_drewN ?_ _ | refine blk_drew ?_ | refine blk_alloc ?_ _)); refine blk_put (cs := #[.int .i64 t221, .bool false, .int .i64 0, .int .i64 0, .slice none 0 0, .slice none 0 0, .int .i64 0, .bool false]) ?_ 1 _ rfl; (with_reducible repeat (first | refine blk_drewN ?_ _ | refine blk_drew ?_ | refine blk_alloc ?_ _)); refine blk_put (cs := #[.int .i64 0, .bool false, .int .i64 0, .int .i64 0, .slice none 0 0, .slice none 0 0, .int .i64 0, .bool false]) ?_ 0 _ rfl; (with_reducible repeat (first | refine blk_drewN ?_ _ | refine blk_drew ?_ | refine blk_alloc ?_ _)); exact BK234.out) k_ hk_))) (below_size (by repeat (first | (with_reducible first | exact HB.out | apply below_alloc | apply pw_below_drewN | apply below_drew1 | refine below_set ?_ GE234.out) | exact HB.out)))); have n4_ := Aside0.mk (blk_below (g := gb234) (o := .cells #[.int .i64 t221, .bool t222, .int .i64 t223, .int .i64 t224, .slice Ao11 t225.length co11, .slice Ao12 t228.length co12, .int .i64 t231, .bool t232] 24 (0, 0)) (by (with_reducible repeat (first | refine blk_drewN ?_ _ | refine blk_drew ?_ | refine blk_alloc ?_ _)); refine blk_put (cs := #[.int .i64 t221, .bool t222, .int .i64 t223, .int .i64 t224, .slice Ao11 t225.length co11, .slice Ao12 t228.length co12, .int .i64 t231, .bool false]) ?_ 7 _ rfl; (with_reducible repeat (first | refine blk_drewN ?_ _ | refine blk_drew ?_ | refine blk_alloc ?_ _)); refine blk_put (cs := #[.int .i64 t221, .bool t222, .int .i64 t223, .int .i64 t224, .slice Ao11 t225.length co11, .slice Ao12 t228.length co12, .int .i64 0, .bool false]) ?_ 6 _ rfl; (with_reducible repeat (first | refine blk_drewN ?_ _ | refine blk_drew ?_ | refine blk_alloc ?_ _)); refine blk_put (cs := #[.int .i64 t221, .bool t222, .int .i64 t223, .int .i64 t224, .slice Ao11 t225.length co11, .slice none 0 0, .int .i64 0, .bool false]) ?_ 5 _ rfl; (with_reducible repeat (first | refine blk_drewN ?_ _ | refine blk_drew ?_ | refine blk_alloc ?_ _)); refine blk_put (cs := #[.int .i64 t221, .bool t222, .int .i64 t223, .int .i64 t224, .slice none 0 0, .slice none 0 0, .int .i64 0, .bool false]) ?_ 4 _ rfl; (with_reducible repeat (first | refine blk_drewN ?_ _ | refine blk_drew ?_ | refine blk_alloc ?_ _)); refine blk_put (cs := #[.int .i64 t221, .bool t222, .int .i64 t223, .int .i64 0, .slice none 0 0, .slice none 0 0, .int .i64 0, .bool false]) ?_ 3 _ rfl; (with_reducible repeat (first | refine blk_drewN ?_ _ | refine blk_drew ?_ | refine blk_alloc ?_ _)); refine blk_put (cs := #[.int .i64 t221, .bool t222, .int .i64 0, .int .i64 0, .slice none 0 0, .slice none 0 0, .int .i64 0, .bool false]) ?_ 2 _ rfl; (with_reducible repeat (first | refine blk_drewN ?_ _ | refine blk_drew ?_ | refine blk_alloc ?_ _)); refine blk_put (cs := #[.int .i64 t221, .bool false, .int .i64 0, .int .i64 0, .slice none 0 0, .slice none 0 0, .int .i64 0, .bool false]) ?_ 1 _ rfl; (with_reducible repeat (first | refine blk_drewN ?_ _ | refine blk_drew ?_ | refine blk_alloc ?_ _)); refine blk_put (cs := #[.int .i64 0, .bool false, .int .i64 0, .int .i64 0, .slice none 0 0, .slice none 0 0, .int .i64 0, .bool false]) ?_ 0 _ rfl; (with_reducible repeat (first | refine blk_drewN ?_ _ | refine blk_drew ?_ | refine blk_alloc ?_ _)); exact BK234.out) hb); have n5_ := Aside0.mk (below_step (by repeat (first | (with_reducible first | exact HB.out | apply below_alloc | apply pw_below_drewN | apply below_drew1 | refine below_set ?_ GE234.out) | exact HB.out)) hb); clear HO227; clear HO230; clear BK234; clear HB; have HO227 := n0_; have HO230 := n1_; have HO241 := n2_; have HO244 := n3_; have BK234 := n4_; have HB := n5_; clear n0_ n1_ n2_ n3_ n4_ n5_; (try clear hb); (try clear hb2); (try clear hk); (try clear hi); (try clear ho0); (try clear ho1)) | ((with_reducible refine gate_dst (N := 8) rfl ?_); refine box_event ?hg (N := 8) ?hd (cs := #[.int .i64 0, .bool false, .int .i64 0, .int .i64 0, .slice none 0 0, .slice none 0 0, .int .i64 0, .bool false]) (t := 24) ?hr ?_; (case hd => rfl); (case hg => rfl); (case hr => first | (go_simp; done) | (go_simp; rfl)); intro gb248 hg w14 hbox hb; have n0_ := Aside0.mk (Kd.V_below (Kd.V_elderB (by (with_reducible repeat (first | apply Kd.V_alloc | apply Kd.V_drewN | apply Kd.V_drew)); exact HO227.out) gb248 (Nat.le_of_eq hg.symm)) hb); have n1_ := Aside0.mk (Kd.V_below (Kd.V_elderB (by (with_reducible repeat (first | apply Kd.V_alloc | apply Kd.V_drewN | apply Kd.V_drew)); exact HO230.out) gb248 (Nat.le_of_eq hg.symm)) hb); have n2_ := Aside0.mk (Kd.V_below (Kd.V_elderB (by (with_reducible repeat (first | apply Kd.V_alloc | apply Kd.V_drewN | apply Kd.V_drew)); exact HO241.out) gb248 (Nat.le_of_eq hg.symm)) hb); have n3_ := Aside0.mk (Kd.V_below (Kd.V_elderB (by (with_reducible repeat (first | apply Kd.V_alloc | apply Kd.V_drewN | apply Kd.V_drew)); exact HO244.out) gb248 (Nat.le_of_eq hg.symm)) hb); have n4_ := Aside0.mk (blk_below (g := gb234) (o := .cells #[.int .i64 t221, .bool t222, .int .i64 t223, .int .i64 t224, .slice Ao11 t225.length co11, .slice Ao12 t228.length co12, .int .i64 t231, .bool t232] 24 (0, 0)) (by (with_reducible repeat (first | refine blk_drewN ?_ _ | refine blk_drew ?_ | refine blk_alloc ?_ _)); exact BK234.out) hb); have n5_ := Aside0.mk (below_step (by repeat (first | (with_reducible first | exact HB.out | apply below_alloc | apply pw_below_drewN | apply below_drew1 | refine below_set ?_ GE234.out) | exact HB.out)) hb); have n6_ := Aside0.mk (hbox); have n7_ := Aside0.mk ((by rw [hg]; exact (below_size (by repeat (first | (with_reducible first | exact HB.out | apply below_alloc | apply pw_below_drewN | apply below_drew1 | refine below_set ?_ GE234.out) | exact HB.out))) : w.heap.size ≤ gb248)); have n8_ := Aside0.mk ((by rw [hg]; exact (below_size (by repeat (first | (with_reducible first | exact HB.out | apply below_alloc | apply pw_below_drewN | apply below_drew1 | refine below_set ?_ GE234.out) | exact HB.out))) : w.heap.size ≤ gb248)); have n9_ := Aside0.mk ((by rw [hg]; exact Nat.ne_of_lt (blk_lt (g := gb234) (o := .cells #[.int .i64 t221, .bool t222, .int .i64 t223, .int .i64 t224, .slice Ao11 t225.length co11, .slice Ao12 t228.length co12, .int .i64 t231, .bool t232] 24 (0, 0)) (by (with_reducible repeat (first | refine blk_drewN ?_ _ | refine blk_drew ?_ | refine blk_alloc ?_ _)); exact BK234.out)) : gb234 ≠ gb248)); have n10_ := Aside0.mk ((by rw [hg]; exact Nat.ne_of_gt (blk_lt (g := gb234) (o := .cells #[.int .i64 t221, .bool t222, .int .i64 t223, .int .i64 t224, .slice Ao11 t225.length co11, .slice Ao12 t228.length co12, .int .i64 t231, .bool t232] 24 (0, 0)) (by (with_reducible repeat (first | refine blk_drewN ?_ _ | refine blk_drew ?_ | refine blk_alloc ?_ _)); exact BK234.out)) : gb248 ≠ gb234)); clear HO227; clear HO230; clear HO241; clear HO244; clear BK234; clear HB; have HO227 := n0_; have HO230 := n1_; have HO241 := n2_; have HO244 := n3_; have BK234 := n4_; have HB := n5_; have BK248 := n6_; have GW248 := n7_; have GE248 := n8_; have NB234_248 := n9_; have NB248_234 := n10_; clear n0_ n1_ n2_ n3_ n4_ n5_ n6_ n7_ n8_ n9_ n10_; clear hb hbox hg; have hnb15 := NB248_234.out; have hnc15 := NB234_248.out; have hcz16_0 : w14.cell? ⟨gb248, 0, none⟩ = some (.int .i64 0) := (blk_cell BK248.out 0).trans rfl; have hcz16_1 : w14.cell? ⟨gb248, 1, none⟩ = some (.bool false) := (blk_cell BK248.out 1).trans rfl; have hcz16_2 : w14.cell? ⟨gb248, 2, none⟩ = some (.int .i64 0) := (blk_cell BK248.out 2).trans rfl; have hcz16_3 : w14.cell? ⟨gb248, 3, none⟩ = some (.int .i64 0) := (blk_cell BK248.out 3).trans rfl; have hcz16_4 : w14.cell? ⟨gb248, 4, none⟩ = some (.slice none 0 0) := (blk_cell BK248.out 4).trans rfl; have hcz16_5 : w14.cell? ⟨gb248, 5, none⟩ = some (.slice none 0 0) := (blk_cell BK248.out 5).trans rfl; have hcz16_6 : w14.cell? ⟨gb248, 6, none⟩ = some (.int .i64 0) := (blk_cell BK248.out 6).trans rfl; have hcz16_7 : w14.cell? ⟨gb248, 7, none⟩ = some (.bool false) := (blk_cell BK248.out 7).trans rfl; have hfz16_0 := blk_frozen BK248.out 0; have hfz16_1 := blk_frozen BK248.out 1; have hfz16_2 := blk_frozen BK248.out 2; have hfz16_3 := blk_frozen BK248.out 3; have hfz16_4 := blk_frozen BK248.out 4; have hfz16_5 := blk_frozen BK248.out 5; have hfz16_6 := blk_frozen BK248.out 6; have hfz16_7 := blk_frozen BK248.out 7; obtain ⟨Ao17, co17, eo17⟩ := Kd.V_slice HO241.out; subst eo17; obtain ⟨Ao18, co18, eo18⟩ := Kd.V_slice HO244.out; subst eo18))
  (try simp only [Act.put, List.setIfInBounds_toArray, List.set_cons_zero, List.set_cons_succ])
  go_cut [49] (fun v49 wc => ∃ (kq : Nat) (x49_5 : Bool), v49 = .bool x49_5 ∧ Aside0 (serinettelaw19_PresetNine.j0 kq a0 t220 (wrap64 (1 + (wrap64 (Int.tmod a1 60)))) x49_5 t221 t222 t223 t224 t225 t228 t231 t232 t235 t236 t237 t238 t239 t242 t245 t246 = some r) ∧ Aside0 (kq ≤ k) ∧ Aside0 (Kd.V (Kd.int .i64) 3 wc w.heap.size (fun k_ => k_ ≠ gb234 ∧ k_ ≠ gb248) (.slice Ao11 t225.length co11) t225) ∧ Aside0 (Kd.V (Kd.int .i64) 3 wc w.heap.size (fun k_ => k_ ≠ gb234 ∧ k_ ≠ gb248) (.slice Ao12 t228.length co12) t228) ∧ Aside0 (Kd.V (Kd.int .i64) 3 wc w.heap.size (fun k_ => k_ ≠ gb234 ∧ k_ ≠ gb248) (.slice Ao17 t239.length co17) t239) ∧ Aside0 (Kd.V (Kd.int .i64) 3 wc w.heap.size (fun k_ => k_ ≠ gb234 ∧ k_ ≠ gb248) (.slice Ao18 t242.length co18) t242) ∧ Aside0 (wc.heap[gb234]? = some (.cells #[.int .i64 t221, .bool t222, .int .i64 t223, .int .i64 t224, (.slice Ao11 t225.length co11), (.slice Ao12 t228.length co12), .int .i64 t231, .bool t232] 24 (0, 0))) ∧ Aside0 (wc.heap[gb248]? = some (.cells #[.int .i64 t235, .bool t236, .int .i64 t237, .int .i64 t238, (.slice Ao17 t239.length co17), (.slice Ao18 t242.length co18), .int .i64 t245, .bool t246] 24 (0, 0))) ∧ Aside0 (Below w.heap.size w wc))
  case first =>
    have H := HC6.out
    clear HC6
    by_cases c19 : t233 = 0
    · rw [if_pos c19] at H
      have c19b0 : (t233 == 0) = true := beq_iff_eq.mpr c19
      have c19b1 : (t233 != 0) = false := bne_eq_false_iff_eq.mpr c19
      clear c19
      (first | rw [c19b0] | (simp only [i64_w, i32_w]; rw [c19b0]) | skip)
      by_cases c20 : t247 = 0
      · rw [if_pos c20] at H
        have c20b0 : (t247 == 0) = true := beq_iff_eq.mpr c20
        have c20b1 : (t247 != 0) = false := bne_eq_false_iff_eq.mpr c20
        clear c20
        replace H := Option.bind_eq_some_iff.mp H
        obtain ⟨t249, A210, H⟩ := H
        replace H : (if t249 = 0 then ((preset_Count.f t221 t222 t223 t224 t225 t228 t231 t232 (wrap64 (1 + (wrap64 (Int.tmod a1 60))))).bind fun t250 => (serinettelaw19_PresetNine.j0 k a0 t220 (wrap64 (1 + (wrap64 (Int.tmod a1 60)))) (decide (t250 < 3)) t221 t222 t223 t224 t225 t228 t231 t232 t235 t236 t237 t238 t239 t242 t245 t246)) else (serinettelaw19_PresetNine.j0 k a0 t220 (wrap64 (1 + (wrap64 (Int.tmod a1 60)))) true t221 t222 t223 t224 t225 t228 t231 t232 t235 t236 t237 t238 t239 t242 t245 t246)) = some r := H
        have A21 := Aside0.mk A210
        clear A210
        by_cases c22 : t249 = 0
        · rw [if_pos c22] at H
          have c22b0 : (t249 == 0) = true := beq_iff_eq.mpr c22
          have c22b1 : (t249 != 0) = false := bne_eq_false_iff_eq.mpr c22
          clear c22
          replace H := Option.bind_eq_some_iff.mp H
          obtain ⟨t250, A230, H⟩ := H
          replace H : (serinettelaw19_PresetNine.j0 k a0 t220 (wrap64 (1 + (wrap64 (Int.tmod a1 60)))) (decide (t250 < 3)) t221 t222 t223 t224 t225 t228 t231 t232 t235 t236 t237 t238 t239 t242 t245 t246) = some r := H
          have A23 := Aside0.mk A230
          clear A230
          have H' := Aside0.mk H
          clear H
          have hnb24 := NB234_248.out
          have hnc24 := NB248_234.out
          have hcz25_0 : w14.cell? ⟨gb234, 0, none⟩ = some (.int .i64 t221) := (blk_cell BK234.out 0).trans rfl
          have hcz25_1 : w14.cell? ⟨gb234, 1, none⟩ = some (.bool t222) := (blk_cell BK234.out 1).trans rfl
          have hcz25_2 : w14.cell? ⟨gb234, 2, none⟩ = some (.int .i64 t223) := (blk_cell BK234.out 2).trans rfl
          have hcz25_3 : w14.cell? ⟨gb234, 3, none⟩ = some (.int .i64 t224) := (blk_cell BK234.out 3).trans rfl
          have hcz25_4 : w14.cell? ⟨gb234, 4, none⟩ = some (.slice Ao11 t225.length co11) := (blk_cell BK234.out 4).trans rfl
          have hcz25_5 : w14.cell? ⟨gb234, 5, none⟩ = some (.slice Ao12 t228.length co12) := (blk_cell BK234.out 5).trans rfl
          have hcz25_6 : w14.cell? ⟨gb234, 6, none⟩ = some (.int .i64 t231) := (blk_cell BK234.out 6).trans rfl
          have hcz25_7 : w14.cell? ⟨gb234, 7, none⟩ = some (.bool t232) := (blk_cell BK234.out 7).trans rfl
          have hfz25_0 := blk_frozen BK234.out 0
          have hfz25_1 := blk_frozen BK234.out 1
          have hfz25_2 := blk_frozen BK234.out 2
          have hfz25_3 := blk_frozen BK234.out 3
          have hfz25_4 := blk_frozen BK234.out 4
          have hfz25_5 := blk_frozen BK234.out 5
          have hfz25_6 := blk_frozen BK234.out 6
          have hfz25_7 := blk_frozen BK234.out 7
          go_wp2_with (first | (go_at_call 12; (with_reducible refine (preset_Check.calls k t221 t222 t223 t224 _ _ t225 _ _ t228 t231 t232 t249 _ ?side1 ?side2 ?side3 ?side4 A21.out).mono ?_); (case side1 => refine (Kd.V_reads' (e := 3) (base := w.heap.size) (ok := fun k_ => ((True ∧ k_ ≠ gb234) ∧ k_ ≠ gb248)) (n := t225.length) (c := co11) ?_).2.2; exact (by (with_reducible repeat (first | apply Kd.V_alloc | apply Kd.V_drewN | apply Kd.V_drew)); exact (Kd.V_mono (Kd.V_far (p := ⟨gb248, 7, none⟩) (Kd.V_far (p := ⟨gb248, 6, none⟩) (Kd.V_far (p := ⟨gb248, 5, none⟩) (Kd.V_far (p := ⟨gb248, 4, none⟩) (Kd.V_far (p := ⟨gb248, 3, none⟩) (Kd.V_far (p := ⟨gb248, 2, none⟩) (Kd.V_far (p := ⟨gb248, 1, none⟩) (Kd.V_far (p := ⟨gb248, 0, none⟩) (Kd.V_mono HO227.out (fun k_ hk => (⟨hk, hk.2⟩ : _ ∧ k_ ≠ gb248))) (fun _ hk => hk.2) (.int .i64 t235)) (fun _ hk => hk.2) (.bool t236)) (fun _ hk => hk.2) (.int .i64 t237)) (fun _ hk => hk.2) (.int .i64 t238)) (fun _ hk => hk.2) (.slice Ao17 t239.length co17)) (fun _ hk => hk.2) (.slice Ao18 t242.length co18)) (fun _ hk => hk.2) (.int .i64 t245)) (fun _ hk => hk.2) (.bool t246)) (fun _ h_ => h_.1)))); (case side2 => exact (Kd.V_reads' HO227.out).2.1); (case side3 => refine (Kd.V_reads' (e := 3) (base := w.heap.size) (ok := fun k_ => ((True ∧ k_ ≠ gb234) ∧ k_ ≠ gb248)) (n := t228.length) (c := co12) ?_).2.2; exact (by (with_reducible repeat (first | apply Kd.V_alloc | apply Kd.V_drewN | apply Kd.V_drew)); exact (Kd.V_mono (Kd.V_far (p := ⟨gb248, 7, none⟩) (Kd.V_far (p := ⟨gb248, 6, none⟩) (Kd.V_far (p := ⟨gb248, 5, none⟩) (Kd.V_far (p := ⟨gb248, 4, none⟩) (Kd.V_far (p := ⟨gb248, 3, none⟩) (Kd.V_far (p := ⟨gb248, 2, none⟩) (Kd.V_far (p := ⟨gb248, 1, none⟩) (Kd.V_far (p := ⟨gb248, 0, none⟩) (Kd.V_mono HO230.out (fun k_ hk => (⟨hk, hk.2⟩ : _ ∧ k_ ≠ gb248))) (fun _ hk => hk.2) (.int .i64 t235)) (fun _ hk => hk.2) (.bool t236)) (fun _ hk => hk.2) (.int .i64 t237)) (fun _ hk => hk.2) (.int .i64 t238)) (fun _ hk => hk.2) (.slice Ao17 t239.length co17)) (fun _ hk => hk.2) (.slice Ao18 t242.length co18)) (fun _ hk => hk.2) (.int .i64 t245)) (fun _ hk => hk.2) (.bool t246)) (fun _ h_ => h_.1)))); (case side4 => exact (Kd.V_reads' HO230.out).2.1); rintro e w26 ⟨rfl, hb⟩; have n0_ := Aside0.mk (Kd.V_below (by (with_reducible repeat (first | apply Kd.V_alloc | apply Kd.V_drewN | apply Kd.V_drew)); exact (Kd.V_mono (Kd.V_far (p := ⟨gb248, 7, none⟩) (Kd.V_far (p := ⟨gb248, 6, none⟩) (Kd.V_far (p := ⟨gb248, 5, none⟩) (Kd.V_far (p := ⟨gb248, 4, none⟩) (Kd.V_far (p := ⟨gb248, 3, none⟩) (Kd.V_far (p := ⟨gb248, 2, none⟩) (Kd.V_far (p := ⟨gb248, 1, none⟩) (Kd.V_far (p := ⟨gb248, 0, none⟩) (Kd.V_mono HO227.out (fun k_ hk => (⟨hk, hk.2⟩ : _ ∧ k_ ≠ gb248))) (fun _ hk => hk.2) (.int .i64 t235)) (fun _ hk => hk.2) (.bool t236)) (fun _ hk => hk.2) (.int .i64 t237)) (fun _ hk => hk.2) (.int .i64 t238)) (fun _ hk => hk.2) (.slice Ao17 t239.length co17)) (fun _ hk => hk.2) (.slice Ao18 t242.length co18)) (fun _ hk => hk.2) (.int .i64 t245)) (fun _ hk => hk.2) (.bool t246)) (fun _ h_ => h_.1))) hb); have n1_ := Aside0.mk (Kd.V_below (by (with_reducible repeat (first | apply Kd.V_alloc | apply Kd.V_drewN | apply Kd.V_drew)); exact (Kd.V_mono (Kd.V_far (p := ⟨gb248, 7, none⟩) (Kd.V_far (p := ⟨gb248, 6, none⟩) (Kd.V_far (p := ⟨gb248, 5, none⟩) (Kd.V_far (p := ⟨gb248, 4, none⟩) (Kd.V_far (p := ⟨gb248, 3, none⟩) (Kd.V_far (p := ⟨gb248, 2, none⟩) (Kd.V_far (p := ⟨gb248, 1, none⟩) (Kd.V_far (p := ⟨gb248, 0, none⟩) (Kd.V_mono HO230.out (fun k_ hk => (⟨hk, hk.2⟩ : _ ∧ k_ ≠ gb248))) (fun _ hk => hk.2) (.int .i64 t235)) (fun _ hk => hk.2) (.bool t236)) (fun _ hk => hk.2) (.int .i64 t237)) (fun _ hk => hk.2) (.int .i64 t238)) (fun _ hk => hk.2) (.slice Ao17 t239.length co17)) (fun _ hk => hk.2) (.slice Ao18 t242.length co18)) (fun _ hk => hk.2) (.int .i64 t245)) (fun _ hk => hk.2) (.bool t246)) (fun _ h_ => h_.1))) hb); have n2_ := Aside0.mk (Kd.V_below (by (with_reducible repeat (first | apply Kd.V_alloc | apply Kd.V_drewN | apply Kd.V_drew)); exact (Kd.V_mono (Kd.V_far (p := ⟨gb248, 7, none⟩) (Kd.V_far (p := ⟨gb248, 6, none⟩) (Kd.V_far (p := ⟨gb248, 5, none⟩) (Kd.V_far (p := ⟨gb248, 4, none⟩) (Kd.V_far (p := ⟨gb248, 3, none⟩) (Kd.V_far (p := ⟨gb248, 2, none⟩) (Kd.V_far (p := ⟨gb248, 1, none⟩) (Kd.V_far (p := ⟨gb248, 0, none⟩) (Kd.V_mono HO241.out (fun k_ hk => (⟨hk, hk.2⟩ : _ ∧ k_ ≠ gb248))) (fun _ hk => hk.2) (.int .i64 t235)) (fun _ hk => hk.2) (.bool t236)) (fun _ hk => hk.2) (.int .i64 t237)) (fun _ hk => hk.2) (.int .i64 t238)) (fun _ hk => hk.2) (.slice Ao17 t239.length co17)) (fun _ hk => hk.2) (.slice Ao18 t242.length co18)) (fun _ hk => hk.2) (.int .i64 t245)) (fun _ hk => hk.2) (.bool t246)) (fun _ h_ => h_.1))) hb); have n3_ := Aside0.mk (Kd.V_below (by (with_reducible repeat (first | apply Kd.V_alloc | apply Kd.V_drewN | apply Kd.V_drew)); exact (Kd.V_mono (Kd.V_far (p := ⟨gb248, 7, none⟩) (Kd.V_far (p := ⟨gb248, 6, none⟩) (Kd.V_far (p := ⟨gb248, 5, none⟩) (Kd.V_far (p := ⟨gb248, 4, none⟩) (Kd.V_far (p := ⟨gb248, 3, none⟩) (Kd.V_far (p := ⟨gb248, 2, none⟩) (Kd.V_far (p := ⟨gb248, 1, none⟩) (Kd.V_far (p := ⟨gb248, 0, none⟩) (Kd.V_mono HO244.out (fun k_ hk => (⟨hk, hk.2⟩ : _ ∧ k_ ≠ gb248))) (fun _ hk => hk.2) (.int .i64 t235)) (fun _ hk => hk.2) (.bool t236)) (fun _ hk => hk.2) (.int .i64 t237)) (fun _ hk => hk.2) (.int .i64 t238)) (fun _ hk => hk.2) (.slice Ao17 t239.length co17)) (fun _ hk => hk.2) (.slice Ao18 t242.length co18)) (fun _ hk => hk.2) (.int .i64 t245)) (fun _ hk => hk.2) (.bool t246)) (fun _ h_ => h_.1))) hb); have n4_ := Aside0.mk (blk_below (g := gb234) (o := .cells #[.int .i64 t221, .bool t222, .int .i64 t223, .int .i64 t224, .slice Ao11 t225.length co11, .slice Ao12 t228.length co12, .int .i64 t231, .bool t232] 24 (0, 0)) (by (with_reducible repeat (first | refine blk_drewN ?_ _ | refine blk_drew ?_ | refine blk_alloc ?_ _)); refine blk_far ?_ NB234_248.out _; (with_reducible repeat (first | refine blk_drewN ?_ _ | refine blk_drew ?_ | refine blk_alloc ?_ _)); refine blk_far ?_ NB234_248.out _; (with_reducible repeat (first | refine blk_drewN ?_ _ | refine blk_drew ?_ | refine blk_alloc ?_ _)); refine blk_far ?_ NB234_248.out _; (with_reducible repeat (first | refine blk_drewN ?_ _ | refine blk_drew ?_ | refine blk_alloc ?_ _)); refine blk_far ?_ NB234_248.out _; (with_reducible repeat (first | refine blk_drewN ?_ _ | refine blk_drew ?_ | refine blk_alloc ?_ _)); refine blk_far ?_ NB234_248.out _; (with_reducible repeat (first | refine blk_drewN ?_ _ | refine blk_drew ?_ | refine blk_alloc ?_ _)); refine blk_far ?_ NB234_248.out _; (with_reducible repeat (first | refine blk_drewN ?_ _ | refine blk_drew ?_ | refine blk_alloc ?_ _)); refine blk_far ?_ NB234_248.out _; (with_reducible repeat (first | refine blk_drewN ?_ _ | refine blk_drew ?_ | refine blk_alloc ?_ _)); refine blk_far ?_ NB234_248.out _; (with_reducible repeat (first | refine blk_drewN ?_ _ | refine blk_drew ?_ | refine blk_alloc ?_ _)); exact BK234.out) hb); have n5_ := Aside0.mk (blk_below (g := gb248) (o := .cells #[.int .i64 t235, .bool t236, .int .i64 t237, .int .i64 t238, .slice Ao17 t239.length co17, .slice Ao18 t242.length co18, .int .i64 t245, .bool t246] 24 (0, 0)) (by (with_reducible repeat (first | refine blk_drewN ?_ _ | refine blk_drew ?_ | refine blk_alloc ?_ _)); refine blk_put (cs := #[.int .i64 t235, .bool t236, .int .i64 t237, .int .i64 t238, .slice Ao17 t239.length co17, .slice Ao18 t242.length co18, .int .i64 t245, .bool false]) ?_ 7 _ rfl; (with_reducible repeat (first | refine blk_drewN ?_ _ | refine blk_drew ?_ | refine blk_alloc ?_ _)); refine blk_put (cs := #[.int .i64 t235, .bool t236, .int .i64 t237, .int .i64 t238, .slice Ao17 t239.length co17, .slice Ao18 t242.length co18, .int .i64 0, .bool false]) ?_ 6 _ rfl; (with_reducible repeat (first | refine blk_drewN ?_ _ | refine blk_drew ?_ | refine blk_alloc ?_ _)); refine blk_put (cs := #[.int .i64 t235, .bool t236, .int .i64 t237, .int .i64 t238, .slice Ao17 t239.length co17, .slice none 0 0, .int .i64 0, .bool false]) ?_ 5 _ rfl; (with_reducible repeat (first | refine blk_drewN ?_ _ | refine blk_drew ?_ | refine blk_alloc ?_ _)); refine blk_put (cs := #[.int .i64 t235, .bool t236, .int .i64 t237, .int .i64 t238, .slice none 0 0, .slice none 0 0, .int .i64 0, .bool false]) ?_ 4 _ rfl; (with_reducible repeat (first | refine blk_drewN ?_ _ | refine blk_drew ?_ | refine blk_alloc ?_ _)); refine blk_put (cs := #[.int .i64 t235, .bool t236, .int .i64 t237, .int .i64 0, .slice none 0 0, .slice none 0 0, .int .i64 0, .bool false]) ?_ 3 _ rfl; (with_reducible repeat (first | refine blk_drewN ?_ _ | refine blk_drew ?_ | refine blk_alloc ?_ _)); refine blk_put (cs := #[.int .i64 t235, .bool t236, .int .i64 0, .int .i64 0, .slice none 0 0, .slice none 0 0, .int .i64 0, .bool false]) ?_ 2 _ rfl; (with_reducible repeat (first | refine blk_drewN ?_ _ | refine blk_drew ?_ | refine blk_alloc ?_ _)); refine blk_put (cs := #[.int .i64 t235, .bool false, .int .i64 0, .int .i64 0, .slice none 0 0, .slice none 0 0, .int .i64 0, .bool false]) ?_ 1 _ rfl; (with_reducible repeat (first | refine blk_drewN ?_ _ | refine blk_drew ?_ | refine blk_alloc ?_ _)); refine blk_put (cs := #[.int .i64 0, .bool false, .int .i64 0, .int .i64 0, .slice none 0 0, .slice none 0 0, .int .i64 0, .bool false]) ?_ 0 _ rfl; (with_reducible repeat (first | refine blk_drewN ?_ _ | refine blk_drew ?_ | refine blk_alloc ?_ _)); exact BK248.out) hb); have n6_ := Aside0.mk (below_step (by repeat (first | (with_reducible first | exact HB.out | apply below_alloc | apply pw_below_drewN | apply below_drew1 | refine below_set ?_ GE234.out | refine below_set ?_ GE248.out) | exact HB.out)) hb); clear HO227; clear HO230; clear HO241; clear HO244; clear BK234; clear BK248; clear HB; have HO227 := n0_; have HO230 := n1_; have HO241 := n2_; have HO244 := n3_; have BK234 := n4_; have BK248 := n5_; have HB := n6_; clear n0_ n1_ n2_ n3_ n4_ n5_ n6_; (try clear hb); (try clear hb2); (try clear hk); (try clear hi); have hcz27_0 : w26.cell? ⟨gb234, 0, none⟩ = some (.int .i64 t221) := (blk_cell BK234.out 0).trans rfl; have hcz27_1 : w26.cell? ⟨gb234, 1, none⟩ = some (.bool t222) := (blk_cell BK234.out 1).trans rfl; have hcz27_2 : w26.cell? ⟨gb234, 2, none⟩ = some (.int .i64 t223) := (blk_cell BK234.out 2).trans rfl; have hcz27_3 : w26.cell? ⟨gb234, 3, none⟩ = some (.int .i64 t224) := (blk_cell BK234.out 3).trans rfl; have hcz27_4 : w26.cell? ⟨gb234, 4, none⟩ = some (.slice Ao11 t225.length co11) := (blk_cell BK234.out 4).trans rfl; have hcz27_5 : w26.cell? ⟨gb234, 5, none⟩ = some (.slice Ao12 t228.length co12) := (blk_cell BK234.out 5).trans rfl; have hcz27_6 : w26.cell? ⟨gb234, 6, none⟩ = some (.int .i64 t231) := (blk_cell BK234.out 6).trans rfl; have hcz27_7 : w26.cell? ⟨gb234, 7, none⟩ = some (.bool t232) := (blk_cell BK234.out 7).trans rfl; have hfz27_0 := blk_frozen BK234.out 0; have hfz27_1 := blk_frozen BK234.out 1; have hfz27_2 := blk_frozen BK234.out 2; have hfz27_3 := blk_frozen BK234.out 3; have hfz27_4 := blk_frozen BK234.out 4; have hfz27_5 := blk_frozen BK234.out 5; have hfz27_6 := blk_frozen BK234.out 6; have hfz27_7 := blk_frozen BK234.out 7) | (go_at_call 16; (with_reducible refine (preset_Count.calls t221 t222 t223 t224 _ _ t225 _ _ t228 t231 t232 (wrap64 (1 + (wrap64 (Int.tmod a1 60)))) t250 _ ?side1 ?side2 ?side3 ?side4 A23.out).mono ?_); (case side1 => repeat (first | exact (Kd.V_reads' HO227.out).2.2 | (with_reducible refine Kd.C_alloc ?_ _) | (with_reducible refine Kd.C_drewN ?_ _) | (with_reducible refine Kd.C_drew ?_))); (case side2 => exact (Kd.V_reads' HO227.out).2.1); (case side3 => repeat (first | exact (Kd.V_reads' HO230.out).2.2 | (with_reducible refine Kd.C_alloc ?_ _) | (with_reducible refine Kd.C_drewN ?_ _) | (with_reducible refine Kd.C_drew ?_))); (case side4 => exact (Kd.V_reads' HO230.out).2.1); rintro e w28 ⟨rfl, hb⟩; have n0_ := Aside0.mk (Kd.V_below (by (with_reducible repeat (first | apply Kd.V_alloc | apply Kd.V_drewN | apply Kd.V_drew)); exact HO227.out) hb); have n1_ := Aside0.mk (Kd.V_below (by (with_reducible repeat (first | apply Kd.V_alloc | apply Kd.V_drewN | apply Kd.V_drew)); exact HO230.out) hb); have n2_ := Aside0.mk (Kd.V_below (by (with_reducible repeat (first | apply Kd.V_alloc | apply Kd.V_drewN | apply Kd.V_drew)); exact HO241.out) hb); have n3_ := Aside0.mk (Kd.V_below (by (with_reducible repeat (first | apply Kd.V_alloc | apply Kd.V_drewN | apply Kd.V_drew)); exact HO244.out) hb); have n4_ := Aside0.mk (blk_below (g := gb234) (o := .cells #[.int .i64 t221, .bool t222, .int .i64 t223, .int .i64 t224, .slice Ao11 t225.length co11, .slice Ao12 t228.length co12, .int .i64 t231, .bool t232] 24 (0, 0)) (by (with_reducible repeat (first | refine blk_drewN ?_ _ | refine blk_drew ?_ | refine blk_alloc ?_ _)); exact BK234.out) hb); have n5_ := Aside0.mk (blk_below (g := gb248) (o := .cells #[.int .i64 t235, .bool t236, .int .i64 t237, .int .i64 t238, .slice Ao17 t239.length co17, .slice Ao18 t242.length co18, .int .i64 t245, .bool t246] 24 (0, 0)) (by (with_reducible repeat (first | refine blk_drewN ?_ _ | refine blk_drew ?_ | refine blk_alloc ?_ _)); exact BK248.out) hb); have n6_ := Aside0.mk (below_step (by repeat (first | (with_reducible first | exact HB.out | apply below_alloc | apply pw_below_drewN | apply below_drew1 | refine below_set ?_ GE234.out | refine below_set ?_ GE248.out) | exact HB.out)) hb); clear HO227; clear HO230; clear HO241; clear HO244; clear BK234; clear BK248; clear HB; have HO227 := n0_; have HO230 := n1_; have HO241 := n2_; have HO244 := n3_; have BK234 := n4_; have BK248 := n5_; have HB := n6_; clear n0_ n1_ n2_ n3_ n4_ n5_ n6_; (try clear hb); (try clear hb2); (try clear hk); (try clear hi)))
          go_meet
          case rel => exact ⟨_, (decide (t250 < 3)), (by first | rfl | (simp; done) | (simp [*]; done)), H', ⟨by first | omega | exact Nat.le_refl _⟩, ⟨by (with_reducible repeat (first | apply Kd.V_alloc | apply Kd.V_drewN | apply Kd.V_drew)); exact Kd.V_mono HO227.out (fun _ hk => ⟨hk.1.2, hk.2⟩)⟩, ⟨by (with_reducible repeat (first | apply Kd.V_alloc | apply Kd.V_drewN | apply Kd.V_drew)); exact Kd.V_mono HO230.out (fun _ hk => ⟨hk.1.2, hk.2⟩)⟩, ⟨by (with_reducible repeat (first | apply Kd.V_alloc | apply Kd.V_drewN | apply Kd.V_drew)); exact HO241.out⟩, ⟨by (with_reducible repeat (first | apply Kd.V_alloc | apply Kd.V_drewN | apply Kd.V_drew)); exact HO244.out⟩, ⟨by (with_reducible repeat (first | refine blk_drewN ?_ _ | refine blk_drew ?_ | refine blk_alloc ?_ _)); exact BK234.out⟩, ⟨by (with_reducible repeat (first | refine blk_drewN ?_ _ | refine blk_drew ?_ | refine blk_alloc ?_ _)); exact BK248.out⟩, ⟨by repeat (first | (with_reducible first | exact HB.out | apply below_alloc | apply pw_below_drewN | apply below_drew1 | refine below_set ?_ GE234.out | refine below_set ?_ GE248.out) | exact HB.out)⟩⟩
        · rw [if_neg c22] at H
          have c22b0 : (t249 == 0) = false := beq_eq_false_iff_ne.mpr c22
          have c22b1 : (t249 != 0) = true := bne_iff_ne.mpr c22
          have H' := Aside0.mk H
          clear H
          have hnb29 := NB234_248.out
          have hnc29 := NB248_234.out
          have hcz30_0 : w14.cell? ⟨gb234, 0, none⟩ = some (.int .i64 t221) := (blk_cell BK234.out 0).trans rfl
          have hcz30_1 : w14.cell? ⟨gb234, 1, none⟩ = some (.bool t222) := (blk_cell BK234.out 1).trans rfl
          have hcz30_2 : w14.cell? ⟨gb234, 2, none⟩ = some (.int .i64 t223) := (blk_cell BK234.out 2).trans rfl
          have hcz30_3 : w14.cell? ⟨gb234, 3, none⟩ = some (.int .i64 t224) := (blk_cell BK234.out 3).trans rfl
          have hcz30_4 : w14.cell? ⟨gb234, 4, none⟩ = some (.slice Ao11 t225.length co11) := (blk_cell BK234.out 4).trans rfl
          have hcz30_5 : w14.cell? ⟨gb234, 5, none⟩ = some (.slice Ao12 t228.length co12) := (blk_cell BK234.out 5).trans rfl
          have hcz30_6 : w14.cell? ⟨gb234, 6, none⟩ = some (.int .i64 t231) := (blk_cell BK234.out 6).trans rfl
          have hcz30_7 : w14.cell? ⟨gb234, 7, none⟩ = some (.bool t232) := (blk_cell BK234.out 7).trans rfl
          have hfz30_0 := blk_frozen BK234.out 0
          have hfz30_1 := blk_frozen BK234.out 1
          have hfz30_2 := blk_frozen BK234.out 2
          have hfz30_3 := blk_frozen BK234.out 3
          have hfz30_4 := blk_frozen BK234.out 4
          have hfz30_5 := blk_frozen BK234.out 5
          have hfz30_6 := blk_frozen BK234.out 6
          have hfz30_7 := blk_frozen BK234.out 7
          go_wp2_with (first | (go_at_call 12; (with_reducible refine (preset_Check.calls k t221 t222 t223 t224 _ _ t225 _ _ t228 t231 t232 t249 _ ?side1 ?side2 ?side3 ?side4 A21.out).mono ?_); (case side1 => refine (Kd.V_reads' (e := 3) (base := w.heap.size) (ok := fun k_ => ((True ∧ k_ ≠ gb234) ∧ k_ ≠ gb248)) (n := t225.length) (c := co11) ?_).2.2; exact (by (with_reducible repeat (first | apply Kd.V_alloc | apply Kd.V_drewN | apply Kd.V_drew)); exact (Kd.V_mono (Kd.V_far (p := ⟨gb248, 7, none⟩) (Kd.V_far (p := ⟨gb248, 6, none⟩) (Kd.V_far (p := ⟨gb248, 5, none⟩) (Kd.V_far (p := ⟨gb248, 4, none⟩) (Kd.V_far (p := ⟨gb248, 3, none⟩) (Kd.V_far (p := ⟨gb248, 2, none⟩) (Kd.V_far (p := ⟨gb248, 1, none⟩) (Kd.V_far (p := ⟨gb248, 0, none⟩) (Kd.V_mono HO227.out (fun k_ hk => (⟨hk, hk.2⟩ : _ ∧ k_ ≠ gb248))) (fun _ hk => hk.2) (.int .i64 t235)) (fun _ hk => hk.2) (.bool t236)) (fun _ hk => hk.2) (.int .i64 t237)) (fun _ hk => hk.2) (.int .i64 t238)) (fun _ hk => hk.2) (.slice Ao17 t239.length co17)) (fun _ hk => hk.2) (.slice Ao18 t242.length co18)) (fun _ hk => hk.2) (.int .i64 t245)) (fun _ hk => hk.2) (.bool t246)) (fun _ h_ => h_.1)))); (case side2 => exact (Kd.V_reads' HO227.out).2.1); (case side3 => refine (Kd.V_reads' (e := 3) (base := w.heap.size) (ok := fun k_ => ((True ∧ k_ ≠ gb234) ∧ k_ ≠ gb248)) (n := t228.length) (c := co12) ?_).2.2; exact (by (with_reducible repeat (first | apply Kd.V_alloc | apply Kd.V_drewN | apply Kd.V_drew)); exact (Kd.V_mono (Kd.V_far (p := ⟨gb248, 7, none⟩) (Kd.V_far (p := ⟨gb248, 6, none⟩) (Kd.V_far (p := ⟨gb248, 5, none⟩) (Kd.V_far (p := ⟨gb248, 4, none⟩) (Kd.V_far (p := ⟨gb248, 3, none⟩) (Kd.V_far (p := ⟨gb248, 2, none⟩) (Kd.V_far (p := ⟨gb248, 1, none⟩) (Kd.V_far (p := ⟨gb248, 0, none⟩) (Kd.V_mono HO230.out (fun k_ hk => (⟨hk, hk.2⟩ : _ ∧ k_ ≠ gb248))) (fun _ hk => hk.2) (.int .i64 t235)) (fun _ hk => hk.2) (.bool t236)) (fun _ hk => hk.2) (.int .i64 t237)) (fun _ hk => hk.2) (.int .i64 t238)) (fun _ hk => hk.2) (.slice Ao17 t239.length co17)) (fun _ hk => hk.2) (.slice Ao18 t242.length co18)) (fun _ hk => hk.2) (.int .i64 t245)) (fun _ hk => hk.2) (.bool t246)) (fun _ h_ => h_.1)))); (case side4 => exact (Kd.V_reads' HO230.out).2.1); rintro e w31 ⟨rfl, hb⟩; have n0_ := Aside0.mk (Kd.V_below (by (with_reducible repeat (first | apply Kd.V_alloc | apply Kd.V_drewN | apply Kd.V_drew)); exact (Kd.V_mono (Kd.V_far (p := ⟨gb248, 7, none⟩) (Kd.V_far (p := ⟨gb248, 6, none⟩) (Kd.V_far (p := ⟨gb248, 5, none⟩) (Kd.V_far (p := ⟨gb248, 4, none⟩) (Kd.V_far (p := ⟨gb248, 3, none⟩) (Kd.V_far (p := ⟨gb248, 2, none⟩) (Kd.V_far (p := ⟨gb248, 1, none⟩) (Kd.V_far (p := ⟨gb248, 0, none⟩) (Kd.V_mono HO227.out (fun k_ hk => (⟨hk, hk.2⟩ : _ ∧ k_ ≠ gb248))) (fun _ hk => hk.2) (.int .i64 t235)) (fun _ hk => hk.2) (.bool t236)) (fun _ hk => hk.2) (.int .i64 t237)) (fun _ hk => hk.2) (.int .i64 t238)) (fun _ hk => hk.2) (.slice Ao17 t239.length co17)) (fun _ hk => hk.2) (.slice Ao18 t242.length co18)) (fun _ hk => hk.2) (.int .i64 t245)) (fun _ hk => hk.2) (.bool t246)) (fun _ h_ => h_.1))) hb); have n1_ := Aside0.mk (Kd.V_below (by (with_reducible repeat (first | apply Kd.V_alloc | apply Kd.V_drewN | apply Kd.V_drew)); exact (Kd.V_mono (Kd.V_far (p := ⟨gb248, 7, none⟩) (Kd.V_far (p := ⟨gb248, 6, none⟩) (Kd.V_far (p := ⟨gb248, 5, none⟩) (Kd.V_far (p := ⟨gb248, 4, none⟩) (Kd.V_far (p := ⟨gb248, 3, none⟩) (Kd.V_far (p := ⟨gb248, 2, none⟩) (Kd.V_far (p := ⟨gb248, 1, none⟩) (Kd.V_far (p := ⟨gb248, 0, none⟩) (Kd.V_mono HO230.out (fun k_ hk => (⟨hk, hk.2⟩ : _ ∧ k_ ≠ gb248))) (fun _ hk => hk.2) (.int .i64 t235)) (fun _ hk => hk.2) (.bool t236)) (fun _ hk => hk.2) (.int .i64 t237)) (fun _ hk => hk.2) (.int .i64 t238)) (fun _ hk => hk.2) (.slice Ao17 t239.length co17)) (fun _ hk => hk.2) (.slice Ao18 t242.length co18)) (fun _ hk => hk.2) (.int .i64 t245)) (fun _ hk => hk.2) (.bool t246)) (fun _ h_ => h_.1))) hb); have n2_ := Aside0.mk (Kd.V_below (by (with_reducible repeat (first | apply Kd.V_alloc | apply Kd.V_drewN | apply Kd.V_drew)); exact (Kd.V_mono (Kd.V_far (p := ⟨gb248, 7, none⟩) (Kd.V_far (p := ⟨gb248, 6, none⟩) (Kd.V_far (p := ⟨gb248, 5, none⟩) (Kd.V_far (p := ⟨gb248, 4, none⟩) (Kd.V_far (p := ⟨gb248, 3, none⟩) (Kd.V_far (p := ⟨gb248, 2, none⟩) (Kd.V_far (p := ⟨gb248, 1, none⟩) (Kd.V_far (p := ⟨gb248, 0, none⟩) (Kd.V_mono HO241.out (fun k_ hk => (⟨hk, hk.2⟩ : _ ∧ k_ ≠ gb248))) (fun _ hk => hk.2) (.int .i64 t235)) (fun _ hk => hk.2) (.bool t236)) (fun _ hk => hk.2) (.int .i64 t237)) (fun _ hk => hk.2) (.int .i64 t238)) (fun _ hk => hk.2) (.slice Ao17 t239.length co17)) (fun _ hk => hk.2) (.slice Ao18 t242.length co18)) (fun _ hk => hk.2) (.int .i64 t245)) (fun _ hk => hk.2) (.bool t246)) (fun _ h_ => h_.1))) hb); have n3_ := Aside0.mk (Kd.V_below (by (with_reducible repeat (first | apply Kd.V_alloc | apply Kd.V_drewN | apply Kd.V_drew)); exact (Kd.V_mono (Kd.V_far (p := ⟨gb248, 7, none⟩) (Kd.V_far (p := ⟨gb248, 6, none⟩) (Kd.V_far (p := ⟨gb248, 5, none⟩) (Kd.V_far (p := ⟨gb248, 4, none⟩) (Kd.V_far (p := ⟨gb248, 3, none⟩) (Kd.V_far (p := ⟨gb248, 2, none⟩) (Kd.V_far (p := ⟨gb248, 1, none⟩) (Kd.V_far (p := ⟨gb248, 0, none⟩) (Kd.V_mono HO244.out (fun k_ hk => (⟨hk, hk.2⟩ : _ ∧ k_ ≠ gb248))) (fun _ hk => hk.2) (.int .i64 t235)) (fun _ hk => hk.2) (.bool t236)) (fun _ hk => hk.2) (.int .i64 t237)) (fun _ hk => hk.2) (.int .i64 t238)) (fun _ hk => hk.2) (.slice Ao17 t239.length co17)) (fun _ hk => hk.2) (.slice Ao18 t242.length co18)) (fun _ hk => hk.2) (.int .i64 t245)) (fun _ hk => hk.2) (.bool t246)) (fun _ h_ => h_.1))) hb); have n4_ := Aside0.mk (blk_below (g := gb234) (o := .cells #[.int .i64 t221, .bool t222, .int .i64 t223, .int .i64 t224, .slice Ao11 t225.length co11, .slice Ao12 t228.length co12, .int .i64 t231, .bool t232] 24 (0, 0)) (by (with_reducible repeat (first | refine blk_drewN ?_ _ | refine blk_drew ?_ | refine blk_alloc ?_ _)); refine blk_far ?_ NB234_248.out _; (with_reducible repeat (first | refine blk_drewN ?_ _ | refine blk_drew ?_ | refine blk_alloc ?_ _)); refine blk_far ?_ NB234_248.out _; (with_reducible repeat (first | refine blk_drewN ?_ _ | refine blk_drew ?_ | refine blk_alloc ?_ _)); refine blk_far ?_ NB234_248.out _; (with_reducible repeat (first | refine blk_drewN ?_ _ | refine blk_drew ?_ | refine blk_alloc ?_ _)); refine blk_far ?_ NB234_248.out _; (with_reducible repeat (first | refine blk_drewN ?_ _ | refine blk_drew ?_ | refine blk_alloc ?_ _)); refine blk_far ?_ NB234_248.out _; (with_reducible repeat (first | refine blk_drewN ?_ _ | refine blk_drew ?_ | refine blk_alloc ?_ _)); refine blk_far ?_ NB234_248.out _; (with_reducible repeat (first | refine blk_drewN ?_ _ | refine blk_drew ?_ | refine blk_alloc ?_ _)); refine blk_far ?_ NB234_248.out _; (with_reducible repeat (first | refine blk_drewN ?_ _ | refine blk_drew ?_ | refine blk_alloc ?_ _)); refine blk_far ?_ NB234_248.out _; (with_reducible repeat (first | refine blk_drewN ?_ _ | refine blk_drew ?_ | refine blk_alloc ?_ _)); exact BK234.out) hb); have n5_ := Aside0.mk (blk_below (g := gb248) (o := .cells #[.int .i64 t235, .bool t236, .int .i64 t237, .int .i64 t238, .slice Ao17 t239.length co17, .slice Ao18 t242.length co18, .int .i64 t245, .bool t246] 24 (0, 0)) (by (with_reducible repeat (first | refine blk_drewN ?_ _ | refine blk_drew ?_ | refine blk_alloc ?_ _)); refine blk_put (cs := #[.int .i64 t235, .bool t236, .int .i64 t237, .int .i64 t238, .slice Ao17 t239.length co17, .slice Ao18 t242.length co18, .int .i64 t245, .bool false]) ?_ 7 _ rfl; (with_reducible repeat (first | refine blk_drewN ?_ _ | refine blk_drew ?_ | refine blk_alloc ?_ _)); refine blk_put (cs := #[.int .i64 t235, .bool t236, .int .i64 t237, .int .i64 t238, .slice Ao17 t239.length co17, .slice Ao18 t242.length co18, .int .i64 0, .bool false]) ?_ 6 _ rfl; (with_reducible repeat (first | refine blk_drewN ?_ _ | refine blk_drew ?_ | refine blk_alloc ?_ _)); refine blk_put (cs := #[.int .i64 t235, .bool t236, .int .i64 t237, .int .i64 t238, .slice Ao17 t239.length co17, .slice none 0 0, .int .i64 0, .bool false]) ?_ 5 _ rfl; (with_reducible repeat (first | refine blk_drewN ?_ _ | refine blk_drew ?_ | refine blk_alloc ?_ _)); refine blk_put (cs := #[.int .i64 t235, .bool t236, .int .i64 t237, .int .i64 t238, .slice none 0 0, .slice none 0 0, .int .i64 0, .bool false]) ?_ 4 _ rfl; (with_reducible repeat (first | refine blk_drewN ?_ _ | refine blk_drew ?_ | refine blk_alloc ?_ _)); refine blk_put (cs := #[.int .i64 t235, .bool t236, .int .i64 t237, .int .i64 0, .slice none 0 0, .slice none 0 0, .int .i64 0, .bool false]) ?_ 3 _ rfl; (with_reducible repeat (first | refine blk_drewN ?_ _ | refine blk_drew ?_ | refine blk_alloc ?_ _)); refine blk_put (cs := #[.int .i64 t235, .bool t236, .int .i64 0, .int .i64 0, .slice none 0 0, .slice none 0 0, .int .i64 0, .bool false]) ?_ 2 _ rfl; (with_reducible repeat (first | refine blk_drewN ?_ _ | refine blk_drew ?_ | refine blk_alloc ?_ _)); refine blk_put (cs := #[.int .i64 t235, .bool false, .int .i64 0, .int .i64 0, .slice none 0 0, .slice none 0 0, .int .i64 0, .bool false]) ?_ 1 _ rfl; (with_reducible repeat (first | refine blk_drewN ?_ _ | refine blk_drew ?_ | refine blk_alloc ?_ _)); refine blk_put (cs := #[.int .i64 0, .bool false, .int .i64 0, .int .i64 0, .slice none 0 0, .slice none 0 0, .int .i64 0, .bool false]) ?_ 0 _ rfl; (with_reducible repeat (first | refine blk_drewN ?_ _ | refine blk_drew ?_ | refine blk_alloc ?_ _)); exact BK248.out) hb); have n6_ := Aside0.mk (below_step (by repeat (first | (with_reducible first | exact HB.out | apply below_alloc | apply pw_below_drewN | apply below_drew1 | refine below_set ?_ GE234.out | refine below_set ?_ GE248.out) | exact HB.out)) hb); clear HO227; clear HO230; clear HO241; clear HO244; clear BK234; clear BK248; clear HB; have HO227 := n0_; have HO230 := n1_; have HO241 := n2_; have HO244 := n3_; have BK234 := n4_; have BK248 := n5_; have HB := n6_; clear n0_ n1_ n2_ n3_ n4_ n5_ n6_; (try clear hb); (try clear hb2); (try clear hk); (try clear hi)))
          go_meet
          case rel => exact ⟨_, (true), (by first | rfl | (simp; done) | (simp [*]; done)), H', ⟨by first | omega | exact Nat.le_refl _⟩, ⟨by (with_reducible repeat (first | apply Kd.V_alloc | apply Kd.V_drewN | apply Kd.V_drew)); exact Kd.V_mono HO227.out (fun _ hk => ⟨hk.1.2, hk.2⟩)⟩, ⟨by (with_reducible repeat (first | apply Kd.V_alloc | apply Kd.V_drewN | apply Kd.V_drew)); exact Kd.V_mono HO230.out (fun _ hk => ⟨hk.1.2, hk.2⟩)⟩, ⟨by (with_reducible repeat (first | apply Kd.V_alloc | apply Kd.V_drewN | apply Kd.V_drew)); exact HO241.out⟩, ⟨by (with_reducible repeat (first | apply Kd.V_alloc | apply Kd.V_drewN | apply Kd.V_drew)); exact HO244.out⟩, ⟨by (with_reducible repeat (first | refine blk_drewN ?_ _ | refine blk_drew ?_ | refine blk_alloc ?_ _)); exact BK234.out⟩, ⟨by (with_reducible repeat (first | refine blk_drewN ?_ _ | refine blk_drew ?_ | refine blk_alloc ?_ _)); exact BK248.out⟩, ⟨by repeat (first | (with_reducible first | exact HB.out | apply below_alloc | apply pw_below_drewN | apply below_drew1 | refine below_set ?_ GE234.out | refine below_set ?_ GE248.out) | exact HB.out)⟩⟩
      · rw [if_neg c20] at H
        have c20b0 : (t247 == 0) = false := beq_eq_false_iff_ne.mpr c20
        have c20b1 : (t247 != 0) = true := bne_iff_ne.mpr c20
        have H' := Aside0.mk H
        clear H
        go_wp2
        go_meet
        case rel => exact ⟨_, (true), (by first | rfl | (simp; done) | (simp [*]; done)), H', ⟨by first | omega | exact Nat.le_refl _⟩, ⟨by (with_reducible repeat (first | apply Kd.V_alloc | apply Kd.V_drewN | apply Kd.V_drew)); exact Kd.V_mono (Kd.V_far (p := ⟨gb248, 7, none⟩) (Kd.V_far (p := ⟨gb248, 6, none⟩) (Kd.V_far (p := ⟨gb248, 5, none⟩) (Kd.V_far (p := ⟨gb248, 4, none⟩) (Kd.V_far (p := ⟨gb248, 3, none⟩) (Kd.V_far (p := ⟨gb248, 2, none⟩) (Kd.V_far (p := ⟨gb248, 1, none⟩) (Kd.V_far (p := ⟨gb248, 0, none⟩) (Kd.V_mono HO227.out (fun k_ hk => (⟨hk, hk.2⟩ : _ ∧ k_ ≠ gb248))) (fun _ hk => hk.2) (.int .i64 t235)) (fun _ hk => hk.2) (.bool t236)) (fun _ hk => hk.2) (.int .i64 t237)) (fun _ hk => hk.2) (.int .i64 t238)) (fun _ hk => hk.2) (.slice Ao17 t239.length co17)) (fun _ hk => hk.2) (.slice Ao18 t242.length co18)) (fun _ hk => hk.2) (.int .i64 t245)) (fun _ hk => hk.2) (.bool t246)) (fun _ hk => ⟨hk.1.1.2, hk.1.2⟩)⟩, ⟨by (with_reducible repeat (first | apply Kd.V_alloc | apply Kd.V_drewN | apply Kd.V_drew)); exact Kd.V_mono (Kd.V_far (p := ⟨gb248, 7, none⟩) (Kd.V_far (p := ⟨gb248, 6, none⟩) (Kd.V_far (p := ⟨gb248, 5, none⟩) (Kd.V_far (p := ⟨gb248, 4, none⟩) (Kd.V_far (p := ⟨gb248, 3, none⟩) (Kd.V_far (p := ⟨gb248, 2, none⟩) (Kd.V_far (p := ⟨gb248, 1, none⟩) (Kd.V_far (p := ⟨gb248, 0, none⟩) (Kd.V_mono HO230.out (fun k_ hk => (⟨hk, hk.2⟩ : _ ∧ k_ ≠ gb248))) (fun _ hk => hk.2) (.int .i64 t235)) (fun _ hk => hk.2) (.bool t236)) (fun _ hk => hk.2) (.int .i64 t237)) (fun _ hk => hk.2) (.int .i64 t238)) (fun _ hk => hk.2) (.slice Ao17 t239.length co17)) (fun _ hk => hk.2) (.slice Ao18 t242.length co18)) (fun _ hk => hk.2) (.int .i64 t245)) (fun _ hk => hk.2) (.bool t246)) (fun _ hk => ⟨hk.1.1.2, hk.1.2⟩)⟩, ⟨by (with_reducible repeat (first | apply Kd.V_alloc | apply Kd.V_drewN | apply Kd.V_drew)); exact Kd.V_mono (Kd.V_far (p := ⟨gb248, 7, none⟩) (Kd.V_far (p := ⟨gb248, 6, none⟩) (Kd.V_far (p := ⟨gb248, 5, none⟩) (Kd.V_far (p := ⟨gb248, 4, none⟩) (Kd.V_far (p := ⟨gb248, 3, none⟩) (Kd.V_far (p := ⟨gb248, 2, none⟩) (Kd.V_far (p := ⟨gb248, 1, none⟩) (Kd.V_far (p := ⟨gb248, 0, none⟩) (Kd.V_mono HO241.out (fun k_ hk => (⟨hk, hk.2⟩ : _ ∧ k_ ≠ gb248))) (fun _ hk => hk.2) (.int .i64 t235)) (fun _ hk => hk.2) (.bool t236)) (fun _ hk => hk.2) (.int .i64 t237)) (fun _ hk => hk.2) (.int .i64 t238)) (fun _ hk => hk.2) (.slice Ao17 t239.length co17)) (fun _ hk => hk.2) (.slice Ao18 t242.length co18)) (fun _ hk => hk.2) (.int .i64 t245)) (fun _ hk => hk.2) (.bool t246)) (fun _ hk => ⟨hk.1.1, hk.1.2⟩)⟩, ⟨by (with_reducible repeat (first | apply Kd.V_alloc | apply Kd.V_drewN | apply Kd.V_drew)); exact Kd.V_mono (Kd.V_far (p := ⟨gb248, 7, none⟩) (Kd.V_far (p := ⟨gb248, 6, none⟩) (Kd.V_far (p := ⟨gb248, 5, none⟩) (Kd.V_far (p := ⟨gb248, 4, none⟩) (Kd.V_far (p := ⟨gb248, 3, none⟩) (Kd.V_far (p := ⟨gb248, 2, none⟩) (Kd.V_far (p := ⟨gb248, 1, none⟩) (Kd.V_far (p := ⟨gb248, 0, none⟩) (Kd.V_mono HO244.out (fun k_ hk => (⟨hk, hk.2⟩ : _ ∧ k_ ≠ gb248))) (fun _ hk => hk.2) (.int .i64 t235)) (fun _ hk => hk.2) (.bool t236)) (fun _ hk => hk.2) (.int .i64 t237)) (fun _ hk => hk.2) (.int .i64 t238)) (fun _ hk => hk.2) (.slice Ao17 t239.length co17)) (fun _ hk => hk.2) (.slice Ao18 t242.length co18)) (fun _ hk => hk.2) (.int .i64 t245)) (fun _ hk => hk.2) (.bool t246)) (fun _ hk => ⟨hk.1.1, hk.1.2⟩)⟩, ⟨by (with_reducible repeat (first | refine blk_drewN ?_ _ | refine blk_drew ?_ | refine blk_alloc ?_ _)); refine blk_far ?_ NB234_248.out _; (with_reducible repeat (first | refine blk_drewN ?_ _ | refine blk_drew ?_ | refine blk_alloc ?_ _)); refine blk_far ?_ NB234_248.out _; (with_reducible repeat (first | refine blk_drewN ?_ _ | refine blk_drew ?_ | refine blk_alloc ?_ _)); refine blk_far ?_ NB234_248.out _; (with_reducible repeat (first | refine blk_drewN ?_ _ | refine blk_drew ?_ | refine blk_alloc ?_ _)); refine blk_far ?_ NB234_248.out _; (with_reducible repeat (first | refine blk_drewN ?_ _ | refine blk_drew ?_ | refine blk_alloc ?_ _)); refine blk_far ?_ NB234_248.out _; (with_reducible repeat (first | refine blk_drewN ?_ _ | refine blk_drew ?_ | refine blk_alloc ?_ _)); refine blk_far ?_ NB234_248.out _; (with_reducible repeat (first | refine blk_drewN ?_ _ | refine blk_drew ?_ | refine blk_alloc ?_ _)); refine blk_far ?_ NB234_248.out _; (with_reducible repeat (first | refine blk_drewN ?_ _ | refine blk_drew ?_ | refine blk_alloc ?_ _)); refine blk_far ?_ NB234_248.out _; (with_reducible repeat (first | refine blk_drewN ?_ _ | refine blk_drew ?_ | refine blk_alloc ?_ _)); exact BK234.out⟩, ⟨by (with_reducible repeat (first | refine blk_drewN ?_ _ | refine blk_drew ?_ | refine blk_alloc ?_ _)); refine blk_put (cs := #[.int .i64 t235, .bool t236, .int .i64 t237, .int .i64 t238, .slice Ao17 t239.length co17, .slice Ao18 t242.length co18, .int .i64 t245, .bool false]) ?_ 7 _ rfl; (with_reducible repeat (first | refine blk_drewN ?_ _ | refine blk_drew ?_ | refine blk_alloc ?_ _)); refine blk_put (cs := #[.int .i64 t235, .bool t236, .int .i64 t237, .int .i64 t238, .slice Ao17 t239.length co17, .slice Ao18 t242.length co18, .int .i64 0, .bool false]) ?_ 6 _ rfl; (with_reducible repeat (first | refine blk_drewN ?_ _ | refine blk_drew ?_ | refine blk_alloc ?_ _)); refine blk_put (cs := #[.int .i64 t235, .bool t236, .int .i64 t237, .int .i64 t238, .slice Ao17 t239.length co17, .slice none 0 0, .int .i64 0, .bool false]) ?_ 5 _ rfl; (with_reducible repeat (first | refine blk_drewN ?_ _ | refine blk_drew ?_ | refine blk_alloc ?_ _)); refine blk_put (cs := #[.int .i64 t235, .bool t236, .int .i64 t237, .int .i64 t238, .slice none 0 0, .slice none 0 0, .int .i64 0, .bool false]) ?_ 4 _ rfl; (with_reducible repeat (first | refine blk_drewN ?_ _ | refine blk_drew ?_ | refine blk_alloc ?_ _)); refine blk_put (cs := #[.int .i64 t235, .bool t236, .int .i64 t237, .int .i64 0, .slice none 0 0, .slice none 0 0, .int .i64 0, .bool false]) ?_ 3 _ rfl; (with_reducible repeat (first | refine blk_drewN ?_ _ | refine blk_drew ?_ | refine blk_alloc ?_ _)); refine blk_put (cs := #[.int .i64 t235, .bool t236, .int .i64 0, .int .i64 0, .slice none 0 0, .slice none 0 0, .int .i64 0, .bool false]) ?_ 2 _ rfl; (with_reducible repeat (first | refine blk_drewN ?_ _ | refine blk_drew ?_ | refine blk_alloc ?_ _)); refine blk_put (cs := #[.int .i64 t235, .bool false, .int .i64 0, .int .i64 0, .slice none 0 0, .slice none 0 0, .int .i64 0, .bool false]) ?_ 1 _ rfl; (with_reducible repeat (first | refine blk_drewN ?_ _ | refine blk_drew ?_ | refine blk_alloc ?_ _)); refine blk_put (cs := #[.int .i64 0, .bool false, .int .i64 0, .int .i64 0, .slice none 0 0, .slice none 0 0, .int .i64 0, .bool false]) ?_ 0 _ rfl; (with_reducible repeat (first | refine blk_drewN ?_ _ | refine blk_drew ?_ | refine blk_alloc ?_ _)); exact BK248.out⟩, ⟨by repeat (first | (with_reducible first | exact HB.out | apply below_alloc | apply pw_below_drewN | apply below_drew1 | refine below_set ?_ GE234.out | refine below_set ?_ GE248.out) | exact HB.out)⟩⟩
    · rw [if_neg c19] at H
      have c19b0 : (t233 == 0) = false := beq_eq_false_iff_ne.mpr c19
      have c19b1 : (t233 != 0) = true := bne_iff_ne.mpr c19
      (first | rw [c19b0] | (simp only [i64_w, i32_w]; rw [c19b0]) | skip)
      have H' := Aside0.mk H
      clear H
      go_wp2
      go_meet
      case rel => exact ⟨_, (true), (by first | rfl | (simp; done) | (simp [*]; done)), H', ⟨by first | omega | exact Nat.le_refl _⟩, ⟨by (with_reducible repeat (first | apply Kd.V_alloc | apply Kd.V_drewN | apply Kd.V_drew)); exact Kd.V_mono (Kd.V_far (p := ⟨gb248, 7, none⟩) (Kd.V_far (p := ⟨gb248, 6, none⟩) (Kd.V_far (p := ⟨gb248, 5, none⟩) (Kd.V_far (p := ⟨gb248, 4, none⟩) (Kd.V_far (p := ⟨gb248, 3, none⟩) (Kd.V_far (p := ⟨gb248, 2, none⟩) (Kd.V_far (p := ⟨gb248, 1, none⟩) (Kd.V_far (p := ⟨gb248, 0, none⟩) (Kd.V_mono HO227.out (fun k_ hk => (⟨hk, hk.2⟩ : _ ∧ k_ ≠ gb248))) (fun _ hk => hk.2) (.int .i64 t235)) (fun _ hk => hk.2) (.bool t236)) (fun _ hk => hk.2) (.int .i64 t237)) (fun _ hk => hk.2) (.int .i64 t238)) (fun _ hk => hk.2) (.slice Ao17 t239.length co17)) (fun _ hk => hk.2) (.slice Ao18 t242.length co18)) (fun _ hk => hk.2) (.int .i64 t245)) (fun _ hk => hk.2) (.bool t246)) (fun _ hk => ⟨hk.1.1.2, hk.1.2⟩)⟩, ⟨by (with_reducible repeat (first | apply Kd.V_alloc | apply Kd.V_drewN | apply Kd.V_drew)); exact Kd.V_mono (Kd.V_far (p := ⟨gb248, 7, none⟩) (Kd.V_far (p := ⟨gb248, 6, none⟩) (Kd.V_far (p := ⟨gb248, 5, none⟩) (Kd.V_far (p := ⟨gb248, 4, none⟩) (Kd.V_far (p := ⟨gb248, 3, none⟩) (Kd.V_far (p := ⟨gb248, 2, none⟩) (Kd.V_far (p := ⟨gb248, 1, none⟩) (Kd.V_far (p := ⟨gb248, 0, none⟩) (Kd.V_mono HO230.out (fun k_ hk => (⟨hk, hk.2⟩ : _ ∧ k_ ≠ gb248))) (fun _ hk => hk.2) (.int .i64 t235)) (fun _ hk => hk.2) (.bool t236)) (fun _ hk => hk.2) (.int .i64 t237)) (fun _ hk => hk.2) (.int .i64 t238)) (fun _ hk => hk.2) (.slice Ao17 t239.length co17)) (fun _ hk => hk.2) (.slice Ao18 t242.length co18)) (fun _ hk => hk.2) (.int .i64 t245)) (fun _ hk => hk.2) (.bool t246)) (fun _ hk => ⟨hk.1.1.2, hk.1.2⟩)⟩, ⟨by (with_reducible repeat (first | apply Kd.V_alloc | apply Kd.V_drewN | apply Kd.V_drew)); exact Kd.V_mono (Kd.V_far (p := ⟨gb248, 7, none⟩) (Kd.V_far (p := ⟨gb248, 6, none⟩) (Kd.V_far (p := ⟨gb248, 5, none⟩) (Kd.V_far (p := ⟨gb248, 4, none⟩) (Kd.V_far (p := ⟨gb248, 3, none⟩) (Kd.V_far (p := ⟨gb248, 2, none⟩) (Kd.V_far (p := ⟨gb248, 1, none⟩) (Kd.V_far (p := ⟨gb248, 0, none⟩) (Kd.V_mono HO241.out (fun k_ hk => (⟨hk, hk.2⟩ : _ ∧ k_ ≠ gb248))) (fun _ hk => hk.2) (.int .i64 t235)) (fun _ hk => hk.2) (.bool t236)) (fun _ hk => hk.2) (.int .i64 t237)) (fun _ hk => hk.2) (.int .i64 t238)) (fun _ hk => hk.2) (.slice Ao17 t239.length co17)) (fun _ hk => hk.2) (.slice Ao18 t242.length co18)) (fun _ hk => hk.2) (.int .i64 t245)) (fun _ hk => hk.2) (.bool t246)) (fun _ hk => ⟨hk.1.1, hk.1.2⟩)⟩, ⟨by (with_reducible repeat (first | apply Kd.V_alloc | apply Kd.V_drewN | apply Kd.V_drew)); exact Kd.V_mono (Kd.V_far (p := ⟨gb248, 7, none⟩) (Kd.V_far (p := ⟨gb248, 6, none⟩) (Kd.V_far (p := ⟨gb248, 5, none⟩) (Kd.V_far (p := ⟨gb248, 4, none⟩) (Kd.V_far (p := ⟨gb248, 3, none⟩) (Kd.V_far (p := ⟨gb248, 2, none⟩) (Kd.V_far (p := ⟨gb248, 1, none⟩) (Kd.V_far (p := ⟨gb248, 0, none⟩) (Kd.V_mono HO244.out (fun k_ hk => (⟨hk, hk.2⟩ : _ ∧ k_ ≠ gb248))) (fun _ hk => hk.2) (.int .i64 t235)) (fun _ hk => hk.2) (.bool t236)) (fun _ hk => hk.2) (.int .i64 t237)) (fun _ hk => hk.2) (.int .i64 t238)) (fun _ hk => hk.2) (.slice Ao17 t239.length co17)) (fun _ hk => hk.2) (.slice Ao18 t242.length co18)) (fun _ hk => hk.2) (.int .i64 t245)) (fun _ hk => hk.2) (.bool t246)) (fun _ hk => ⟨hk.1.1, hk.1.2⟩)⟩, ⟨by (with_reducible repeat (first | refine blk_drewN ?_ _ | refine blk_drew ?_ | refine blk_alloc ?_ _)); refine blk_far ?_ NB234_248.out _; (with_reducible repeat (first | refine blk_drewN ?_ _ | refine blk_drew ?_ | refine blk_alloc ?_ _)); refine blk_far ?_ NB234_248.out _; (with_reducible repeat (first | refine blk_drewN ?_ _ | refine blk_drew ?_ | refine blk_alloc ?_ _)); refine blk_far ?_ NB234_248.out _; (with_reducible repeat (first | refine blk_drewN ?_ _ | refine blk_drew ?_ | refine blk_alloc ?_ _)); refine blk_far ?_ NB234_248.out _; (with_reducible repeat (first | refine blk_drewN ?_ _ | refine blk_drew ?_ | refine blk_alloc ?_ _)); refine blk_far ?_ NB234_248.out _; (with_reducible repeat (first | refine blk_drewN ?_ _ | refine blk_drew ?_ | refine blk_alloc ?_ _)); refine blk_far ?_ NB234_248.out _; (with_reducible repeat (first | refine blk_drewN ?_ _ | refine blk_drew ?_ | refine blk_alloc ?_ _)); refine blk_far ?_ NB234_248.out _; (with_reducible repeat (first | refine blk_drewN ?_ _ | refine blk_drew ?_ | refine blk_alloc ?_ _)); refine blk_far ?_ NB234_248.out _; (with_reducible repeat (first | refine blk_drewN ?_ _ | refine blk_drew ?_ | refine blk_alloc ?_ _)); exact BK234.out⟩, ⟨by (with_reducible repeat (first | refine blk_drewN ?_ _ | refine blk_drew ?_ | refine blk_alloc ?_ _)); refine blk_put (cs := #[.int .i64 t235, .bool t236, .int .i64 t237, .int .i64 t238, .slice Ao17 t239.length co17, .slice Ao18 t242.length co18, .int .i64 t245, .bool false]) ?_ 7 _ rfl; (with_reducible repeat (first | refine blk_drewN ?_ _ | refine blk_drew ?_ | refine blk_alloc ?_ _)); refine blk_put (cs := #[.int .i64 t235, .bool t236, .int .i64 t237, .int .i64 t238, .slice Ao17 t239.length co17, .slice Ao18 t242.length co18, .int .i64 0, .bool false]) ?_ 6 _ rfl; (with_reducible repeat (first | refine blk_drewN ?_ _ | refine blk_drew ?_ | refine blk_alloc ?_ _)); refine blk_put (cs := #[.int .i64 t235, .bool t236, .int .i64 t237, .int .i64 t238, .slice Ao17 t239.length co17, .slice none 0 0, .int .i64 0, .bool false]) ?_ 5 _ rfl; (with_reducible repeat (first | refine blk_drewN ?_ _ | refine blk_drew ?_ | refine blk_alloc ?_ _)); refine blk_put (cs := #[.int .i64 t235, .bool t236, .int .i64 t237, .int .i64 t238, .slice none 0 0, .slice none 0 0, .int .i64 0, .bool false]) ?_ 4 _ rfl; (with_reducible repeat (first | refine blk_drewN ?_ _ | refine blk_drew ?_ | refine blk_alloc ?_ _)); refine blk_put (cs := #[.int .i64 t235, .bool t236, .int .i64 t237, .int .i64 0, .slice none 0 0, .slice none 0 0, .int .i64 0, .bool false]) ?_ 3 _ rfl; (with_reducible repeat (first | refine blk_drewN ?_ _ | refine blk_drew ?_ | refine blk_alloc ?_ _)); refine blk_put (cs := #[.int .i64 t235, .bool t236, .int .i64 0, .int .i64 0, .slice none 0 0, .slice none 0 0, .int .i64 0, .bool false]) ?_ 2 _ rfl; (with_reducible repeat (first | refine blk_drewN ?_ _ | refine blk_drew ?_ | refine blk_alloc ?_ _)); refine blk_put (cs := #[.int .i64 t235, .bool false, .int .i64 0, .int .i64 0, .slice none 0 0, .slice none 0 0, .int .i64 0, .bool false]) ?_ 1 _ rfl; (with_reducible repeat (first | refine blk_drewN ?_ _ | refine blk_drew ?_ | refine blk_alloc ?_ _)); refine blk_put (cs := #[.int .i64 0, .bool false, .int .i64 0, .int .i64 0, .slice none 0 0, .slice none 0 0, .int .i64 0, .bool false]) ?_ 0 _ rfl; (with_reducible repeat (first | refine blk_drewN ?_ _ | refine blk_drew ?_ | refine blk_alloc ?_ _)); exact BK248.out⟩, ⟨by repeat (first | (with_reducible first | exact HB.out | apply below_alloc | apply pw_below_drewN | apply below_drew1 | refine below_set ?_ GE234.out | refine below_set ?_ GE248.out) | exact HB.out)⟩⟩
  case rest =>
    clear HC6
    try clear c1
    try clear c2
    try clear p2
    try clear p6
    try clear c7
    try clear c8
    try clear c9
    try clear c15
    try clear c19
    try clear c19b0
    try clear c19b1
    try clear c20
    try clear c20b0
    try clear c20b1
    try clear c22
    try clear c22b0
    try clear c22b1
    try clear c24
    try clear c29
    try clear hcz10_0
    try clear hcz10_1
    try clear hcz10_2
    try clear hcz10_3
    try clear hcz10_4
    try clear hcz10_5
    try clear hcz10_6
    try clear hcz10_7
    try clear hcz16_0
    try clear hcz16_1
    try clear hcz16_2
    try clear hcz16_3
    try clear hcz16_4
    try clear hcz16_5
    try clear hcz16_6
    try clear hcz16_7
    try clear hcz25_0
    try clear hcz25_1
    try clear hcz25_2
    try clear hcz25_3
    try clear hcz25_4
    try clear hcz25_5
    try clear hcz25_6
    try clear hcz25_7
    try clear hcz27_0
    try clear hcz27_1
    try clear hcz27_2
    try clear hcz27_3
    try clear hcz27_4
    try clear hcz27_5
    try clear hcz27_6
    try clear hcz27_7
    try clear hcz30_0
    try clear hcz30_1
    try clear hcz30_2
    try clear hcz30_3
    try clear hcz30_4
    try clear hcz30_5
    try clear hcz30_6
    try clear hcz30_7
    try clear hfz10_0
    try clear hfz10_1
    try clear hfz10_2
    try clear hfz10_3
    try clear hfz10_4
    try clear hfz10_5
    try clear hfz10_6
    try clear hfz10_7
    try clear hfz16_0
    try clear hfz16_1
    try clear hfz16_2
    try clear hfz16_3
    try clear hfz16_4
    try clear hfz16_5
    try clear hfz16_6
    try clear hfz16_7
    try clear hfz25_0
    try clear hfz25_1
    try clear hfz25_2
    try clear hfz25_3
    try clear hfz25_4
    try clear hfz25_5
    try clear hfz25_6
    try clear hfz25_7
    try clear hfz27_0
    try clear hfz27_1
    try clear hfz27_2
    try clear hfz27_3
    try clear hfz27_4
    try clear hfz27_5
    try clear hfz27_6
    try clear hfz27_7
    try clear hfz30_0
    try clear hfz30_1
    try clear hfz30_2
    try clear hfz30_3
    try clear hfz30_4
    try clear hfz30_5
    try clear hfz30_6
    try clear hfz30_7
    obtain ⟨kq, x49_5, rfl, HA, HJ5, HO_235004, HO_235005, HO_249004, HO_249005, BK234, BK248, HB⟩ := hcut
    cases kq with
    | zero => exact absurd HA.out (by simp [serinettelaw19_PresetNine.j0])
    | succ kj5 =>
      have H := HA.out
      clear HA
      simp only [serinettelaw19_PresetNine.j0] at H
      by_cases c32 : x49_5 = true
      · subst c32
        have H1 : (some false) = some r := by rw [if_pos rfl] at H; exact H
        clear H
        have H := H1
        clear H1
        obtain rfl := Option.some.inj H
        go_wp2
        go_ret
        exact ⟨by first | rfl | (simp [errW_none, errW_some] <;> rfl) | (simp [*, errW_none, errW_some] <;> rfl), by repeat (first | (with_reducible first | exact HB.out | apply below_alloc | apply pw_below_drewN | apply below_drew1 | refine below_set ?_ GE234.out | refine below_set ?_ GE248.out) | exact HB.out)⟩
      · replace c32 := Bool.eq_false_iff.mpr c32
        subst c32
        have H1 : ((preset_All.f kj5 t221 t222 t223 t224 t225 t228 t231 t232 (wrap64 (1 + (wrap64 (Int.tmod a1 60))))).bind fun t251 => (serinettelaw19_PresetNine.l0 kj5 a0 t220 (wrap64 (1 + (wrap64 (Int.tmod a1 60)))) t251 0 t235 t236 t237 t238 t239 t242 t245 t246)) = some r := by rw [if_neg (show ¬ (false = true) by decide)] at H; exact H
        clear H
        have H := H1
        clear H1
        replace H := Option.bind_eq_some_iff.mp H
        obtain ⟨t251, A330, H⟩ := H
        replace H : (serinettelaw19_PresetNine.l0 kj5 a0 t220 (wrap64 (1 + (wrap64 (Int.tmod a1 60)))) t251 0 t235 t236 t237 t238 t239 t242 t245 t246) = some r := H
        have A33 := Aside0.mk A330
        clear A330
        have H' := Aside0.mk H
        clear H
        have hnb34 := NB234_248.out
        have hnc34 := NB248_234.out
        have hcz35_0 : wc.cell? ⟨gb234, 0, none⟩ = some (.int .i64 t221) := (blk_cell BK234.out 0).trans rfl
        have hcz35_1 : wc.cell? ⟨gb234, 1, none⟩ = some (.bool t222) := (blk_cell BK234.out 1).trans rfl
        have hcz35_2 : wc.cell? ⟨gb234, 2, none⟩ = some (.int .i64 t223) := (blk_cell BK234.out 2).trans rfl
        have hcz35_3 : wc.cell? ⟨gb234, 3, none⟩ = some (.int .i64 t224) := (blk_cell BK234.out 3).trans rfl
        have hcz35_4 : wc.cell? ⟨gb234, 4, none⟩ = some (.slice Ao11 t225.length co11) := (blk_cell BK234.out 4).trans rfl
        have hcz35_5 : wc.cell? ⟨gb234, 5, none⟩ = some (.slice Ao12 t228.length co12) := (blk_cell BK234.out 5).trans rfl
        have hcz35_6 : wc.cell? ⟨gb234, 6, none⟩ = some (.int .i64 t231) := (blk_cell BK234.out 6).trans rfl
        have hcz35_7 : wc.cell? ⟨gb234, 7, none⟩ = some (.bool t232) := (blk_cell BK234.out 7).trans rfl
        have hfz35_0 := blk_frozen BK234.out 0
        have hfz35_1 := blk_frozen BK234.out 1
        have hfz35_2 := blk_frozen BK234.out 2
        have hfz35_3 := blk_frozen BK234.out 3
        have hfz35_4 := blk_frozen BK234.out 4
        have hfz35_5 := blk_frozen BK234.out 5
        have hfz35_6 := blk_frozen BK234.out 6
        have hfz35_7 := blk_frozen BK234.out 7
        go_wp2_with (first | ((with_reducible refine gate_callee (f := 14) rfl ?_); refine goesL_ (some 52) rfl rfl Tryd.func14 (by kernel_rfl) rfl #[.agg #[.int .i64 t221, .bool t222, .int .i64 t223, .int .i64 t224, .slice Ao11 t225.length co11, .slice Ao12 t228.length co12, .int .i64 t231, .bool t232], .int .i64 (wrap64 (1 + (wrap64 (Int.tmod a1 60))))] rfl (by (try simp only [List.map_toArray, List.map_cons, List.map_nil]); first | done | rfl | (simp only [List.length_drop, List.length_take]; rfl)) ?_; (with_reducible refine (preset_All.calls kj5 t221 t222 t223 t224 _ _ t225 _ _ t228 t231 t232 (wrap64 (1 + (wrap64 (Int.tmod a1 60)))) t251 _ ?side1 ?side2 ?side3 ?side4 A33.out).mono ?_); (case side1 => repeat (first | exact (Kd.V_reads' HO_235004.out).2.2 | (with_reducible refine Kd.C_alloc ?_ _) | (with_reducible refine Kd.C_drewN ?_ _) | (with_reducible refine Kd.C_drew ?_))); (case side2 => exact (Kd.V_reads' HO_235004.out).2.1); (case side3 => repeat (first | exact (Kd.V_reads' HO_235005.out).2.2 | (with_reducible refine Kd.C_alloc ?_ _) | (with_reducible refine Kd.C_drewN ?_ _) | (with_reducible refine Kd.C_drew ?_))); (case side4 => exact (Kd.V_reads' HO_235005.out).2.1); rintro e w36 ⟨v252, rfl, ho0, hb⟩; refine ⟨_, rfl, ?_⟩; have n0_ := Aside0.mk (Kd.V_elder' (by (with_reducible repeat (first | apply Kd.V_alloc | apply Kd.V_drewN | apply Kd.V_drew)); exact HO_235004.out) (Kd.R_base ho0) hb); have n1_ := Aside0.mk (Kd.V_elder' (by (with_reducible repeat (first | apply Kd.V_alloc | apply Kd.V_drewN | apply Kd.V_drew)); exact HO_235005.out) (Kd.R_base ho0) hb); have n2_ := Aside0.mk (Kd.V_elder' (by (with_reducible repeat (first | apply Kd.V_alloc | apply Kd.V_drewN | apply Kd.V_drew)); exact HO_249004.out) (Kd.R_base ho0) hb); have n3_ := Aside0.mk (Kd.V_elder' (by (with_reducible repeat (first | apply Kd.V_alloc | apply Kd.V_drewN | apply Kd.V_drew)); exact HO_249005.out) (Kd.R_base ho0) hb); have n4_ := Aside0.mk (Kd.R_lower ho0 (below_size (by repeat (first | (with_reducible first | exact HB.out | apply below_alloc | apply pw_below_drewN | apply below_drew1 | refine below_set ?_ GE234.out | refine below_set ?_ GE248.out) | exact HB.out)))); have n5_ := Aside0.mk (blk_below (g := gb234) (o := .cells #[.int .i64 t221, .bool t222, .int .i64 t223, .int .i64 t224, .slice Ao11 t225.length co11, .slice Ao12 t228.length co12, .int .i64 t231, .bool t232] 24 (0, 0)) (by (with_reducible repeat (first | refine blk_drewN ?_ _ | refine blk_drew ?_ | refine blk_alloc ?_ _)); exact BK234.out) hb); have n6_ := Aside0.mk (blk_below (g := gb248) (o := .cells #[.int .i64 t235, .bool t236, .int .i64 t237, .int .i64 t238, .slice Ao17 t239.length co17, .slice Ao18 t242.length co18, .int .i64 t245, .bool t246] 24 (0, 0)) (by (with_reducible repeat (first | refine blk_drewN ?_ _ | refine blk_drew ?_ | refine blk_alloc ?_ _)); exact BK248.out) hb); have n7_ := Aside0.mk (below_step (by repeat (first | (with_reducible first | exact HB.out | apply below_alloc | apply pw_below_drewN | apply below_drew1 | refine below_set ?_ GE234.out | refine below_set ?_ GE248.out) | exact HB.out)) hb); clear HO_235004; clear HO_235005; clear HO_249004; clear HO_249005; clear BK234; clear BK248; clear HB; have HO_235004 := n0_; have HO_235005 := n1_; have HO_249004 := n2_; have HO_249005 := n3_; have HO253 := n4_; have BK234 := n5_; have BK248 := n6_; have HB := n7_; clear n0_ n1_ n2_ n3_ n4_ n5_ n6_ n7_; (try clear hb); (try clear hb2); (try clear hk); (try clear hi); (try clear ho0)))
        go_loopg [12] kj5 (fun kq v12 w' => ∃ (x12_2 : Int), v12 = .int .i64 x12_2 ∧ Aside0 (serinettelaw19_PresetNine.l0 kq a0 t220 (wrap64 (1 + (wrap64 (Int.tmod a1 60)))) t251 x12_2 t235 t236 t237 t238 t239 t242 t245 t246 = some r) ∧ Aside0 (kq ≤ kj5) ∧ Aside0 (Kd.R k35 35 w' w.heap.size (fun _ => True) v252 t251) ∧ Aside0 (Kd.V (Kd.int .i64) 3 w' w.heap.size (fun k_ => some k_ ≠ (v252 : Value).ownBlock ∧ k_ ≠ gb234 ∧ k_ ≠ gb248) (.slice Ao11 t225.length co11) t225) ∧ Aside0 (Kd.V (Kd.int .i64) 3 w' w.heap.size (fun k_ => some k_ ≠ (v252 : Value).ownBlock ∧ k_ ≠ gb234 ∧ k_ ≠ gb248) (.slice Ao12 t228.length co12) t228) ∧ Aside0 (Kd.V (Kd.int .i64) 3 w' w.heap.size (fun k_ => some k_ ≠ (v252 : Value).ownBlock ∧ k_ ≠ gb234 ∧ k_ ≠ gb248) (.slice Ao17 t239.length co17) t239) ∧ Aside0 (Kd.V (Kd.int .i64) 3 w' w.heap.size (fun k_ => some k_ ≠ (v252 : Value).ownBlock ∧ k_ ≠ gb234 ∧ k_ ≠ gb248) (.slice Ao18 t242.length co18) t242) ∧ Aside0 (w'.heap[gb234]? = some (.cells #[.int .i64 t221, .bool t222, .int .i64 t223, .int .i64 t224, (.slice Ao11 t225.length co11), (.slice Ao12 t228.length co12), .int .i64 t231, .bool t232] 24 (0, 0))) ∧ Aside0 (w'.heap[gb248]? = some (.cells #[.int .i64 t235, .bool t236, .int .i64 t237, .int .i64 t238, (.slice Ao17 t239.length co17), (.slice Ao18 t242.length co18), .int .i64 t245, .bool t246] 24 (0, 0))) ∧ Aside0 (Below w.heap.size w w'))
        case atStart => exact ⟨(0), (by first | rfl | (simp; done) | (simp [*]; done)), H', ⟨Nat.le_refl _⟩, ⟨by (with_reducible repeat (first | apply Kd.R_alloc | apply Kd.R_drewN | apply Kd.R_drew)); exact HO253.out⟩, ⟨by (with_reducible repeat (first | apply Kd.V_alloc | apply Kd.V_drewN | apply Kd.V_drew)); exact Kd.V_mono HO_235004.out (fun _ hk => ⟨hk.2, ⟨hk.1.1, hk.1.2⟩⟩)⟩, ⟨by (with_reducible repeat (first | apply Kd.V_alloc | apply Kd.V_drewN | apply Kd.V_drew)); exact Kd.V_mono HO_235005.out (fun _ hk => ⟨hk.2, ⟨hk.1.1, hk.1.2⟩⟩)⟩, ⟨by (with_reducible repeat (first | apply Kd.V_alloc | apply Kd.V_drewN | apply Kd.V_drew)); exact Kd.V_mono HO_249004.out (fun _ hk => ⟨hk.2, ⟨hk.1.1, hk.1.2⟩⟩)⟩, ⟨by (with_reducible repeat (first | apply Kd.V_alloc | apply Kd.V_drewN | apply Kd.V_drew)); exact Kd.V_mono HO_249005.out (fun _ hk => ⟨hk.2, ⟨hk.1.1, hk.1.2⟩⟩)⟩, ⟨by (with_reducible repeat (first | refine blk_drewN ?_ _ | refine blk_drew ?_ | refine blk_alloc ?_ _)); exact BK234.out⟩, ⟨by (with_reducible repeat (first | refine blk_drewN ?_ _ | refine blk_drew ?_ | refine blk_alloc ?_ _)); exact BK248.out⟩, ⟨by repeat (first | (with_reducible first | exact HB.out | apply below_alloc | apply pw_below_drewN | apply below_drew1 | refine below_set ?_ GE234.out | refine below_set ?_ GE248.out) | exact HB.out)⟩⟩
        case round =>
          clear H'
          try clear c1
          try clear c2
          try clear p2
          try clear c3
          try clear p6
          try clear c7
          try clear c8
          try clear c9
          try clear c14
          try clear c15
          try clear c19
          try clear c19b0
          try clear c19b1
          try clear c20
          try clear c20b0
          try clear c20b1
          try clear c22
          try clear c22b0
          try clear c22b1
          try clear c24
          try clear c29
          try clear c32
          try clear c34
          try clear hcz10_0
          try clear hcz10_1
          try clear hcz10_2
          try clear hcz10_3
          try clear hcz10_4
          try clear hcz10_5
          try clear hcz10_6
          try clear hcz10_7
          try clear hcz16_0
          try clear hcz16_1
          try clear hcz16_2
          try clear hcz16_3
          try clear hcz16_4
          try clear hcz16_5
          try clear hcz16_6
          try clear hcz16_7
          try clear hcz25_0
          try clear hcz25_1
          try clear hcz25_2
          try clear hcz25_3
          try clear hcz25_4
          try clear hcz25_5
          try clear hcz25_6
          try clear hcz25_7
          try clear hcz27_0
          try clear hcz27_1
          try clear hcz27_2
          try clear hcz27_3
          try clear hcz27_4
          try clear hcz27_5
          try clear hcz27_6
          try clear hcz27_7
          try clear hcz30_0
          try clear hcz30_1
          try clear hcz30_2
          try clear hcz30_3
          try clear hcz30_4
          try clear hcz30_5
          try clear hcz30_6
          try clear hcz30_7
          try clear hcz35_0
          try clear hcz35_1
          try clear hcz35_2
          try clear hcz35_3
          try clear hcz35_4
          try clear hcz35_5
          try clear hcz35_6
          try clear hcz35_7
          try clear hfz10_0
          try clear hfz10_1
          try clear hfz10_2
          try clear hfz10_3
          try clear hfz10_4
          try clear hfz10_5
          try clear hfz10_6
          try clear hfz10_7
          try clear hfz16_0
          try clear hfz16_1
          try clear hfz16_2
          try clear hfz16_3
          try clear hfz16_4
          try clear hfz16_5
          try clear hfz16_6
          try clear hfz16_7
          try clear hfz25_0
          try clear hfz25_1
          try clear hfz25_2
          try clear hfz25_3
          try clear hfz25_4
          try clear hfz25_5
          try clear hfz25_6
          try clear hfz25_7
          try clear hfz27_0
          try clear hfz27_1
          try clear hfz27_2
          try clear hfz27_3
          try clear hfz27_4
          try clear hfz27_5
          try clear hfz27_6
          try clear hfz27_7
          try clear hfz30_0
          try clear hfz30_1
          try clear hfz30_2
          try clear hfz30_3
          try clear hfz30_4
          try clear hfz30_5
          try clear hfz30_6
          try clear hfz30_7
          try clear hfz35_0
          try clear hfz35_1
          try clear hfz35_2
          try clear hfz35_3
          try clear hfz35_4
          try clear hfz35_5
          try clear hfz35_6
          try clear hfz35_7
          try clear p2
          try clear p6
          obtain ⟨x12_2, rfl, HA, HK2, HO_11, HO_235004, HO_235005, HO_249004, HO_249005, BK234, BK248, HB⟩ := hrel
          cases gk with
          | zero => exact absurd HA.out (by simp [serinettelaw19_PresetNine.l0])
          | succ k2 =>
            have H := HA.out
            clear HA
            simp only [serinettelaw19_PresetNine.l0] at H
            by_cases c37 : x12_2 < (t251.length : Int)
            · rw [if_pos c37] at H
              have c37b0 : decide (x12_2 < (t251.length : Int)) = true := decide_eq_true c37
              clear c37
              by_cases c38 : 0 ≤ x12_2
              · rw [if_pos c38] at H
                have c38b0 : decide (0 ≤ x12_2) = true := decide_eq_true c38
                clear c38
                replace H := Option.bind_eq_some_iff.mp H
                obtain ⟨⟨t255, t256⟩, A390, H⟩ := H
                replace H : (if t256 = true then (serinettelaw19_PresetNine.l0 k2 a0 t220 (wrap64 (1 + (wrap64 (Int.tmod a1 60)))) t251 (wrap64 (x12_2 + 1)) t235 t236 t237 t238 t239 t242 t245 t246) else (some false)) = some r := H
                have A39 := Aside0.mk A390
                clear A390
                by_cases c40 : t256 = true
                · subst c40
                  have H1 : (serinettelaw19_PresetNine.l0 k2 a0 t220 (wrap64 (1 + (wrap64 (Int.tmod a1 60)))) t251 (wrap64 (x12_2 + 1)) t235 t236 t237 t238 t239 t242 t245 t246) = some r := by rw [if_pos rfl] at H; exact H
                  clear H
                  have H := H1
                  clear H1
                  have H' := Aside0.mk H
                  clear H
                  obtain ⟨Ao41, co41, eo41⟩ := Kd.R_slice HO_11.out
                  subst eo41
                  try go_wp2
                  have n0_ := Aside0.mk (Kd.R_drew HO_11.out)
                  have n1_ := Aside0.mk (Kd.V_drew HO_235004.out)
                  have n2_ := Aside0.mk (Kd.V_drew HO_235005.out)
                  have n3_ := Aside0.mk (Kd.V_drew HO_249004.out)
                  have n4_ := Aside0.mk (Kd.V_drew HO_249005.out)
                  have n5_ := Aside0.mk (blk_drew BK234.out)
                  have n6_ := Aside0.mk (blk_drew BK248.out)
                  have n7_ := Aside0.mk (below_drew1 HB.out)
                  clear HO_11
                  clear HO_235004
                  clear HO_235005
                  clear HO_249004
                  clear HO_249005
                  clear BK234
                  clear BK248
                  clear HB
                  have HO_11 := n0_
                  have HO_235004 := n1_
                  have HO_235005 := n2_
                  have HO_249004 := n3_
                  have HO_249005 := n4_
                  have BK234 := n5_
                  have BK248 := n6_
                  have HB := n7_
                  clear n0_ n1_ n2_ n3_ n4_ n5_ n6_ n7_
                  have p254 : 0 ≤ (x12_2 : Int) := of_decide_eq_true (by first | (with_reducible assumption) | assumption)
                  have q254 : x12_2 < (t251.length : Int) := of_decide_eq_true (by first | (with_reducible assumption) | assumption)
                  obtain ⟨ad254, e254, hx254_0, hx254_1, hx254_2, hx254_3⟩ := at_T35 (Kd.R_reads' HO_11.out).2.2 x12_2 p254 q254
                  cases e254
                  replace p254 := eq_true p254
                  replace q254 := eq_true q254
                  refine start_ (n := 12) (S := fun w' => w'.cell? ⟨gb248, 0, none⟩ = some (.int .i64 t235) ∧ w'.cell? ⟨gb248, 1, none⟩ = some (.bool t236) ∧ w'.cell? ⟨gb248, 2, none⟩ = some (.int .i64 t237) ∧ w'.cell? ⟨gb248, 3, none⟩ = some (.int .i64 t238) ∧ w'.cell? ⟨gb248, 4, none⟩ = some (.slice Ao17 t239.length co17) ∧ w'.cell? ⟨gb248, 5, none⟩ = some (.slice Ao18 t242.length co18) ∧ w'.cell? ⟨gb248, 6, none⟩ = some (.int .i64 t245) ∧ w'.cell? ⟨gb248, 7, none⟩ = some (.bool t246) ∧ w'.cell? (ad254.add ((x12_2).toNat * 4)) = some (.int .i64 ((rd_T35 t251 x12_2).f0)) ∧ w'.cell? ⟨(ad254.add ((x12_2).toNat * 4)).block, (ad254.add ((x12_2).toNat * 4)).off + 1, none⟩ = some (.int .i64 ((rd_T35 t251 x12_2).f1)) ∧ w'.cell? ⟨(ad254.add ((x12_2).toNat * 4)).block, (ad254.add ((x12_2).toNat * 4)).off + 2, none⟩ = some (.int .i64 ((rd_T35 t251 x12_2).f2)) ∧ w'.cell? ⟨(ad254.add ((x12_2).toNat * 4)).block, (ad254.add ((x12_2).toNat * 4)).off + 3, none⟩ = some (.int .i64 ((rd_T35 t251 x12_2).f3))) (ds := []) #[false, false, false, false, false, false, false, false, false, false, false, false] (by kernel_rfl) rfl rfl ⟨(blk_cell BK248.out 0).trans rfl, (blk_cell BK248.out 1).trans rfl, (blk_cell BK248.out 2).trans rfl, (blk_cell BK248.out 3).trans rfl, (blk_cell BK248.out 4).trans rfl, (blk_cell BK248.out 5).trans rfl, (blk_cell BK248.out 6).trans rfl, (blk_cell BK248.out 7).trans rfl, hx254_0, hx254_1, hx254_2, hx254_3⟩ (fun hHeld => ?_); refine with_tabW serinettelaw19_PresetNine.tab11 serinettelaw19_PresetNine.bits11 (fun HT_ HW_ => ?_)
                  generalize wr.drew = w42 at HO_11 HO_235004 HO_235005 HO_249004 HO_249005 BK234 BK248 HB hx254_0 hx254_1 hx254_2 hx254_3 hHeld ⊢
                  refine pure_ (i := 1) (N := some 61) (v := ?_) (a' := ?_) #[false, true, false, false, false, false, false, false, false, false, false, false] rfl rfl (any_of HT_.out (by kernel_rfl)) (fun _ _ _ h => h) (Or.inl ⟨by rfl, ?_⟩) ?_ ?_
                  rotate_left
                  · intro w'
                    go_simp
                    with_reducible rfl
                  rotate_left
                  · simp only [Act.put, List.setIfInBounds_toArray, List.set_cons_zero, List.set_cons_succ, i64_w, i32_w]
                    rfl
                  refine pure_ (i := 2) (N := some 62) (v := ?_) (a' := ?_) #[false, true, true, false, false, false, false, false, false, false, false, false] rfl rfl (any_of HT_.out (by kernel_rfl)) (fun _ _ _ h => h) (Or.inl ⟨by rfl, ?_⟩) ?_ ?_
                  rotate_left
                  · intro w'
                    go_simp
                    with_reducible rfl
                  rotate_left
                  · simp only [Act.put, List.setIfInBounds_toArray, List.set_cons_zero, List.set_cons_succ, i64_w, i32_w]
                    rfl
                  refine pure_ (i := 3) (N := some 63) (v := ?_) (a' := ?_) #[false, true, true, true, false, false, false, false, false, false, false, false] rfl rfl (any_of HT_.out (by kernel_rfl)) (fun _ _ _ h => h) (Or.inl ⟨by rfl, ?_⟩) ?_ ?_
                  rotate_left
                  · intro w'
                    go_simp
                    with_reducible rfl
                  rotate_left
                  · simp only [Act.put, List.setIfInBounds_toArray, List.set_cons_zero, List.set_cons_succ, i64_w, i32_w]
                    rfl
                  refine pure_ (i := 4) (N := some 64) (v := ?_) (a' := ?_) #[false, true, true, true, true, false, false, false, false, false, false, false] rfl rfl (any_of HT_.out (by kernel_rfl)) (fun _ _ _ h => h) (Or.inl ⟨by rfl, ?_⟩) ?_ ?_
                  rotate_left
                  · intro w'
                    go_simp
                    with_reducible rfl
                  rotate_left
                  · simp only [Act.put, List.setIfInBounds_toArray, List.set_cons_zero, List.set_cons_succ, i64_w, i32_w]
                    rfl
                  refine take_ (i := 0) (N := some 60) (v := ?_) (a' := ?_) #[true, true, true, true, true, false, false, false, false, false, false, false] rfl rfl (take_ofW HT_.out HW_.out (by kernel_rfl)) (fun _ _ _ h => h) (Or.inl ⟨by rfl, ?_⟩) hHeld ?_ ?_
                  rotate_left
                  · rintro w' ⟨s0, s1, s2, s3, s4, s5, s6, s7, s8, s9, s10, s11⟩
                    go_simp
                    with_reducible rfl
                  rotate_left
                  · simp only [Act.put, List.setIfInBounds_toArray, List.set_cons_zero, List.set_cons_succ, i64_w, i32_w]
                    rfl
                  refine take_ (i := 5) (N := some 65) (v := ?_) (a' := ?_) #[true, true, true, true, true, true, false, false, false, false, false, false] rfl rfl (take_ofW HT_.out HW_.out (by kernel_rfl)) (fun _ _ _ h => h) (Or.inl ⟨by rfl, ?_⟩) hHeld ?_ ?_
                  rotate_left
                  · rintro w' ⟨s0, s1, s2, s3, s4, s5, s6, s7, s8, s9, s10, s11⟩
                    go_simp
                    with_reducible rfl
                  rotate_left
                  · simp only [Act.put, List.setIfInBounds_toArray, List.set_cons_zero, List.set_cons_succ, i64_w, i32_w]
                    rfl
                  refine one_ (i := 6) (N := some 66) #[true, true, true, true, true, true, true, false, false, false, false, false] rfl rfl (one_of HT_.out (by kernel_rfl)) (by decide) (fun K hK => ?_)
                  refine goes_ Tryd.func19 (by kernel_rfl) rfl #[.agg #[.int .i64 t235, .bool t236, .int .i64 t237, .int .i64 t238, .slice Ao17 t239.length co17, .slice Ao18 t242.length co18, .int .i64 t245, .bool t246], .int .i64 (wrap64 (1 + (wrap64 (Int.tmod a1 60)))), .agg #[.int .i64 ((rd_T35 t251 x12_2).f0), .int .i64 ((rd_T35 t251 x12_2).f1), .int .i64 ((rd_T35 t251 x12_2).f2), .int .i64 ((rd_T35 t251 x12_2).f3)]] (by rfl) rfl rfl (by (try simp only [List.map_toArray, List.map_cons, List.map_nil]); first | done | rfl | (simp only [List.length_drop, List.length_take]; rfl)) ?_
                  with_reducible refine (preset_Index.calls k2 t235 t236 t237 t238 _ _ t239 _ _ t242 t245 t246 (wrap64 (1 + (wrap64 (Int.tmod a1 60)))) ((rd_T35 t251 x12_2).f0) ((rd_T35 t251 x12_2).f1) ((rd_T35 t251 x12_2).f2) ((rd_T35 t251 x12_2).f3) t255 true _ ?side1 ?side2 ?side3 ?side4 A39.out).mono ?_
                  (case side1 => repeat (first | exact (Kd.V_reads' HO_249004.out).2.2 | (with_reducible refine Kd.C_alloc ?_ _) | (with_reducible refine Kd.C_drewN ?_ _) | (with_reducible refine Kd.C_drew ?_)))
                  (case side2 => exact (Kd.V_reads' HO_249004.out).2.1)
                  (case side3 => repeat (first | exact (Kd.V_reads' HO_249005.out).2.2 | (with_reducible refine Kd.C_alloc ?_ _) | (with_reducible refine Kd.C_drewN ?_ _) | (with_reducible refine Kd.C_drew ?_)))
                  (case side4 => exact (Kd.V_reads' HO_249005.out).2.1)
                  rintro e w43 ⟨rfl, hb⟩
                  have HS8_ := (hb.cell (World.block_lt_of_cell? _ _ (hHeld.2.2.2.2.2.2.2.2.1))).trans (hHeld.2.2.2.2.2.2.2.2.1)
                  have HS9_ := (hb.cell (World.block_lt_of_cell? _ _ (hHeld.2.2.2.2.2.2.2.2.2.1))).trans (hHeld.2.2.2.2.2.2.2.2.2.1)
                  have HS10_ := (hb.cell (World.block_lt_of_cell? _ _ (hHeld.2.2.2.2.2.2.2.2.2.2.1))).trans (hHeld.2.2.2.2.2.2.2.2.2.2.1)
                  have HS11_ := (hb.cell (World.block_lt_of_cell? _ _ (hHeld.2.2.2.2.2.2.2.2.2.2.2))).trans (hHeld.2.2.2.2.2.2.2.2.2.2.2)
                  refine ⟨_, rfl, ?_⟩
                  have n0_ := Aside0.mk (Kd.R_below (by (with_reducible repeat (first | apply Kd.R_alloc | apply Kd.R_drewN | apply Kd.R_drew)); exact HO_11.out) hb)
                  have n1_ := Aside0.mk (Kd.V_below (by (with_reducible repeat (first | apply Kd.V_alloc | apply Kd.V_drewN | apply Kd.V_drew)); exact HO_235004.out) hb)
                  have n2_ := Aside0.mk (Kd.V_below (by (with_reducible repeat (first | apply Kd.V_alloc | apply Kd.V_drewN | apply Kd.V_drew)); exact HO_235005.out) hb)
                  have n3_ := Aside0.mk (Kd.V_below (by (with_reducible repeat (first | apply Kd.V_alloc | apply Kd.V_drewN | apply Kd.V_drew)); exact HO_249004.out) hb)
                  have n4_ := Aside0.mk (Kd.V_below (by (with_reducible repeat (first | apply Kd.V_alloc | apply Kd.V_drewN | apply Kd.V_drew)); exact HO_249005.out) hb)
                  have n5_ := Aside0.mk (blk_below (g := gb234) (o := .cells #[.int .i64 t221, .bool t222, .int .i64 t223, .int .i64 t224, .slice Ao11 t225.length co11, .slice Ao12 t228.length co12, .int .i64 t231, .bool t232] 24 (0, 0)) (by (with_reducible repeat (first | refine blk_drewN ?_ _ | refine blk_drew ?_ | refine blk_alloc ?_ _)); exact BK234.out) hb)
                  have n6_ := Aside0.mk (blk_below (g := gb248) (o := .cells #[.int .i64 t235, .bool t236, .int .i64 t237, .int .i64 t238, .slice Ao17 t239.length co17, .slice Ao18 t242.length co18, .int .i64 t245, .bool t246] 24 (0, 0)) (by (with_reducible repeat (first | refine blk_drewN ?_ _ | refine blk_drew ?_ | refine blk_alloc ?_ _)); exact BK248.out) hb)
                  have n7_ := Aside0.mk (below_step (by repeat (first | (with_reducible first | exact HB.out | apply below_alloc | apply pw_below_drewN | apply below_drew1 | refine below_set ?_ GE234.out | refine below_set ?_ GE248.out) | exact HB.out)) hb)
                  clear HO_11
                  clear HO_235004
                  clear HO_235005
                  clear HO_249004
                  clear HO_249005
                  clear BK234
                  clear BK248
                  clear HB
                  have HO_11 := n0_
                  have HO_235004 := n1_
                  have HO_235005 := n2_
                  have HO_249004 := n3_
                  have HO_249005 := n4_
                  have BK234 := n5_
                  have BK248 := n6_
                  have HB := n7_
                  clear n0_ n1_ n2_ n3_ n4_ n5_ n6_ n7_
                  (try clear hb)
                  (try clear hb2)
                  (try clear hk)
                  (try clear hi)
                  refine hK.out _ _ ⟨(blk_cell BK248.out 0).trans rfl, (blk_cell BK248.out 1).trans rfl, (blk_cell BK248.out 2).trans rfl, (blk_cell BK248.out 3).trans rfl, (blk_cell BK248.out 4).trans rfl, (blk_cell BK248.out 5).trans rfl, (blk_cell BK248.out 6).trans rfl, (blk_cell BK248.out 7).trans rfl, HS8_, HS9_, HS10_, HS11_⟩ (fun hHeld => ?_)
                  clear hK K
                  refine norm_ (a' := ?_) ?_ ?_
                  rotate_left
                  · show Act.put _ (some 66) _ = _
                    simp only [Act.put, List.setIfInBounds_toArray, List.set_cons_zero, List.set_cons_succ, i64_w, i32_w]
                    rfl
                  refine pure_ (i := 7) (N := some 59) (v := ?_) (a' := ?_) #[true, true, true, true, true, true, true, true, false, false, false, false] rfl rfl (any_of HT_.out (by kernel_rfl)) (fun _ _ _ h => h) (Or.inl ⟨by rfl, ?_⟩) ?_ ?_
                  rotate_left
                  · intro w'
                    go_simp
                    with_reducible rfl
                  rotate_left
                  · simp only [Act.put, List.setIfInBounds_toArray, List.set_cons_zero, List.set_cons_succ, i64_w, i32_w]
                    rfl
                  refine pure_ (i := 8) (N := some 67) (v := ?_) (a' := ?_) #[true, true, true, true, true, true, true, true, true, false, false, false] rfl rfl (any_of HT_.out (by kernel_rfl)) (fun _ _ _ h => h) (Or.inl ⟨by rfl, ?_⟩) ?_ ?_
                  rotate_left
                  · intro w'
                    go_simp
                    with_reducible rfl
                  rotate_left
                  · simp only [Act.put, List.setIfInBounds_toArray, List.set_cons_zero, List.set_cons_succ, i64_w, i32_w]
                    rfl
                  refine pure_ (i := 9) (N := some 68) (v := ?_) (a' := ?_) #[true, true, true, true, true, true, true, true, true, true, false, false] rfl rfl (any_of HT_.out (by kernel_rfl)) (fun _ _ _ h => h) (Or.inl ⟨by rfl, ?_⟩) ?_ ?_
                  rotate_left
                  · intro w'
                    go_simp
                    with_reducible rfl
                  rotate_left
                  · simp only [Act.put, List.setIfInBounds_toArray, List.set_cons_zero, List.set_cons_succ, i64_w, i32_w]
                    rfl
                  refine pure_ (i := 10) (N := some 13) (v := ?_) (a' := ?_) #[true, true, true, true, true, true, true, true, true, true, true, false] rfl rfl (any_of HT_.out (by kernel_rfl)) (fun _ _ _ h => h) (Or.inl ⟨by rfl, ?_⟩) ?_ ?_
                  rotate_left
                  · intro w'
                    go_simp
                    with_reducible rfl
                  rotate_left
                  · simp only [Act.put, List.setIfInBounds_toArray, List.set_cons_zero, List.set_cons_succ, i64_w, i32_w]
                    rfl
                  refine pure_ (i := 11) (N := some 14) (v := ?_) (a' := ?_) #[true, true, true, true, true, true, true, true, true, true, true, true] rfl rfl (any_of HT_.out (by kernel_rfl)) (fun _ _ _ h => h) (Or.inl ⟨by rfl, ?_⟩) ?_ ?_
                  rotate_left
                  · intro w'
                    go_simp
                    with_reducible rfl
                  rotate_left
                  · simp only [Act.put, List.setIfInBounds_toArray, List.set_cons_zero, List.set_cons_succ, i64_w, i32_w]
                    rfl
                  refine done_ (done_of HT_.out (by kernel_rfl)) ?_
                  try go_wp2
                  go_roundg k2
                  case measure => have := HJ5.out; have := HK2.out; omega
                  case rel => exact ⟨(wrap64 (x12_2 + 1)), (by first | rfl | (simp; done) | (simp [*]; done)), H', ⟨by have := HJ5.out; have := HK2.out; omega⟩, ⟨by (with_reducible repeat (first | apply Kd.R_alloc | apply Kd.R_drewN | apply Kd.R_drew)); exact HO_11.out⟩, ⟨by (with_reducible repeat (first | apply Kd.V_alloc | apply Kd.V_drewN | apply Kd.V_drew)); exact HO_235004.out⟩, ⟨by (with_reducible repeat (first | apply Kd.V_alloc | apply Kd.V_drewN | apply Kd.V_drew)); exact HO_235005.out⟩, ⟨by (with_reducible repeat (first | apply Kd.V_alloc | apply Kd.V_drewN | apply Kd.V_drew)); exact HO_249004.out⟩, ⟨by (with_reducible repeat (first | apply Kd.V_alloc | apply Kd.V_drewN | apply Kd.V_drew)); exact HO_249005.out⟩, ⟨by (with_reducible repeat (first | refine blk_drewN ?_ _ | refine blk_drew ?_ | refine blk_alloc ?_ _)); exact BK234.out⟩, ⟨by (with_reducible repeat (first | refine blk_drewN ?_ _ | refine blk_drew ?_ | refine blk_alloc ?_ _)); exact BK248.out⟩, ⟨by repeat (first | (with_reducible first | exact HB.out | apply below_alloc | apply pw_below_drewN | apply below_drew1 | refine below_set ?_ GE234.out | refine below_set ?_ GE248.out) | exact HB.out)⟩⟩
                · replace c40 := Bool.eq_false_iff.mpr c40
                  subst c40
                  have H1 : (some false) = some r := by rw [if_neg (show ¬ (false = true) by decide)] at H; exact H
                  clear H
                  have H := H1
                  clear H1
                  obtain rfl := Option.some.inj H
                  obtain ⟨Ao44, co44, eo44⟩ := Kd.R_slice HO_11.out
                  subst eo44
                  try go_wp2
                  have n0_ := Aside0.mk (Kd.R_drew HO_11.out)
                  have n1_ := Aside0.mk (Kd.V_drew HO_235004.out)
                  have n2_ := Aside0.mk (Kd.V_drew HO_235005.out)
                  have n3_ := Aside0.mk (Kd.V_drew HO_249004.out)
                  have n4_ := Aside0.mk (Kd.V_drew HO_249005.out)
                  have n5_ := Aside0.mk (blk_drew BK234.out)
                  have n6_ := Aside0.mk (blk_drew BK248.out)
                  have n7_ := Aside0.mk (below_drew1 HB.out)
                  clear HO_11
                  clear HO_235004
                  clear HO_235005
                  clear HO_249004
                  clear HO_249005
                  clear BK234
                  clear BK248
                  clear HB
                  have HO_11 := n0_
                  have HO_235004 := n1_
                  have HO_235005 := n2_
                  have HO_249004 := n3_
                  have HO_249005 := n4_
                  have BK234 := n5_
                  have BK248 := n6_
                  have HB := n7_
                  clear n0_ n1_ n2_ n3_ n4_ n5_ n6_ n7_
                  have p254 : 0 ≤ (x12_2 : Int) := of_decide_eq_true (by first | (with_reducible assumption) | assumption)
                  have q254 : x12_2 < (t251.length : Int) := of_decide_eq_true (by first | (with_reducible assumption) | assumption)
                  obtain ⟨ad254, e254, hx254_0, hx254_1, hx254_2, hx254_3⟩ := at_T35 (Kd.R_reads' HO_11.out).2.2 x12_2 p254 q254
                  cases e254
                  replace p254 := eq_true p254
                  replace q254 := eq_true q254
                  refine start_ (n := 12) (S := fun w' => w'.cell? ⟨gb248, 0, none⟩ = some (.int .i64 t235) ∧ w'.cell? ⟨gb248, 1, none⟩ = some (.bool t236) ∧ w'.cell? ⟨gb248, 2, none⟩ = some (.int .i64 t237) ∧ w'.cell? ⟨gb248, 3, none⟩ = some (.int .i64 t238) ∧ w'.cell? ⟨gb248, 4, none⟩ = some (.slice Ao17 t239.length co17) ∧ w'.cell? ⟨gb248, 5, none⟩ = some (.slice Ao18 t242.length co18) ∧ w'.cell? ⟨gb248, 6, none⟩ = some (.int .i64 t245) ∧ w'.cell? ⟨gb248, 7, none⟩ = some (.bool t246) ∧ w'.cell? (ad254.add ((x12_2).toNat * 4)) = some (.int .i64 ((rd_T35 t251 x12_2).f0)) ∧ w'.cell? ⟨(ad254.add ((x12_2).toNat * 4)).block, (ad254.add ((x12_2).toNat * 4)).off + 1, none⟩ = some (.int .i64 ((rd_T35 t251 x12_2).f1)) ∧ w'.cell? ⟨(ad254.add ((x12_2).toNat * 4)).block, (ad254.add ((x12_2).toNat * 4)).off + 2, none⟩ = some (.int .i64 ((rd_T35 t251 x12_2).f2)) ∧ w'.cell? ⟨(ad254.add ((x12_2).toNat * 4)).block, (ad254.add ((x12_2).toNat * 4)).off + 3, none⟩ = some (.int .i64 ((rd_T35 t251 x12_2).f3))) (ds := []) #[false, false, false, false, false, false, false, false, false, false, false, false] (by kernel_rfl) rfl rfl ⟨(blk_cell BK248.out 0).trans rfl, (blk_cell BK248.out 1).trans rfl, (blk_cell BK248.out 2).trans rfl, (blk_cell BK248.out 3).trans rfl, (blk_cell BK248.out 4).trans rfl, (blk_cell BK248.out 5).trans rfl, (blk_cell BK248.out 6).trans rfl, (blk_cell BK248.out 7).trans rfl, hx254_0, hx254_1, hx254_2, hx254_3⟩ (fun hHeld => ?_); refine with_tabW serinettelaw19_PresetNine.tab11 serinettelaw19_PresetNine.bits11 (fun HT_ HW_ => ?_)
                  generalize wr.drew = w45 at HO_11 HO_235004 HO_235005 HO_249004 HO_249005 BK234 BK248 HB hx254_0 hx254_1 hx254_2 hx254_3 hHeld ⊢
                  refine pure_ (i := 1) (N := some 61) (v := ?_) (a' := ?_) #[false, true, false, false, false, false, false, false, false, false, false, false] rfl rfl (any_of HT_.out (by kernel_rfl)) (fun _ _ _ h => h) (Or.inl ⟨by rfl, ?_⟩) ?_ ?_
                  rotate_left
                  · intro w'
                    go_simp
                    with_reducible rfl
                  rotate_left
                  · simp only [Act.put, List.setIfInBounds_toArray, List.set_cons_zero, List.set_cons_succ, i64_w, i32_w]
                    rfl
                  refine pure_ (i := 2) (N := some 62) (v := ?_) (a' := ?_) #[false, true, true, false, false, false, false, false, false, false, false, false] rfl rfl (any_of HT_.out (by kernel_rfl)) (fun _ _ _ h => h) (Or.inl ⟨by rfl, ?_⟩) ?_ ?_
                  rotate_left
                  · intro w'
                    go_simp
                    with_reducible rfl
                  rotate_left
                  · simp only [Act.put, List.setIfInBounds_toArray, List.set_cons_zero, List.set_cons_succ, i64_w, i32_w]
                    rfl
                  refine pure_ (i := 3) (N := some 63) (v := ?_) (a' := ?_) #[false, true, true, true, false, false, false, false, false, false, false, false] rfl rfl (any_of HT_.out (by kernel_rfl)) (fun _ _ _ h => h) (Or.inl ⟨by rfl, ?_⟩) ?_ ?_
                  rotate_left
                  · intro w'
                    go_simp
                    with_reducible rfl
                  rotate_left
                  · simp only [Act.put, List.setIfInBounds_toArray, List.set_cons_zero, List.set_cons_succ, i64_w, i32_w]
                    rfl
                  refine pure_ (i := 4) (N := some 64) (v := ?_) (a' := ?_) #[false, true, true, true, true, false, false, false, false, false, false, false] rfl rfl (any_of HT_.out (by kernel_rfl)) (fun _ _ _ h => h) (Or.inl ⟨by rfl, ?_⟩) ?_ ?_
                  rotate_left
                  · intro w'
                    go_simp
                    with_reducible rfl
                  rotate_left
                  · simp only [Act.put, List.setIfInBounds_toArray, List.set_cons_zero, List.set_cons_succ, i64_w, i32_w]
                    rfl
                  refine take_ (i := 0) (N := some 60) (v := ?_) (a' := ?_) #[true, true, true, true, true, false, false, false, false, false, false, false] rfl rfl (take_ofW HT_.out HW_.out (by kernel_rfl)) (fun _ _ _ h => h) (Or.inl ⟨by rfl, ?_⟩) hHeld ?_ ?_
                  rotate_left
                  · rintro w' ⟨s0, s1, s2, s3, s4, s5, s6, s7, s8, s9, s10, s11⟩
                    go_simp
                    with_reducible rfl
                  rotate_left
                  · simp only [Act.put, List.setIfInBounds_toArray, List.set_cons_zero, List.set_cons_succ, i64_w, i32_w]
                    rfl
                  refine take_ (i := 5) (N := some 65) (v := ?_) (a' := ?_) #[true, true, true, true, true, true, false, false, false, false, false, false] rfl rfl (take_ofW HT_.out HW_.out (by kernel_rfl)) (fun _ _ _ h => h) (Or.inl ⟨by rfl, ?_⟩) hHeld ?_ ?_
                  rotate_left
                  · rintro w' ⟨s0, s1, s2, s3, s4, s5, s6, s7, s8, s9, s10, s11⟩
                    go_simp
                    with_reducible rfl
                  rotate_left
                  · simp only [Act.put, List.setIfInBounds_toArray, List.set_cons_zero, List.set_cons_succ, i64_w, i32_w]
                    rfl
                  refine one_ (i := 6) (N := some 66) #[true, true, true, true, true, true, true, false, false, false, false, false] rfl rfl (one_of HT_.out (by kernel_rfl)) (by decide) (fun K hK => ?_)
                  refine goes_ Tryd.func19 (by kernel_rfl) rfl #[.agg #[.int .i64 t235, .bool t236, .int .i64 t237, .int .i64 t238, .slice Ao17 t239.length co17, .slice Ao18 t242.length co18, .int .i64 t245, .bool t246], .int .i64 (wrap64 (1 + (wrap64 (Int.tmod a1 60)))), .agg #[.int .i64 ((rd_T35 t251 x12_2).f0), .int .i64 ((rd_T35 t251 x12_2).f1), .int .i64 ((rd_T35 t251 x12_2).f2), .int .i64 ((rd_T35 t251 x12_2).f3)]] (by rfl) rfl rfl (by (try simp only [List.map_toArray, List.map_cons, List.map_nil]); first | done | rfl | (simp only [List.length_drop, List.length_take]; rfl)) ?_
                  with_reducible refine (preset_Index.calls k2 t235 t236 t237 t238 _ _ t239 _ _ t242 t245 t246 (wrap64 (1 + (wrap64 (Int.tmod a1 60)))) ((rd_T35 t251 x12_2).f0) ((rd_T35 t251 x12_2).f1) ((rd_T35 t251 x12_2).f2) ((rd_T35 t251 x12_2).f3) t255 false _ ?side1 ?side2 ?side3 ?side4 A39.out).mono ?_
                  (case side1 => repeat (first | exact (Kd.V_reads' HO_249004.out).2.2 | (with_reducible refine Kd.C_alloc ?_ _) | (with_reducible refine Kd.C_drewN ?_ _) | (with_reducible refine Kd.C_drew ?_)))
                  (case side2 => exact (Kd.V_reads' HO_249004.out).2.1)
                  (case side3 => repeat (first | exact (Kd.V_reads' HO_249005.out).2.2 | (with_reducible refine Kd.C_alloc ?_ _) | (with_reducible refine Kd.C_drewN ?_ _) | (with_reducible refine Kd.C_drew ?_)))
                  (case side4 => exact (Kd.V_reads' HO_249005.out).2.1)
                  rintro e w46 ⟨rfl, hb⟩
                  have HS8_ := (hb.cell (World.block_lt_of_cell? _ _ (hHeld.2.2.2.2.2.2.2.2.1))).trans (hHeld.2.2.2.2.2.2.2.2.1)
                  have HS9_ := (hb.cell (World.block_lt_of_cell? _ _ (hHeld.2.2.2.2.2.2.2.2.2.1))).trans (hHeld.2.2.2.2.2.2.2.2.2.1)
                  have HS10_ := (hb.cell (World.block_lt_of_cell? _ _ (hHeld.2.2.2.2.2.2.2.2.2.2.1))).trans (hHeld.2.2.2.2.2.2.2.2.2.2.1)
                  have HS11_ := (hb.cell (World.block_lt_of_cell? _ _ (hHeld.2.2.2.2.2.2.2.2.2.2.2))).trans (hHeld.2.2.2.2.2.2.2.2.2.2.2)
                  refine ⟨_, rfl, ?_⟩
                  have n0_ := Aside0.mk (Kd.R_below (by (with_reducible repeat (first | apply Kd.R_alloc | apply Kd.R_drewN | apply Kd.R_drew)); exact HO_11.out) hb)
                  have n1_ := Aside0.mk (Kd.V_below (by (with_reducible repeat (first | apply Kd.V_alloc | apply Kd.V_drewN | apply Kd.V_drew)); exact HO_235004.out) hb)
                  have n2_ := Aside0.mk (Kd.V_below (by (with_reducible repeat (first | apply Kd.V_alloc | apply Kd.V_drewN | apply Kd.V_drew)); exact HO_235005.out) hb)
                  have n3_ := Aside0.mk (Kd.V_below (by (with_reducible repeat (first | apply Kd.V_alloc | apply Kd.V_drewN | apply Kd.V_drew)); exact HO_249004.out) hb)
                  have n4_ := Aside0.mk (Kd.V_below (by (with_reducible repeat (first | apply Kd.V_alloc | apply Kd.V_drewN | apply Kd.V_drew)); exact HO_249005.out) hb)
                  have n5_ := Aside0.mk (blk_below (g := gb234) (o := .cells #[.int .i64 t221, .bool t222, .int .i64 t223, .int .i64 t224, .slice Ao11 t225.length co11, .slice Ao12 t228.length co12, .int .i64 t231, .bool t232] 24 (0, 0)) (by (with_reducible repeat (first | refine blk_drewN ?_ _ | refine blk_drew ?_ | refine blk_alloc ?_ _)); exact BK234.out) hb)
                  have n6_ := Aside0.mk (blk_below (g := gb248) (o := .cells #[.int .i64 t235, .bool t236, .int .i64 t237, .int .i64 t238, .slice Ao17 t239.length co17, .slice Ao18 t242.length co18, .int .i64 t245, .bool t246] 24 (0, 0)) (by (with_reducible repeat (first | refine blk_drewN ?_ _ | refine blk_drew ?_ | refine blk_alloc ?_ _)); exact BK248.out) hb)
                  have n7_ := Aside0.mk (below_step (by repeat (first | (with_reducible first | exact HB.out | apply below_alloc | apply pw_below_drewN | apply below_drew1 | refine below_set ?_ GE234.out | refine below_set ?_ GE248.out) | exact HB.out)) hb)
                  clear HO_11
                  clear HO_235004
                  clear HO_235005
                  clear HO_249004
                  clear HO_249005
                  clear BK234
                  clear BK248
                  clear HB
                  have HO_11 := n0_
                  have HO_235004 := n1_
                  have HO_235005 := n2_
                  have HO_249004 := n3_
                  have HO_249005 := n4_
                  have BK234 := n5_
                  have BK248 := n6_
                  have HB := n7_
                  clear n0_ n1_ n2_ n3_ n4_ n5_ n6_ n7_
                  (try clear hb)
                  (try clear hb2)
                  (try clear hk)
                  (try clear hi)
                  refine hK.out _ _ ⟨(blk_cell BK248.out 0).trans rfl, (blk_cell BK248.out 1).trans rfl, (blk_cell BK248.out 2).trans rfl, (blk_cell BK248.out 3).trans rfl, (blk_cell BK248.out 4).trans rfl, (blk_cell BK248.out 5).trans rfl, (blk_cell BK248.out 6).trans rfl, (blk_cell BK248.out 7).trans rfl, HS8_, HS9_, HS10_, HS11_⟩ (fun hHeld => ?_)
                  clear hK K
                  refine norm_ (a' := ?_) ?_ ?_
                  rotate_left
                  · show Act.put _ (some 66) _ = _
                    simp only [Act.put, List.setIfInBounds_toArray, List.set_cons_zero, List.set_cons_succ, i64_w, i32_w]
                    rfl
                  refine pure_ (i := 7) (N := some 59) (v := ?_) (a' := ?_) #[true, true, true, true, true, true, true, true, false, false, false, false] rfl rfl (any_of HT_.out (by kernel_rfl)) (fun _ _ _ h => h) (Or.inl ⟨by rfl, ?_⟩) ?_ ?_
                  rotate_left
                  · intro w'
                    go_simp
                    with_reducible rfl
                  rotate_left
                  · simp only [Act.put, List.setIfInBounds_toArray, List.set_cons_zero, List.set_cons_succ, i64_w, i32_w]
                    rfl
                  refine pure_ (i := 8) (N := some 67) (v := ?_) (a' := ?_) #[true, true, true, true, true, true, true, true, true, false, false, false] rfl rfl (any_of HT_.out (by kernel_rfl)) (fun _ _ _ h => h) (Or.inl ⟨by rfl, ?_⟩) ?_ ?_
                  rotate_left
                  · intro w'
                    go_simp
                    with_reducible rfl
                  rotate_left
                  · simp only [Act.put, List.setIfInBounds_toArray, List.set_cons_zero, List.set_cons_succ, i64_w, i32_w]
                    rfl
                  refine pure_ (i := 9) (N := some 68) (v := ?_) (a' := ?_) #[true, true, true, true, true, true, true, true, true, true, false, false] rfl rfl (any_of HT_.out (by kernel_rfl)) (fun _ _ _ h => h) (Or.inl ⟨by rfl, ?_⟩) ?_ ?_
                  rotate_left
                  · intro w'
                    go_simp
                    with_reducible rfl
                  rotate_left
                  · simp only [Act.put, List.setIfInBounds_toArray, List.set_cons_zero, List.set_cons_succ, i64_w, i32_w]
                    rfl
                  refine pure_ (i := 10) (N := some 13) (v := ?_) (a' := ?_) #[true, true, true, true, true, true, true, true, true, true, true, false] rfl rfl (any_of HT_.out (by kernel_rfl)) (fun _ _ _ h => h) (Or.inl ⟨by rfl, ?_⟩) ?_ ?_
                  rotate_left
                  · intro w'
                    go_simp
                    with_reducible rfl
                  rotate_left
                  · simp only [Act.put, List.setIfInBounds_toArray, List.set_cons_zero, List.set_cons_succ, i64_w, i32_w]
                    rfl
                  refine pure_ (i := 11) (N := some 14) (v := ?_) (a' := ?_) #[true, true, true, true, true, true, true, true, true, true, true, true] rfl rfl (any_of HT_.out (by kernel_rfl)) (fun _ _ _ h => h) (Or.inl ⟨by rfl, ?_⟩) ?_ ?_
                  rotate_left
                  · intro w'
                    go_simp
                    with_reducible rfl
                  rotate_left
                  · simp only [Act.put, List.setIfInBounds_toArray, List.set_cons_zero, List.set_cons_succ, i64_w, i32_w]
                    rfl
                  refine done_ (done_of HT_.out (by kernel_rfl)) ?_
                  try go_wp2
                  go_ret
                  exact ⟨by first | rfl | (simp [errW_none, errW_some] <;> rfl) | (simp [*, errW_none, errW_some] <;> rfl), by repeat (first | (with_reducible first | exact HB.out | apply below_alloc | apply pw_below_drewN | apply below_drew1 | refine below_set ?_ GE234.out | refine below_set ?_ GE248.out) | exact HB.out)⟩
              · rw [if_neg c38] at H
                exact absurd H (by simp)
            · rw [if_neg c37] at H
              have c37b0 : decide (x12_2 < (t251.length : Int)) = false := decide_eq_false c37
              clear c37
              replace H := Option.bind_eq_some_iff.mp H
              obtain ⟨⟨t257, t258, t259, t260, t261, t264, t267, t268, t269⟩, A470, H⟩ := H
              replace H : (if t220 = true then (some (t269 == 1)) else (some false)) = some r := H
              have A47 := Aside0.mk A470
              clear A470
              by_cases c48 : t220 = true
              · subst c48
                have H1 : (some (t269 == 1)) = some r := by rw [if_pos rfl] at H; exact H
                clear H
                have H := H1
                clear H1
                obtain rfl := Option.some.inj H
                obtain ⟨Ao49, co49, eo49⟩ := Kd.R_slice HO_11.out
                subst eo49
                go_wp2_with (first | ((with_reducible refine gate_callee (f := 9) rfl ?_); refine goesL_ (some 75) rfl rfl Tryd.func9 (by kernel_rfl) rfl #[.int .i64 (wrap64 (9 + (wrap64 (a0))))] rfl (by (try simp only [List.map_toArray, List.map_cons, List.map_nil]); first | done | rfl | (simp only [List.length_drop, List.length_take]; rfl)) ?_; (with_reducible refine (preset_Preset.calls k2 (wrap64 (9 + (wrap64 (a0)))) t257 t258 t259 t260 t261 t264 t267 t268 t269 _ ?side1 A47.out).mono ?_); (case side1 => repeat (first | exact (Kd.C_below HRG0.out HB.out) | (with_reducible refine Kd.C_alloc ?_ _) | (with_reducible refine Kd.C_drewN ?_ _) | (with_reducible refine Kd.C_drew ?_))); rintro e w50 ⟨v262, v265, rfl, ho0, ho1, hb⟩; refine ⟨_, rfl, ?_⟩; have n0_ := Aside0.mk (Kd.R_below (by (with_reducible repeat (first | apply Kd.R_alloc | apply Kd.R_drewN | apply Kd.R_drew)); exact HO_11.out) hb); have n1_ := Aside0.mk (Kd.V_below (by (with_reducible repeat (first | apply Kd.V_alloc | apply Kd.V_drewN | apply Kd.V_drew)); exact HO_235004.out) hb); have n2_ := Aside0.mk (Kd.V_below (by (with_reducible repeat (first | apply Kd.V_alloc | apply Kd.V_drewN | apply Kd.V_drew)); exact HO_235005.out) hb); have n3_ := Aside0.mk (Kd.V_below (by (with_reducible repeat (first | apply Kd.V_alloc | apply Kd.V_drewN | apply Kd.V_drew)); exact HO_249004.out) hb); have n4_ := Aside0.mk (Kd.V_below (by (with_reducible repeat (first | apply Kd.V_alloc | apply Kd.V_drewN | apply Kd.V_drew)); exact HO_249005.out) hb); have n5_ := Aside0.mk (Kd.V_lower (Kd.V_mono (ok' := fun k_ => some k_ ≠ (.slice Ao49 t251.length co49 : Value).ownBlock ∧ k_ ≠ gb234 ∧ k_ ≠ gb248) ho0 (fun k_ hk_ => ⟨(Kd.fresh' (Kd.R_lt (by (with_reducible repeat (first | apply Kd.R_alloc | apply Kd.R_drewN | apply Kd.R_drew)); exact HO_11.out)) k_ hk_), (Kd.freshB (g := gb234) (o := .cells #[.int .i64 t221, .bool t222, .int .i64 t223, .int .i64 t224, .slice Ao11 t225.length co11, .slice Ao12 t228.length co12, .int .i64 t231, .bool t232] 24 (0, 0)) (by (with_reducible repeat (first | refine blk_drewN ?_ _ | refine blk_drew ?_ | refine blk_alloc ?_ _)); exact BK234.out) k_ hk_), (Kd.freshB (g := gb248) (o := .cells #[.int .i64 t235, .bool t236, .int .i64 t237, .int .i64 t238, .slice Ao17 t239.length co17, .slice Ao18 t242.length co18, .int .i64 t245, .bool t246] 24 (0, 0)) (by (with_reducible repeat (first | refine blk_drewN ?_ _ | refine blk_drew ?_ | refine blk_alloc ?_ _)); exact BK248.out) k_ hk_)⟩)) (below_size (by repeat (first | (with_reducible first | exact HB.out | apply below_alloc | apply pw_below_drewN | apply below_drew1 | refine below_set ?_ GE234.out | refine below_set ?_ GE248.out) | exact HB.out)))); have n6_ := Aside0.mk (Kd.V_lower (Kd.V_mono (ok' := fun k_ => some k_ ≠ (.slice Ao49 t251.length co49 : Value).ownBlock ∧ k_ ≠ gb234 ∧ k_ ≠ gb248) ho1 (fun k_ hk_ => ⟨(Kd.fresh' (Kd.R_lt (by (with_reducible repeat (first | apply Kd.R_alloc | apply Kd.R_drewN | apply Kd.R_drew)); exact HO_11.out)) k_ hk_), (Kd.freshB (g := gb234) (o := .cells #[.int .i64 t221, .bool t222, .int .i64 t223, .int .i64 t224, .slice Ao11 t225.length co11, .slice Ao12 t228.length co12, .int .i64 t231, .bool t232] 24 (0, 0)) (by (with_reducible repeat (first | refine blk_drewN ?_ _ | refine blk_drew ?_ | refine blk_alloc ?_ _)); exact BK234.out) k_ hk_), (Kd.freshB (g := gb248) (o := .cells #[.int .i64 t235, .bool t236, .int .i64 t237, .int .i64 t238, .slice Ao17 t239.length co17, .slice Ao18 t242.length co18, .int .i64 t245, .bool t246] 24 (0, 0)) (by (with_reducible repeat (first | refine blk_drewN ?_ _ | refine blk_drew ?_ | refine blk_alloc ?_ _)); exact BK248.out) k_ hk_)⟩)) (below_size (by repeat (first | (with_reducible first | exact HB.out | apply below_alloc | apply pw_below_drewN | apply below_drew1 | refine below_set ?_ GE234.out | refine below_set ?_ GE248.out) | exact HB.out)))); have n7_ := Aside0.mk (blk_below (g := gb234) (o := .cells #[.int .i64 t221, .bool t222, .int .i64 t223, .int .i64 t224, .slice Ao11 t225.length co11, .slice Ao12 t228.length co12, .int .i64 t231, .bool t232] 24 (0, 0)) (by (with_reducible repeat (first | refine blk_drewN ?_ _ | refine blk_drew ?_ | refine blk_alloc ?_ _)); exact BK234.out) hb); have n8_ := Aside0.mk (blk_below (g := gb248) (o := .cells #[.int .i64 t235, .bool t236, .int .i64 t237, .int .i64 t238, .slice Ao17 t239.length co17, .slice Ao18 t242.length co18, .int .i64 t245, .bool t246] 24 (0, 0)) (by (with_reducible repeat (first | refine blk_drewN ?_ _ | refine blk_drew ?_ | refine blk_alloc ?_ _)); exact BK248.out) hb); have n9_ := Aside0.mk (below_step (by repeat (first | (with_reducible first | exact HB.out | apply below_alloc | apply pw_below_drewN | apply below_drew1 | refine below_set ?_ GE234.out | refine below_set ?_ GE248.out) | exact HB.out)) hb); clear HO_11; clear HO_235004; clear HO_235005; clear HO_249004; clear HO_249005; clear BK234; clear BK248; clear HB; have HO_11 := n0_; have HO_235004 := n1_; have HO_235005 := n2_; have HO_249004 := n3_; have HO_249005 := n4_; have HO263 := n5_; have HO266 := n6_; have BK234 := n7_; have BK248 := n8_; have HB := n9_; clear n0_ n1_ n2_ n3_ n4_ n5_ n6_ n7_ n8_ n9_; (try clear hb); (try clear hb2); (try clear hk); (try clear hi); (try clear ho0); (try clear ho1)) | ((with_reducible refine gate_dst (N := 15) rfl ?_); refine box_event ?hg (N := 15) ?hd (cs := #[.int .i64 0, .bool false, .int .i64 0, .int .i64 0, .slice none 0 0, .slice none 0 0, .int .i64 0, .bool false]) (t := 24) ?hr ?_; (case hd => rfl); (case hg => rfl); (case hr => first | (go_simp; done) | (go_simp; rfl)); intro gb270 hg w51 hbox hb; have n0_ := Aside0.mk (Kd.R_below (by (with_reducible repeat (first | apply Kd.R_alloc | apply Kd.R_drewN | apply Kd.R_drew)); exact HO_11.out) hb); have n1_ := Aside0.mk (Kd.V_below (Kd.V_elderB (by (with_reducible repeat (first | apply Kd.V_alloc | apply Kd.V_drewN | apply Kd.V_drew)); exact HO_235004.out) gb270 (Nat.le_of_eq hg.symm)) hb); have n2_ := Aside0.mk (Kd.V_below (Kd.V_elderB (by (with_reducible repeat (first | apply Kd.V_alloc | apply Kd.V_drewN | apply Kd.V_drew)); exact HO_235005.out) gb270 (Nat.le_of_eq hg.symm)) hb); have n3_ := Aside0.mk (Kd.V_below (Kd.V_elderB (by (with_reducible repeat (first | apply Kd.V_alloc | apply Kd.V_drewN | apply Kd.V_drew)); exact HO_249004.out) gb270 (Nat.le_of_eq hg.symm)) hb); have n4_ := Aside0.mk (Kd.V_below (Kd.V_elderB (by (with_reducible repeat (first | apply Kd.V_alloc | apply Kd.V_drewN | apply Kd.V_drew)); exact HO_249005.out) gb270 (Nat.le_of_eq hg.symm)) hb); have n5_ := Aside0.mk (Kd.V_below (Kd.V_elderB (by (with_reducible repeat (first | apply Kd.V_alloc | apply Kd.V_drewN | apply Kd.V_drew)); exact HO263.out) gb270 (Nat.le_of_eq hg.symm)) hb); have n6_ := Aside0.mk (Kd.V_below (Kd.V_elderB (by (with_reducible repeat (first | apply Kd.V_alloc | apply Kd.V_drewN | apply Kd.V_drew)); exact HO266.out) gb270 (Nat.le_of_eq hg.symm)) hb); have n7_ := Aside0.mk (blk_below (g := gb234) (o := .cells #[.int .i64 t221, .bool t222, .int .i64 t223, .int .i64 t224, .slice Ao11 t225.length co11, .slice Ao12 t228.length co12, .int .i64 t231, .bool t232] 24 (0, 0)) (by (with_reducible repeat (first | refine blk_drewN ?_ _ | refine blk_drew ?_ | refine blk_alloc ?_ _)); exact BK234.out) hb); have n8_ := Aside0.mk (blk_below (g := gb248) (o := .cells #[.int .i64 t235, .bool t236, .int .i64 t237, .int .i64 t238, .slice Ao17 t239.length co17, .slice Ao18 t242.length co18, .int .i64 t245, .bool t246] 24 (0, 0)) (by (with_reducible repeat (first | refine blk_drewN ?_ _ | refine blk_drew ?_ | refine blk_alloc ?_ _)); exact BK248.out) hb); have n9_ := Aside0.mk (below_step (by repeat (first | (with_reducible first | exact HB.out | apply below_alloc | apply pw_below_drewN | apply below_drew1 | refine below_set ?_ GE234.out | refine below_set ?_ GE248.out) | exact HB.out)) hb); have n10_ := Aside0.mk (hbox); have n11_ := Aside0.mk ((by rw [hg]; exact (below_size (by repeat (first | (with_reducible first | exact HB.out | apply below_alloc | apply pw_below_drewN | apply below_drew1 | refine below_set ?_ GE234.out | refine below_set ?_ GE248.out) | exact HB.out))) : w.heap.size ≤ gb270)); have n12_ := Aside0.mk ((by rw [hg]; exact (below_size (by repeat (first | (with_reducible first | exact HB.out | apply below_alloc | apply pw_below_drewN | apply below_drew1 | refine below_set ?_ GE234.out | refine below_set ?_ GE248.out) | exact HB.out))) : w.heap.size ≤ gb270)); have n13_ := Aside0.mk ((by rw [hg]; exact Nat.ne_of_lt (blk_lt (g := gb234) (o := .cells #[.int .i64 t221, .bool t222, .int .i64 t223, .int .i64 t224, .slice Ao11 t225.length co11, .slice Ao12 t228.length co12, .int .i64 t231, .bool t232] 24 (0, 0)) (by (with_reducible repeat (first | refine blk_drewN ?_ _ | refine blk_drew ?_ | refine blk_alloc ?_ _)); exact BK234.out)) : gb234 ≠ gb270)); have n14_ := Aside0.mk ((by rw [hg]; exact Nat.ne_of_gt (blk_lt (g := gb234) (o := .cells #[.int .i64 t221, .bool t222, .int .i64 t223, .int .i64 t224, .slice Ao11 t225.length co11, .slice Ao12 t228.length co12, .int .i64 t231, .bool t232] 24 (0, 0)) (by (with_reducible repeat (first | refine blk_drewN ?_ _ | refine blk_drew ?_ | refine blk_alloc ?_ _)); exact BK234.out)) : gb270 ≠ gb234)); have n15_ := Aside0.mk ((by rw [hg]; exact Nat.ne_of_lt (blk_lt (g := gb248) (o := .cells #[.int .i64 t235, .bool t236, .int .i64 t237, .int .i64 t238, .slice Ao17 t239.length co17, .slice Ao18 t242.length co18, .int .i64 t245, .bool t246] 24 (0, 0)) (by (with_reducible repeat (first | refine blk_drewN ?_ _ | refine blk_drew ?_ | refine blk_alloc ?_ _)); exact BK248.out)) : gb248 ≠ gb270)); have n16_ := Aside0.mk ((by rw [hg]; exact Nat.ne_of_gt (blk_lt (g := gb248) (o := .cells #[.int .i64 t235, .bool t236, .int .i64 t237, .int .i64 t238, .slice Ao17 t239.length co17, .slice Ao18 t242.length co18, .int .i64 t245, .bool t246] 24 (0, 0)) (by (with_reducible repeat (first | refine blk_drewN ?_ _ | refine blk_drew ?_ | refine blk_alloc ?_ _)); exact BK248.out)) : gb270 ≠ gb248)); clear HO_11; clear HO_235004; clear HO_235005; clear HO_249004; clear HO_249005; clear HO263; clear HO266; clear BK234; clear BK248; clear HB; have HO_11 := n0_; have HO_235004 := n1_; have HO_235005 := n2_; have HO_249004 := n3_; have HO_249005 := n4_; have HO263 := n5_; have HO266 := n6_; have BK234 := n7_; have BK248 := n8_; have HB := n9_; have BK270 := n10_; have GW270 := n11_; have GE270 := n12_; have NB234_270 := n13_; have NB270_234 := n14_; have NB248_270 := n15_; have NB270_248 := n16_; clear n0_ n1_ n2_ n3_ n4_ n5_ n6_ n7_ n8_ n9_ n10_ n11_ n12_ n13_ n14_ n15_ n16_; clear hb hbox hg; have hnb52 := NB270_234.out; have hnc52 := NB234_270.out; have hnb53 := NB270_248.out; have hnc53 := NB248_270.out; have hcz54_0 : w51.cell? ⟨gb270, 0, none⟩ = some (.int .i64 0) := (blk_cell BK270.out 0).trans rfl; have hcz54_1 : w51.cell? ⟨gb270, 1, none⟩ = some (.bool false) := (blk_cell BK270.out 1).trans rfl; have hcz54_2 : w51.cell? ⟨gb270, 2, none⟩ = some (.int .i64 0) := (blk_cell BK270.out 2).trans rfl; have hcz54_3 : w51.cell? ⟨gb270, 3, none⟩ = some (.int .i64 0) := (blk_cell BK270.out 3).trans rfl; have hcz54_4 : w51.cell? ⟨gb270, 4, none⟩ = some (.slice none 0 0) := (blk_cell BK270.out 4).trans rfl; have hcz54_5 : w51.cell? ⟨gb270, 5, none⟩ = some (.slice none 0 0) := (blk_cell BK270.out 5).trans rfl; have hcz54_6 : w51.cell? ⟨gb270, 6, none⟩ = some (.int .i64 0) := (blk_cell BK270.out 6).trans rfl; have hcz54_7 : w51.cell? ⟨gb270, 7, none⟩ = some (.bool false) := (blk_cell BK270.out 7).trans rfl; have hfz54_0 := blk_frozen BK270.out 0; have hfz54_1 := blk_frozen BK270.out 1; have hfz54_2 := blk_frozen BK270.out 2; have hfz54_3 := blk_frozen BK270.out 3; have hfz54_4 := blk_frozen BK270.out 4; have hfz54_5 := blk_frozen BK270.out 5; have hfz54_6 := blk_frozen BK270.out 6; have hfz54_7 := blk_frozen BK270.out 7; obtain ⟨Ao55, co55, eo55⟩ := Kd.V_slice HO263.out; subst eo55; obtain ⟨Ao56, co56, eo56⟩ := Kd.V_slice HO266.out; subst eo56))
                go_ret
                exact ⟨by first | rfl | (simp [errW_none, errW_some] <;> rfl) | (simp [*, errW_none, errW_some] <;> rfl), by repeat (first | (with_reducible first | exact HB.out | apply below_alloc | apply pw_below_drewN | apply below_drew1 | refine below_set ?_ GE234.out | refine below_set ?_ GE248.out | refine below_set ?_ GE270.out) | exact HB.out)⟩
              · replace c48 := Bool.eq_false_iff.mpr c48
                subst c48
                have H1 : (some false) = some r := by rw [if_neg (show ¬ (false = true) by decide)] at H; exact H
                clear H
                have H := H1
                clear H1
                obtain rfl := Option.some.inj H
                obtain ⟨Ao57, co57, eo57⟩ := Kd.R_slice HO_11.out
                subst eo57
                go_wp2_with (first | ((with_reducible refine gate_callee (f := 9) rfl ?_); refine goesL_ (some 75) rfl rfl Tryd.func9 (by kernel_rfl) rfl #[.int .i64 (wrap64 (9 + (wrap64 (a0))))] rfl (by (try simp only [List.map_toArray, List.map_cons, List.map_nil]); first | done | rfl | (simp only [List.length_drop, List.length_take]; rfl)) ?_; (with_reducible refine (preset_Preset.calls k2 (wrap64 (9 + (wrap64 (a0)))) t257 t258 t259 t260 t261 t264 t267 t268 t269 _ ?side1 A47.out).mono ?_); (case side1 => repeat (first | exact (Kd.C_below HRG0.out HB.out) | (with_reducible refine Kd.C_alloc ?_ _) | (with_reducible refine Kd.C_drewN ?_ _) | (with_reducible refine Kd.C_drew ?_))); rintro e w58 ⟨v262, v265, rfl, ho0, ho1, hb⟩; refine ⟨_, rfl, ?_⟩; have n0_ := Aside0.mk (Kd.R_below (by (with_reducible repeat (first | apply Kd.R_alloc | apply Kd.R_drewN | apply Kd.R_drew)); exact HO_11.out) hb); have n1_ := Aside0.mk (Kd.V_below (by (with_reducible repeat (first | apply Kd.V_alloc | apply Kd.V_drewN | apply Kd.V_drew)); exact HO_235004.out) hb); have n2_ := Aside0.mk (Kd.V_below (by (with_reducible repeat (first | apply Kd.V_alloc | apply Kd.V_drewN | apply Kd.V_drew)); exact HO_235005.out) hb); have n3_ := Aside0.mk (Kd.V_below (by (with_reducible repeat (first | apply Kd.V_alloc | apply Kd.V_drewN | apply Kd.V_drew)); exact HO_249004.out) hb); have n4_ := Aside0.mk (Kd.V_below (by (with_reducible repeat (first | apply Kd.V_alloc | apply Kd.V_drewN | apply Kd.V_drew)); exact HO_249005.out) hb); have n5_ := Aside0.mk (Kd.V_lower (Kd.V_mono (ok' := fun k_ => some k_ ≠ (.slice Ao57 t251.length co57 : Value).ownBlock ∧ k_ ≠ gb234 ∧ k_ ≠ gb248) ho0 (fun k_ hk_ => ⟨(Kd.fresh' (Kd.R_lt (by (with_reducible repeat (first | apply Kd.R_alloc | apply Kd.R_drewN | apply Kd.R_drew)); exact HO_11.out)) k_ hk_), (Kd.freshB (g := gb234) (o := .cells #[.int .i64 t221, .bool t222, .int .i64 t223, .int .i64 t224, .slice Ao11 t225.length co11, .slice Ao12 t228.length co12, .int .i64 t231, .bool t232] 24 (0, 0)) (by (with_reducible repeat (first | refine blk_drewN ?_ _ | refine blk_drew ?_ | refine blk_alloc ?_ _)); exact BK234.out) k_ hk_), (Kd.freshB (g := gb248) (o := .cells #[.int .i64 t235, .bool t236, .int .i64 t237, .int .i64 t238, .slice Ao17 t239.length co17, .slice Ao18 t242.length co18, .int .i64 t245, .bool t246] 24 (0, 0)) (by (with_reducible repeat (first | refine blk_drewN ?_ _ | refine blk_drew ?_ | refine blk_alloc ?_ _)); exact BK248.out) k_ hk_)⟩)) (below_size (by repeat (first | (with_reducible first | exact HB.out | apply below_alloc | apply pw_below_drewN | apply below_drew1 | refine below_set ?_ GE234.out | refine below_set ?_ GE248.out) | exact HB.out)))); have n6_ := Aside0.mk (Kd.V_lower (Kd.V_mono (ok' := fun k_ => some k_ ≠ (.slice Ao57 t251.length co57 : Value).ownBlock ∧ k_ ≠ gb234 ∧ k_ ≠ gb248) ho1 (fun k_ hk_ => ⟨(Kd.fresh' (Kd.R_lt (by (with_reducible repeat (first | apply Kd.R_alloc | apply Kd.R_drewN | apply Kd.R_drew)); exact HO_11.out)) k_ hk_), (Kd.freshB (g := gb234) (o := .cells #[.int .i64 t221, .bool t222, .int .i64 t223, .int .i64 t224, .slice Ao11 t225.length co11, .slice Ao12 t228.length co12, .int .i64 t231, .bool t232] 24 (0, 0)) (by (with_reducible repeat (first | refine blk_drewN ?_ _ | refine blk_drew ?_ | refine blk_alloc ?_ _)); exact BK234.out) k_ hk_), (Kd.freshB (g := gb248) (o := .cells #[.int .i64 t235, .bool t236, .int .i64 t237, .int .i64 t238, .slice Ao17 t239.length co17, .slice Ao18 t242.length co18, .int .i64 t245, .bool t246] 24 (0, 0)) (by (with_reducible repeat (first | refine blk_drewN ?_ _ | refine blk_drew ?_ | refine blk_alloc ?_ _)); exact BK248.out) k_ hk_)⟩)) (below_size (by repeat (first | (with_reducible first | exact HB.out | apply below_alloc | apply pw_below_drewN | apply below_drew1 | refine below_set ?_ GE234.out | refine below_set ?_ GE248.out) | exact HB.out)))); have n7_ := Aside0.mk (blk_below (g := gb234) (o := .cells #[.int .i64 t221, .bool t222, .int .i64 t223, .int .i64 t224, .slice Ao11 t225.length co11, .slice Ao12 t228.length co12, .int .i64 t231, .bool t232] 24 (0, 0)) (by (with_reducible repeat (first | refine blk_drewN ?_ _ | refine blk_drew ?_ | refine blk_alloc ?_ _)); exact BK234.out) hb); have n8_ := Aside0.mk (blk_below (g := gb248) (o := .cells #[.int .i64 t235, .bool t236, .int .i64 t237, .int .i64 t238, .slice Ao17 t239.length co17, .slice Ao18 t242.length co18, .int .i64 t245, .bool t246] 24 (0, 0)) (by (with_reducible repeat (first | refine blk_drewN ?_ _ | refine blk_drew ?_ | refine blk_alloc ?_ _)); exact BK248.out) hb); have n9_ := Aside0.mk (below_step (by repeat (first | (with_reducible first | exact HB.out | apply below_alloc | apply pw_below_drewN | apply below_drew1 | refine below_set ?_ GE234.out | refine below_set ?_ GE248.out) | exact HB.out)) hb); clear HO_11; clear HO_235004; clear HO_235005; clear HO_249004; clear HO_249005; clear BK234; clear BK248; clear HB; have HO_11 := n0_; have HO_235004 := n1_; have HO_235005 := n2_; have HO_249004 := n3_; have HO_249005 := n4_; have HO263 := n5_; have HO266 := n6_; have BK234 := n7_; have BK248 := n8_; have HB := n9_; clear n0_ n1_ n2_ n3_ n4_ n5_ n6_ n7_ n8_ n9_; (try clear hb); (try clear hb2); (try clear hk); (try clear hi); (try clear ho0); (try clear ho1)) | ((with_reducible refine gate_dst (N := 15) rfl ?_); refine box_event ?hg (N := 15) ?hd (cs := #[.int .i64 0, .bool false, .int .i64 0, .int .i64 0, .slice none 0 0, .slice none 0 0, .int .i64 0, .bool false]) (t := 24) ?hr ?_; (case hd => rfl); (case hg => rfl); (case hr => first | (go_simp; done) | (go_simp; rfl)); intro gb270 hg w59 hbox hb; have n0_ := Aside0.mk (Kd.R_below (by (with_reducible repeat (first | apply Kd.R_alloc | apply Kd.R_drewN | apply Kd.R_drew)); exact HO_11.out) hb); have n1_ := Aside0.mk (Kd.V_below (Kd.V_elderB (by (with_reducible repeat (first | apply Kd.V_alloc | apply Kd.V_drewN | apply Kd.V_drew)); exact HO_235004.out) gb270 (Nat.le_of_eq hg.symm)) hb); have n2_ := Aside0.mk (Kd.V_below (Kd.V_elderB (by (with_reducible repeat (first | apply Kd.V_alloc | apply Kd.V_drewN | apply Kd.V_drew)); exact HO_235005.out) gb270 (Nat.le_of_eq hg.symm)) hb); have n3_ := Aside0.mk (Kd.V_below (Kd.V_elderB (by (with_reducible repeat (first | apply Kd.V_alloc | apply Kd.V_drewN | apply Kd.V_drew)); exact HO_249004.out) gb270 (Nat.le_of_eq hg.symm)) hb); have n4_ := Aside0.mk (Kd.V_below (Kd.V_elderB (by (with_reducible repeat (first | apply Kd.V_alloc | apply Kd.V_drewN | apply Kd.V_drew)); exact HO_249005.out) gb270 (Nat.le_of_eq hg.symm)) hb); have n5_ := Aside0.mk (Kd.V_below (Kd.V_elderB (by (with_reducible repeat (first | apply Kd.V_alloc | apply Kd.V_drewN | apply Kd.V_drew)); exact HO263.out) gb270 (Nat.le_of_eq hg.symm)) hb); have n6_ := Aside0.mk (Kd.V_below (Kd.V_elderB (by (with_reducible repeat (first | apply Kd.V_alloc | apply Kd.V_drewN | apply Kd.V_drew)); exact HO266.out) gb270 (Nat.le_of_eq hg.symm)) hb); have n7_ := Aside0.mk (blk_below (g := gb234) (o := .cells #[.int .i64 t221, .bool t222, .int .i64 t223, .int .i64 t224, .slice Ao11 t225.length co11, .slice Ao12 t228.length co12, .int .i64 t231, .bool t232] 24 (0, 0)) (by (with_reducible repeat (first | refine blk_drewN ?_ _ | refine blk_drew ?_ | refine blk_alloc ?_ _)); exact BK234.out) hb); have n8_ := Aside0.mk (blk_below (g := gb248) (o := .cells #[.int .i64 t235, .bool t236, .int .i64 t237, .int .i64 t238, .slice Ao17 t239.length co17, .slice Ao18 t242.length co18, .int .i64 t245, .bool t246] 24 (0, 0)) (by (with_reducible repeat (first | refine blk_drewN ?_ _ | refine blk_drew ?_ | refine blk_alloc ?_ _)); exact BK248.out) hb); have n9_ := Aside0.mk (below_step (by repeat (first | (with_reducible first | exact HB.out | apply below_alloc | apply pw_below_drewN | apply below_drew1 | refine below_set ?_ GE234.out | refine below_set ?_ GE248.out) | exact HB.out)) hb); have n10_ := Aside0.mk (hbox); have n11_ := Aside0.mk ((by rw [hg]; exact (below_size (by repeat (first | (with_reducible first | exact HB.out | apply below_alloc | apply pw_below_drewN | apply below_drew1 | refine below_set ?_ GE234.out | refine below_set ?_ GE248.out) | exact HB.out))) : w.heap.size ≤ gb270)); have n12_ := Aside0.mk ((by rw [hg]; exact (below_size (by repeat (first | (with_reducible first | exact HB.out | apply below_alloc | apply pw_below_drewN | apply below_drew1 | refine below_set ?_ GE234.out | refine below_set ?_ GE248.out) | exact HB.out))) : w.heap.size ≤ gb270)); have n13_ := Aside0.mk ((by rw [hg]; exact Nat.ne_of_lt (blk_lt (g := gb234) (o := .cells #[.int .i64 t221, .bool t222, .int .i64 t223, .int .i64 t224, .slice Ao11 t225.length co11, .slice Ao12 t228.length co12, .int .i64 t231, .bool t232] 24 (0, 0)) (by (with_reducible repeat (first | refine blk_drewN ?_ _ | refine blk_drew ?_ | refine blk_alloc ?_ _)); exact BK234.out)) : gb234 ≠ gb270)); have n14_ := Aside0.mk ((by rw [hg]; exact Nat.ne_of_gt (blk_lt (g := gb234) (o := .cells #[.int .i64 t221, .bool t222, .int .i64 t223, .int .i64 t224, .slice Ao11 t225.length co11, .slice Ao12 t228.length co12, .int .i64 t231, .bool t232] 24 (0, 0)) (by (with_reducible repeat (first | refine blk_drewN ?_ _ | refine blk_drew ?_ | refine blk_alloc ?_ _)); exact BK234.out)) : gb270 ≠ gb234)); have n15_ := Aside0.mk ((by rw [hg]; exact Nat.ne_of_lt (blk_lt (g := gb248) (o := .cells #[.int .i64 t235, .bool t236, .int .i64 t237, .int .i64 t238, .slice Ao17 t239.length co17, .slice Ao18 t242.length co18, .int .i64 t245, .bool t246] 24 (0, 0)) (by (with_reducible repeat (first | refine blk_drewN ?_ _ | refine blk_drew ?_ | refine blk_alloc ?_ _)); exact BK248.out)) : gb248 ≠ gb270)); have n16_ := Aside0.mk ((by rw [hg]; exact Nat.ne_of_gt (blk_lt (g := gb248) (o := .cells #[.int .i64 t235, .bool t236, .int .i64 t237, .int .i64 t238, .slice Ao17 t239.length co17, .slice Ao18 t242.length co18, .int .i64 t245, .bool t246] 24 (0, 0)) (by (with_reducible repeat (first | refine blk_drewN ?_ _ | refine blk_drew ?_ | refine blk_alloc ?_ _)); exact BK248.out)) : gb270 ≠ gb248)); clear HO_11; clear HO_235004; clear HO_235005; clear HO_249004; clear HO_249005; clear HO263; clear HO266; clear BK234; clear BK248; clear HB; have HO_11 := n0_; have HO_235004 := n1_; have HO_235005 := n2_; have HO_249004 := n3_; have HO_249005 := n4_; have HO263 := n5_; have HO266 := n6_; have BK234 := n7_; have BK248 := n8_; have HB := n9_; have BK270 := n10_; have GW270 := n11_; have GE270 := n12_; have NB234_270 := n13_; have NB270_234 := n14_; have NB248_270 := n15_; have NB270_248 := n16_; clear n0_ n1_ n2_ n3_ n4_ n5_ n6_ n7_ n8_ n9_ n10_ n11_ n12_ n13_ n14_ n15_ n16_; clear hb hbox hg; have hnb60 := NB270_234.out; have hnc60 := NB234_270.out; have hnb61 := NB270_248.out; have hnc61 := NB248_270.out; have hcz62_0 : w59.cell? ⟨gb270, 0, none⟩ = some (.int .i64 0) := (blk_cell BK270.out 0).trans rfl; have hcz62_1 : w59.cell? ⟨gb270, 1, none⟩ = some (.bool false) := (blk_cell BK270.out 1).trans rfl; have hcz62_2 : w59.cell? ⟨gb270, 2, none⟩ = some (.int .i64 0) := (blk_cell BK270.out 2).trans rfl; have hcz62_3 : w59.cell? ⟨gb270, 3, none⟩ = some (.int .i64 0) := (blk_cell BK270.out 3).trans rfl; have hcz62_4 : w59.cell? ⟨gb270, 4, none⟩ = some (.slice none 0 0) := (blk_cell BK270.out 4).trans rfl; have hcz62_5 : w59.cell? ⟨gb270, 5, none⟩ = some (.slice none 0 0) := (blk_cell BK270.out 5).trans rfl; have hcz62_6 : w59.cell? ⟨gb270, 6, none⟩ = some (.int .i64 0) := (blk_cell BK270.out 6).trans rfl; have hcz62_7 : w59.cell? ⟨gb270, 7, none⟩ = some (.bool false) := (blk_cell BK270.out 7).trans rfl; have hfz62_0 := blk_frozen BK270.out 0; have hfz62_1 := blk_frozen BK270.out 1; have hfz62_2 := blk_frozen BK270.out 2; have hfz62_3 := blk_frozen BK270.out 3; have hfz62_4 := blk_frozen BK270.out 4; have hfz62_5 := blk_frozen BK270.out 5; have hfz62_6 := blk_frozen BK270.out 6; have hfz62_7 := blk_frozen BK270.out 7; obtain ⟨Ao63, co63, eo63⟩ := Kd.V_slice HO263.out; subst eo63; obtain ⟨Ao64, co64, eo64⟩ := Kd.V_slice HO266.out; subst eo64))
                go_ret
                exact ⟨by first | rfl | (simp [errW_none, errW_some] <;> rfl) | (simp [*, errW_none, errW_some] <;> rfl), by repeat (first | (with_reducible first | exact HB.out | apply below_alloc | apply pw_below_drewN | apply below_drew1 | refine below_set ?_ GE234.out | refine below_set ?_ GE248.out | refine below_set ?_ GE270.out) | exact HB.out)⟩

/-- THE ONE PURE STATEMENT of serinettelaw19_PresetNine: yours. -/
def serinettelaw19_PresetNine.Pure : Prop := ∀ (a0 : Int) (a1 : Int), (Lit.int .u8 a0).wf = true → (Lit.int .u8 a1).wf = true → ∃ k, serinettelaw19_PresetNine.f k a0 a1 = some true
theorem serinettelaw19_PresetNine.walk (P : serinettelaw19_PresetNine.Pure) (a0 : Int) (a1 : Int) (w : World) (w0 : (Lit.int .u8 a0).wf = true) (w1 : (Lit.int .u8 a1).wf = true) (hrG0 : Kd.C k48 w (some ⟨0, 0, none⟩) TAB0.length TAB0) :
    Calls Tryd.prog 7 #[.int .u8 a0, .int .u8 a1] w fun e w' => e = .returned (.bool true) ∧ Below w.heap.size w w' := by
  obtain ⟨k, h⟩ := P a0 a1 w0 w1
  refine (serinettelaw19_PresetNine.calls k a0 a1 true w hrG0 h).mono ?_
  rintro e w' ⟨rfl, hd⟩
  exact ⟨rfl, hd⟩

end Go.Proofs.YtgdgncdnhpflcaaDoor.PPresetNine
