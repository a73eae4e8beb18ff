/- The statement PresetNine: each preset can be, and has more to try than none; the last one has all choices of those with the same block. For a preset, a block up to sixty. -/
import Derived.Test.YtgdgncdnhpflcaaDoorPPresetNinex7
import Derived.Test.YtgdgncdnhpflcaaDoorLEv
namespace Go.Proofs.YtgdgncdnhpflcaaDoor.Pure
open Go.RowKit Go.Proofs.YtgdgncdnhpflcaaDoorW.PrintWords Go.Proofs.YtgdgncdnhpflcaaDoorW.PrintLast Go.Proofs.YtgdgncdnhpflcaaDoor.PPresetNine Go.Proofs.YtgdgncdnhpflcaaDoor.L
set_option linter.unusedVariables false
set_option linter.unusedSimpArgs false
theorem nine0 : ∀ m : Fin 60, serinettelaw19_PresetNine.f 200 0 (m.val : Int) = some true := by decide +kernel
theorem nine1 : ∀ m : Fin 60, serinettelaw19_PresetNine.f 200 1 (m.val : Int) = some true := by decide +kernel
theorem nine2 : ∀ m : Fin 60, serinettelaw19_PresetNine.f 200 2 (m.val : Int) = some true := by decide +kernel
theorem nine3 : ∀ m : Fin 60, serinettelaw19_PresetNine.f 200 3 (m.val : Int) = some true := by decide +kernel
theorem nine4 : ∀ m : Fin 60, serinettelaw19_PresetNine.f 200 4 (m.val : Int) = some true := by decide +kernel
theorem nine5 : ∀ m : Fin 60, serinettelaw19_PresetNine.f 200 5 (m.val : Int) = some true := by decide +kernel
theorem nine6 : ∀ m : Fin 60, serinettelaw19_PresetNine.f 200 6 (m.val : Int) = some true := by decide +kernel
theorem nine7 : ∀ m : Fin 60, serinettelaw19_PresetNine.f 200 7 (m.val : Int) = some true := by decide +kernel
def ok8 (a : Nat) : Bool := (List.range 15).all (fun m => serinettelaw19_PresetNine.f 200 8 ((a + m : Nat) : Int) == some true)
theorem ok8_0 : ok8 0 = true := by decide +kernel
theorem ok8_1 : ok8 15 = true := by decide +kernel
theorem ok8_2 : ok8 30 = true := by decide +kernel
theorem ok8_3 : ok8 45 = true := by decide +kernel
theorem ok8_at {a : Nat} (h : ok8 a = true) (m : Nat) (h0 : a ≤ m) (h1 : m < a + 15) : serinettelaw19_PresetNine.f 200 8 (m : Int) = some true := by
  have := List.all_eq_true.mp h (m - a) (List.mem_range.mpr (by omega))
  rw [show a + (m - a) = m by omega] at this
  simpa using this
theorem nine8 (m : Fin 60) : serinettelaw19_PresetNine.f 200 8 (m.val : Int) = some true := by
  have hm := m.isLt
  rcases (by omega : m.val < 15 ∨ (15 ≤ m.val ∧ m.val < 30) ∨ (30 ≤ m.val ∧ m.val < 45) ∨ 45 ≤ m.val) with h | h | h | h
  · exact ok8_at ok8_0 m.val (by omega) (by omega)
  · exact ok8_at ok8_1 m.val (by omega) (by omega)
  · exact ok8_at ok8_2 m.val (by omega) (by omega)
  · exact ok8_at ok8_3 m.val (by omega) (by omega)
theorem beyond (k : Nat) (x : Int) (h0 : 0 ≤ x) (h : x ≤ 255) : preset_Preset.f k (wrap64 (9 + wrap64 x)) = preset_Preset.f k (wrap64 (9 + wrap64 0)) := by
  rw [wr x (by omega), wr (9 + x) (by omega), wr 0 (by omega), wr (9 + 0) (by omega)]
  unfold preset_Preset.f
  rw [if_neg (by omega), if_neg (by omega), decide_eq_true (by omega), decide_eq_true (by omega)]
  cases k with
  | zero => rfl
  | succ k => rw [preset_Preset.j0.eq_2, preset_Preset.j0.eq_2, if_pos rfl, if_pos rfl]
theorem loop_same (x : Int) (h0 : 0 ≤ x) (h : x ≤ 255) : ∀ (k : Nat) (b : Bool) (m : Int) (l : List S35) (i : Int) (c0 : Int) (c1 : Bool) (c2 c3 : Int) (c4 c5 : List Int) (c6 : Int) (c7 : Bool),
    serinettelaw19_PresetNine.l0 k x b m l i c0 c1 c2 c3 c4 c5 c6 c7 = serinettelaw19_PresetNine.l0 k 0 b m l i c0 c1 c2 c3 c4 c5 c6 c7
  | 0, _, _, _, _, _, _, _, _, _, _, _, _ => rfl
  | k + 1, b, m, l, i, c0, c1, c2, c3, c4, c5, c6, c7 => by
    rw [serinettelaw19_PresetNine.l0.eq_2, serinettelaw19_PresetNine.l0.eq_2, beyond k x h0 h]
    simp only [loop_same x h0 h k]
theorem join_same (x : Int) (h0 : 0 ≤ x) (h : x ≤ 255) (k : Nat) (b : Bool) (m : Int) (t : Bool) (a0 : Int) (a1 : Bool) (a2 a3 : Int) (a4 a5 : List Int) (a6 : Int) (a7 : Bool) (c0 : Int) (c1 : Bool) (c2 c3 : Int) (c4 c5 : List Int) (c6 : Int) (c7 : Bool) :
    serinettelaw19_PresetNine.j0 k x b m t a0 a1 a2 a3 a4 a5 a6 a7 c0 c1 c2 c3 c4 c5 c6 c7 = serinettelaw19_PresetNine.j0 k 0 b m t a0 a1 a2 a3 a4 a5 a6 a7 c0 c1 c2 c3 c4 c5 c6 c7 := by
  cases k with
  | zero => rfl
  | succ k =>
    rw [serinettelaw19_PresetNine.j0.eq_2, serinettelaw19_PresetNine.j0.eq_2]
    simp only [loop_same x h0 h k]
theorem same (k : Nat) (x y x' y' : Int) (hx : 0 ≤ x ∧ x ≤ 255) (hx' : 0 ≤ x' ∧ x' ≤ 255) (ex : Int.tmod x 9 = Int.tmod x' 9) (ey : Int.tmod y 60 = Int.tmod y' 60) :
    serinettelaw19_PresetNine.f k x y = serinettelaw19_PresetNine.f k x' y' := by
  unfold serinettelaw19_PresetNine.f
  rw [ex, ey]
  simp only [join_same x hx.1 hx.2 k, join_same x' hx'.1 hx'.2 k]
theorem PresetNine : serinettelaw19_PresetNine.Pure := by
  intro a b wa wb
  have ha := wf_u8 wa
  have hb := wf_u8 wb
  refine ⟨200, ?_⟩
  have hm : 0 ≤ b % 60 ∧ b % 60 < 60 := by omega
  rw [same 200 a b (a % 9) (b % 60) ha (by omega) (by rw [tmod_pos _ _ ha.1, tmod_pos _ _ (by omega)]; omega) (by rw [tmod_pos _ _ hb.1, tmod_pos _ _ hm.1]; omega)]
  obtain ⟨m, e⟩ : ∃ m : Fin 60, b % 60 = (m.val : Int) := ⟨⟨(b % 60).toNat, by omega⟩, by simp; omega⟩
  rw [e]
  rcases (by omega : a % 9 = 0 ∨ a % 9 = 1 ∨ a % 9 = 2 ∨ a % 9 = 3 ∨ a % 9 = 4 ∨ a % 9 = 5 ∨ a % 9 = 6 ∨ a % 9 = 7 ∨ a % 9 = 8) with h | h | h | h | h | h | h | h | h <;> rw [h]
  · exact nine0 m
  · exact nine1 m
  · exact nine2 m
  · exact nine3 m
  · exact nine4 m
  · exact nine5 m
  · exact nine6 m
  · exact nine7 m
  · exact nine8 m
end Go.Proofs.YtgdgncdnhpflcaaDoor.Pure
