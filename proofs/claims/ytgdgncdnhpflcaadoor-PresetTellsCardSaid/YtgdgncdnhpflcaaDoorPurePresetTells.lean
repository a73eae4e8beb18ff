/- The statement PresetTells: any preset, and what is wrong with any policy, is as the document says. For any number; a policy with up to ten precisions and shapes. -/
import Derived.Test.YtgdgncdnhpflcaaDoorPPresetTellsx9
import Derived.Test.YtgdgncdnhpflcaaDoorLEv
import Derived.Test.YtgdgncdnhpflcaaDoorLPol
import Derived.Test.YtgdgncdnhpflcaaDoorFPresetTellsPcheck
import Derived.Test.YtgdgncdnhpflcaaDoorFPresetTellsRcheck19
namespace Go.Proofs.YtgdgncdnhpflcaaDoor.Pure
open Go.RowKit Go.Proofs.YtgdgncdnhpflcaaDoorW.PrintWords Go.Proofs.YtgdgncdnhpflcaaDoorW.PrintLast Go.Proofs.YtgdgncdnhpflcaaDoor.PPresetTells Go.Proofs.YtgdgncdnhpflcaaDoor.L Go.Proofs.YtgdgncdnhpflcaaDoor.FPresetTells
set_option linter.unusedVariables false
set_option linter.unusedSimpArgs false
theorem awake19 : Ev (fun k => serinettelaw19_awake.f k) true := Ev.of (k := 40) serinettelaw19_awake.mono (by decide +kernel)
instance tdec1 : DecidableEq (List Int × Int × Bool × Int) := inferInstance
instance tdec2 : DecidableEq (Int × Int × List Int × List Int × Int × Bool × Int) := inferInstance
instance tdec3 : DecidableEq (Int × Bool × Int × Int × List Int × List Int × Int × Bool × Int) := inferInstance
def tellsB (n : Int) : Bool :=
  match serinetteref19_Preset.f n with
  | none => false
  | some t => decide (preset_Preset.f 10 n = some t) && decide (serinetteref19_Alike.f 30 t.1 t.2.1 t.2.2.1 t.2.2.2.1 t.2.2.2.2.1 t.2.2.2.2.2.1 t.2.2.2.2.2.2.1 t.2.2.2.2.2.2.2.1 t.1 t.2.1 t.2.2.1 t.2.2.2.1 t.2.2.2.2.1 t.2.2.2.2.2.1 t.2.2.2.2.2.2.1 t.2.2.2.2.2.2.2.1 = some true)
theorem tells_all : ∀ m : Fin 9, tellsB (m.val : Int) = true := by decide +kernel
theorem alike_mono {t : Int × Bool × Int × Int × List Int × List Int × Int × Bool × Int} (h : serinetteref19_Alike.f 30 t.1 t.2.1 t.2.2.1 t.2.2.2.1 t.2.2.2.2.1 t.2.2.2.2.2.1 t.2.2.2.2.2.2.1 t.2.2.2.2.2.2.2.1 t.1 t.2.1 t.2.2.1 t.2.2.2.1 t.2.2.2.2.1 t.2.2.2.2.2.1 t.2.2.2.2.2.2.1 t.2.2.2.2.2.2.2.1 = some true) :
    Ev (fun k => serinetteref19_Alike.f k t.1 t.2.1 t.2.2.1 t.2.2.2.1 t.2.2.2.2.1 t.2.2.2.2.2.1 t.2.2.2.2.2.2.1 t.2.2.2.2.2.2.2.1 t.1 t.2.1 t.2.2.1 t.2.2.2.1 t.2.2.2.2.1 t.2.2.2.2.2.1 t.2.2.2.2.2.2.1 t.2.2.2.2.2.2.2.1) true :=
  Ev.of (k := 30) (serinetteref19_Alike.mono _ _ _ _ _ _ _ _ _ _ _ _ _ _ _ _) h
def none19 : Int × Bool × Int × Int × List Int × List Int × Int × Bool × Int := (0, false, 0, 0, [], [], 0, false, 1)
theorem tells_n (n : Int) : ∃ t, serinetteref19_Preset.f n = some t ∧ Ev (fun k => preset_Preset.f k n) t ∧
    Ev (fun k => serinetteref19_Alike.f k t.1 t.2.1 t.2.2.1 t.2.2.2.1 t.2.2.2.2.1 t.2.2.2.2.2.1 t.2.2.2.2.2.2.1 t.2.2.2.2.2.2.2.1 t.1 t.2.1 t.2.2.1 t.2.2.2.1 t.2.2.2.2.1 t.2.2.2.2.2.1 t.2.2.2.2.2.2.1 t.2.2.2.2.2.2.2.1) true := by
  by_cases h : 0 ≤ n ∧ n ≤ 8
  · obtain ⟨m, rfl⟩ : ∃ m : Fin 9, n = (m.val : Int) := ⟨⟨n.toNat, by omega⟩, by simp; omega⟩
    have e := tells_all m
    unfold tellsB at e
    cases hr : serinetteref19_Preset.f (m.val : Int) with
    | none => rw [hr] at e; cases e
    | some t =>
      rw [hr] at e
      simp only [Bool.and_eq_true, decide_eq_true_eq] at e
      exact ⟨t, rfl, Ev.of (k := 10) (preset_Preset.mono _) e.1, alike_mono e.2⟩
  · refine ⟨none19, ?_, ?_, alike_mono (by decide +kernel)⟩
    · unfold serinetteref19_Preset.f
      simp only [Option.bind_some]
      by_cases h0 : n < 0
      · rw [if_pos h0]; rfl
      · rw [if_neg h0, if_pos (by omega)]; rfl
    · unfold preset_Preset.f
      refine evIte (fun h0 => Ev.step (fun k => preset_Preset.j0.eq_2 ..) (evT rfl (Ev.now _))) (fun h0 => ?_)
      rw [decide_eq_true (by omega)]
      exact Ev.step (fun k => preset_Preset.j0.eq_2 ..) (evT rfl (Ev.now _))
theorem PresetTells : serinettelaw19_PresetTells.Pure := by
  intro n B St F L P S C W wn wB wF wL hP _ hS _ wC
  unfold maxLen at hP hS
  refine Ev.rounds ?_
  unfold serinettelaw19_PresetTells.f
  refine evB awake19 (evIte (fun h => ?_) (fun h => ?_))
  · exact Ev.step (fun k => serinettelaw19_PresetTells.j0.eq_2 ..) (evT rfl (Ev.now _))
  · refine Ev.step (fun k => serinettelaw19_PresetTells.j0.eq_2 ..) (evIte (fun h => Ev.now _) (fun h => ?_))
    obtain ⟨t, h1, h2, h3⟩ := tells_n n
    refine evB h2 (evC h1 (evT rfl (evT rfl (evB h3 (evT rfl (evB (check_ev B St F L P S C W (by omega) (by omega)) (evB (rcheck_ev B St F L P S C W) ?_)))))))
    exact evR (Ev.now _) (by simp)
end Go.Proofs.YtgdgncdnhpflcaaDoor.Pure
