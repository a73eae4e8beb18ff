import Derived.Test.YtgdgncdnhpflcaaDoorPPresetChoicesx10
import Derived.Test.YtgdgncdnhpflcaaDoorLEv
import Derived.Test.YtgdgncdnhpflcaaDoorLPol
namespace Go.Proofs.YtgdgncdnhpflcaaDoor.FPresetChoices
open Go.RowKit Go.Proofs.YtgdgncdnhpflcaaDoorW.PrintWords Go.Proofs.YtgdgncdnhpflcaaDoorW.PrintLast Go.Proofs.YtgdgncdnhpflcaaDoor.PPresetChoices Go.Proofs.YtgdgncdnhpflcaaDoor.L
set_option linter.unusedVariables false
set_option linter.unusedSimpArgs false
section
variable (B : Int) (St : Bool) (F L : Int) (P S : List Int) (C : Int) (W : Bool)
theorem fixed_eq (n : Int) (hF : -1 ≤ F ∧ F ≤ 4) : preset_fixed.f B St F L P S C W n = some (fxn F n) := by
  unfold preset_fixed.f fxn
  rw [wr _ (by omega), mx_eq, mn_eq]
theorem orders_eq (n : Int) (hn : 1 ≤ n ∧ n ≤ 9223372036854775807) : preset_orders.f B St F L P S C W n = some (odn L n) := by
  unfold preset_orders.f odn
  rw [wr _ (by omega), mx_eq, mn_eq]
variable (pol : Pol B F L P S C)
include pol
theorem count_eq (n : Int) (hn : n ≤ 9223372036854775807) : preset_Count.f B St F L P S C W n = some (cnt F L P S n) := by
  unfold preset_Count.f cnt
  by_cases h : n < 1
  · rw [if_pos h, if_pos h]
  · have hc := cnt_le pol n (by omega)
    rw [if_neg h, if_neg h, fixed_eq B St F L P S C W n pol.fix, orders_eq B St F L P S C W n (by omega)]
    simp only [Option.bind_some]
    rw [wr (2 + fxn F n) (by omega), wr ((S.length : Int) * odn L n) (by omega), wr (_ * _) (by omega), wr _ (by omega)]
theorem at_ev (n i : Int) (hn : n ≤ 9223372036854775807) (hi : i ≤ 9223372036854775807) :
    Ev (fun k => preset_At.f k B St F L P S C W n i) (if 0 ≤ i ∧ i < cnt F L P S n then ((atc F L P S n i).1, (atc F L P S n i).2.1, (atc F L P S n i).2.2.1, (atc F L P S n i).2.2.2, true) else (0, 0, 0, 0, false)) := by
  unfold preset_At.f
  refine evIte (fun h0 => ?_) (fun h0 => ?_)
  · refine Ev.step (fun k => preset_At.j0.eq_2 ..) (evT rfl ?_)
    rw [if_neg (by omega)]
    exact Ev.now _
  · refine evC (count_eq B St F L P S C W pol n hn) ?_
    refine Ev.step (fun k => preset_At.j0.eq_2 ..) ?_
    by_cases hc : i < cnt F L P S n
    · have hn1 : ¬ n < 1 := by intro h; unfold cnt at hc; rw [if_pos h] at hc; omega
      have hl := cnt_le pol n (by omega)
      rw [show decide (i ≥ cnt F L P S n) = false from decide_eq_false (by omega)]
      refine evR ?_ (if_pos ⟨by omega, hc⟩).symm
      refine evF (by simp) ?_
      unfold atc
      by_cases h2 : i < 2
      · refine evT h2 ?_
        rw [if_pos h2]
        exact Ev.now _
      · refine evF h2 ?_
        rw [if_neg h2, wr (i - 2) (by omega)]
        refine evC (fixed_eq B St F L P S C W n pol.fix) ?_
        by_cases h3 : i - 2 < fxn F n
        · refine evT h3 ?_
          rw [if_pos h3]
          exact Ev.now _
        · refine evF h3 ?_
          rw [if_neg h3]
          refine evC (fixed_eq B St F L P S C W n pol.fix) (evC (orders_eq B St F L P S C W n (by omega)) ?_)
          have hns := pol.nsha
          obtain ⟨hp, ho, hs, hlt⟩ := many_pos hn1 hc h2 h3 (by omega)
          rw [wr (i - 2 - fxn F n) (by omega)]
          obtain ⟨d1, d2, d3, d4, d5, d6, d7, d8⟩ := divs hp ho (by omega) hlt
          rw [tdiv_pos (i - 2 - fxn F n) _ (by omega), wr ((i - 2 - fxn F n) / (P.length : Int)) (by omega), tdiv_pos ((i - 2 - fxn F n) / (P.length : Int)) _ d1, wr ((i - 2 - fxn F n) / (P.length : Int) / odn L n) (by omega), tmod_pos (i - 2 - fxn F n) _ (by omega), tmod_pos ((i - 2 - fxn F n) / (P.length : Int)) _ d1, wr (1 + _) (by omega)]
          refine evF (by omega) (evF (by omega) (evT d2 (evT d3 (evT d4 (evT d5 ?_)))))
          exact Ev.now _
    · rw [show decide (i ≥ cnt F L P S n) = true from decide_eq_true (by omega)]
      refine evR ?_ (if_neg (by omega)).symm
      exact evT rfl (Ev.now _)
end
end Go.Proofs.YtgdgncdnhpflcaaDoor.FPresetChoices
