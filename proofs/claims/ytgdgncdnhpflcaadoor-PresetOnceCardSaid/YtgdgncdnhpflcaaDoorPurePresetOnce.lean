/- The statement PresetOnce: each choice has one number, and each number one choice. For a policy that can be, a block, two numbers. -/
import Derived.Test.YtgdgncdnhpflcaaDoorPPresetOncex7
import Derived.Test.YtgdgncdnhpflcaaDoorLEv
import Derived.Test.YtgdgncdnhpflcaaDoorLPol
import Derived.Test.YtgdgncdnhpflcaaDoorLPolIdx
import Derived.Test.YtgdgncdnhpflcaaDoorFPresetOncePcheck
import Derived.Test.YtgdgncdnhpflcaaDoorFPresetOncePat
import Derived.Test.YtgdgncdnhpflcaaDoorFPresetOncePindex
import Derived.Test.YtgdgncdnhpflcaaDoorFPresetOncePidx
namespace Go.Proofs.YtgdgncdnhpflcaaDoor.Pure
open Go.RowKit Go.Proofs.YtgdgncdnhpflcaaDoorW.PrintWords Go.Proofs.YtgdgncdnhpflcaaDoorW.PrintLast Go.Proofs.YtgdgncdnhpflcaaDoor.PPresetOnce Go.Proofs.YtgdgncdnhpflcaaDoor.L Go.Proofs.YtgdgncdnhpflcaaDoor.FPresetOnce
set_option linter.unusedVariables false
set_option linter.unusedSimpArgs false
theorem awake19 : Ev (fun k => serinettelaw19_awake.f k) true := Ev.of (k := 40) serinettelaw19_awake.mono (by decide +kernel)
theorem PresetOnce : serinettelaw19_PresetOnce.Pure := by
  intro B St F L P S C W n i j wB wF wL hP _ hS _ wC wn wi wj
  have hn := wf_u16 wn
  have hi := wf_u16 wi
  have hj := wf_u16 wj
  unfold maxLen at hP hS
  refine Ev.rounds ?_
  unfold serinettelaw19_PresetOnce.f
  refine evB awake19 (evB (check_ev B St F L P S C W (by omega) (by omega)) (evIte (fun h => ?_) (fun h => ?_)))
  · refine Ev.step (fun k => serinettelaw19_PresetOnce.j0.eq_2 ..) (evIte (fun h0 => Ev.now _) (fun h0 => ?_))
    have pol := Pol.of (chk_zero h)
    have h0 : n ≠ 0 := by simpa using h0
    have h4 := pol.npre
    have h5 := pol.nsha
    have hl := cnt_le pol n (by omega)
    have hc : 2 ≤ cnt F L P S n := by unfold cnt; rw [if_neg (by omega)]; omega
    rw [wr n (by omega), wr i (by omega), wr j (by omega)]
    refine evC (count_eq B St F L P S C W pol n (by omega)) (evF (by omega) (evF (by omega) ?_))
    rw [tmod_pos i _ hi.1, tmod_pos j _ hj.1]
    have ha : 0 ≤ i % cnt F L P S n ∧ i % cnt F L P S n < cnt F L P S n := ⟨Int.emod_nonneg _ (by omega), Int.emod_lt_of_pos _ (by omega)⟩
    have hb : 0 ≤ j % cnt F L P S n ∧ j % cnt F L P S n < cnt F L P S n := ⟨Int.emod_nonneg _ (by omega), Int.emod_lt_of_pos _ (by omega)⟩
    have ha' : i % cnt F L P S n ≤ i := emod_le' hi.1 (by omega)
    have hb' : j % cnt F L P S n ≤ j := emod_le' hj.1 (by omega)
    generalize i % cnt F L P S n = a at ha ha'
    generalize j % cnt F L P S n = b at hb hb'
    have e1 := at_ev B St F L P S C W pol n a (by omega) (by omega)
    have e2 := at_ev B St F L P S C W pol n b (by omega) (by omega)
    rw [if_pos ha] at e1
    rw [if_pos hb] at e2
    refine evB e1 (evB e2 ?_)
    have h0' : (atc F L P S n a).1 ≤ 9223372036854775807 := by
      unfold atc
      by_cases a2 : a < 2
      · rw [if_pos a2]; simp only; omega
      · rw [if_neg a2]
        by_cases a3 : a - 2 < fxn F n
        · rw [if_pos a3]; simp
        · rw [if_neg a3]; simp
    refine evB (index_spec B St F L P S C W pol n _ _ _ _ (by omega) h0' (by omega) (by omega)) ?_
    rw [idxOf_at pol (by omega) ha]
    refine evT rfl (evT rfl (evT rfl (evT rfl (evT rfl (evT ?_ ?_)))))
    · simp only [beq_iff_eq]
      rw [Bool.eq_iff_iff]
      simp only [Bool.and_eq_true, beq_iff_eq]
      constructor
      · rintro ⟨x0, x1, x2, x3⟩
        exact atc_inj pol (by omega) ha hb (Prod.ext x0 (Prod.ext x1 (Prod.ext x2 x3)))
      · rintro rfl
        exact ⟨rfl, rfl, rfl, rfl⟩
    · refine evR (Ev.now _) ?_
      rw [decide_eq_true_iff]
      unfold atc
      by_cases a2 : a < 2
      · rw [if_pos a2]; simp only; omega
      · rw [if_neg a2]
        by_cases a3 : a - 2 < fxn F n
        · rw [if_pos a3]; simp only; unfold fxn at a3; omega
        · rw [if_neg a3]
          simp only
          obtain ⟨hp, ho, hs, hlt⟩ := many_pos (by omega) ha.2 a2 a3 (by omega)
          obtain ⟨d1, d2, d3, d4, d5, d6, d7, d8⟩ := divs hp ho (by omega) hlt
          have : odn L n ≤ n - 1 := by unfold odn at ho ⊢; omega
          omega
  · exact Ev.step (fun k => serinettelaw19_PresetOnce.j0.eq_2 ..) (evT rfl (Ev.now _))
end Go.Proofs.YtgdgncdnhpflcaaDoor.Pure
