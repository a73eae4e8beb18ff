import Derived.Test.YtgdgncdnhpflcaaDoorWMore
import Derived.Test.YtgdgncdnhpflcaaDoorWLast
import Derived.Test.YtgdgncdnhpflcaaDoorLEv
import Derived.Test.YtgdgncdnhpflcaaDoorLPol
namespace Go.Proofs.YtgdgncdnhpflcaaDoor.L
open Go.RowKit Go.Proofs.YtgdgncdnhpflcaaDoorW.PrintWords Go.Proofs.YtgdgncdnhpflcaaDoorW.PrintLast
set_option linter.unusedVariables false
set_option linter.unusedSimpArgs false
theorem atc_inj {B F L : Int} {P S : List Int} {C n : Int} (pol : Pol B F L P S C) {i j : Int} (hn : 1 ≤ n) (hi : 0 ≤ i ∧ i < cnt F L P S n) (hj : 0 ≤ j ∧ j < cnt F L P S n) (h : atc F L P S n i = atc F L P S n j) : i = j := by
  have hl := cnt_le pol n hn
  unfold atc at h
  by_cases i2 : i < 2
  · rw [if_pos i2] at h
    by_cases j2 : j < 2
    · rw [if_pos j2] at h
      exact (Prod.mk.inj h).1
    · rw [if_neg j2] at h
      by_cases j3 : j - 2 < fxn F n
      · rw [if_pos j3] at h; have := (Prod.mk.inj h).1; omega
      · rw [if_neg j3] at h; have := (Prod.mk.inj h).1; omega
  · rw [if_neg i2] at h
    by_cases i3 : i - 2 < fxn F n
    · rw [if_pos i3] at h
      by_cases j2 : j < 2
      · rw [if_pos j2] at h; have := (Prod.mk.inj h).1; omega
      · rw [if_neg j2] at h
        by_cases j3 : j - 2 < fxn F n
        · rw [if_pos j3] at h; have := (Prod.mk.inj (Prod.mk.inj h).2).1; omega
        · rw [if_neg j3] at h; have := (Prod.mk.inj h).1; omega
    · rw [if_neg i3] at h
      by_cases j2 : j < 2
      · rw [if_pos j2] at h; have := (Prod.mk.inj h).1; omega
      · rw [if_neg j2] at h
        by_cases j3 : j - 2 < fxn F n
        · rw [if_pos j3] at h; have := (Prod.mk.inj h).1; omega
        · rw [if_neg j3] at h
          simp only [Prod.mk.injEq] at h
          obtain ⟨_, h1, h2, h3⟩ := h
          obtain ⟨hp, ho, hs, hlt⟩ := many_pos (by omega) hi.2 i2 i3 (by omega)
          obtain ⟨_, _, _, hlt'⟩ := many_pos (by omega) hj.2 j2 j3 (by omega)
          obtain ⟨d1, d2, d3, d4, d5, d6, d7, d8⟩ := divs hp ho (by omega) hlt
          obtain ⟨f1, f2, f3, f4, f5, f6, f7, f8⟩ := divs hp ho (by omega) hlt'
          have g1 := rd_inj (ris_nodup pol.sha) d2 d3 f2 f3 h2
          have g2 := rd_inj (ris_nodup pol.pre) d4 d5 f4 f5 h3
          have k1 := Int.mul_ediv_add_emod ((i - 2 - fxn F n) / (P.length : Int)) (odn L n)
          have k2 := Int.mul_ediv_add_emod ((j - 2 - fxn F n) / (P.length : Int)) (odn L n)
          have g3 : (i - 2 - fxn F n) / (P.length : Int) = (j - 2 - fxn F n) / (P.length : Int) := by
            rw [← k1, ← k2, g1, show (i - 2 - fxn F n) / (P.length : Int) % odn L n = (j - 2 - fxn F n) / (P.length : Int) % odn L n by omega]
          have k3 := Int.mul_ediv_add_emod (i - 2 - fxn F n) (P.length : Int)
          have k4 := Int.mul_ediv_add_emod (j - 2 - fxn F n) (P.length : Int)
          rw [g3, g2] at k3
          omega
theorem emod_le' {a n : Int} (h : 0 ≤ a) (hn : 0 < n) : a % n ≤ a := by
  have h1 := Int.mul_ediv_add_emod a n
  have h2 := Int.mul_nonneg (Int.le_of_lt hn) (Int.ediv_nonneg h (Int.le_of_lt hn))
  omega
end Go.Proofs.YtgdgncdnhpflcaaDoor.L
