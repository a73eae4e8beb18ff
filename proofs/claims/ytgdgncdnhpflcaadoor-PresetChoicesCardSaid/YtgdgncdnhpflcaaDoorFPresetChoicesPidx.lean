import Derived.Test.YtgdgncdnhpflcaaDoorPPresetChoicesx10
import Derived.Test.YtgdgncdnhpflcaaDoorLEv
import Derived.Test.YtgdgncdnhpflcaaDoorLPol
import Derived.Test.YtgdgncdnhpflcaaDoorLPolIdx
import Derived.Test.YtgdgncdnhpflcaaDoorFPresetChoicesPindex
namespace Go.Proofs.YtgdgncdnhpflcaaDoor.FPresetChoices
open Go.RowKit Go.Proofs.YtgdgncdnhpflcaaDoorW.PrintWords Go.Proofs.YtgdgncdnhpflcaaDoorW.PrintLast Go.Proofs.YtgdgncdnhpflcaaDoor.PPresetChoices Go.Proofs.YtgdgncdnhpflcaaDoor.L
set_option linter.unusedVariables false
set_option linter.unusedSimpArgs false
/-- The number that is looked for, of a choice with a number, is that number. -/
theorem idx0_at {B F L : Int} {P S : List Int} {C n : Int} (pol : Pol B F L P S C) {i : Int} (hn : 1 ≤ n) (hi : 0 ≤ i ∧ i < cnt F L P S n) :
    idx0 F P S (odn L n) n (atc F L P S n i).1 (atc F L P S n i).2.1 (atc F L P S n i).2.2.1 (atc F L P S n i).2.2.2 = i := by
  have hl := cnt_le pol n hn
  have hc := hi.2
  unfold cnt at hc
  rw [if_neg (by omega)] at hc
  unfold atc idx0
  by_cases i2 : i < 2
  · rw [if_pos i2, if_pos (by simp only; omega)]
  · rw [if_neg i2]
    by_cases i3 : i - 2 < fxn F n
    · rw [if_pos i3, if_neg (by simp), if_pos rfl]
      simp only
      rw [wr (2 + (i - 2)) (by omega)]
      omega
    · rw [if_neg i3, if_neg (by simp), if_neg (by simp), if_pos rfl]
      simp only
      obtain ⟨hp, ho, hs, hlt⟩ := many_pos (by omega) hi.2 i2 i3 (by omega)
      obtain ⟨d1, d2, d3, d4, d5, d6, d7, d8⟩ := divs hp ho (by omega) hlt
      rw [where_at (ris_nodup pol.sha) d2 d3, where_at (ris_nodup pol.pre) d4 d5]
      have k1 := Int.mul_ediv_add_emod ((i - 2 - fxn F n) / (P.length : Int)) (odn L n)
      have k3 := Int.mul_ediv_add_emod (i - 2 - fxn F n) (P.length : Int)
      have k5 : (i - 2 - fxn F n) / (P.length : Int) / odn L n * odn L n + (i - 2 - fxn F n) / (P.length : Int) % odn L n = (i - 2 - fxn F n) / (P.length : Int) := by rw [Int.mul_comm]; exact k1
      have k6 : 0 ≤ (i - 2 - fxn F n) / (P.length : Int) / odn L n * odn L n := Int.mul_nonneg d2 (by omega)
      have k7 : (i - 2 - fxn F n) / (P.length : Int) * (P.length : Int) + (i - 2 - fxn F n) % (P.length : Int) = i - 2 - fxn F n := by rw [Int.mul_comm]; exact k3
      have k8 : 0 ≤ (i - 2 - fxn F n) / (P.length : Int) * (P.length : Int) := Int.mul_nonneg d1 (by omega)
      rw [wr (_ * odn L n) (by omega), wr (_ + (1 + _)) (by omega), show ∀ a b : Int, a + (1 + b) - 1 = a + b by omega, k5, wr ((i - 2 - fxn F n) / (P.length : Int)) (by omega), wr (_ * _) (by omega), wr (2 + fxn F n) (by omega), wr (2 + fxn F n + _) (by omega), wr (_ + _) (by omega)]
      omega
theorem idxOf_at {B F L : Int} {P S : List Int} {C n : Int} (pol : Pol B F L P S C) {i : Int} (hn : 1 ≤ n) (hi : 0 ≤ i ∧ i < cnt F L P S n) :
    idxOf F L P S (odn L n) n (atc F L P S n i).1 (atc F L P S n i).2.1 (atc F L P S n i).2.2.1 (atc F L P S n i).2.2.2 = (i, true) := by
  unfold idxOf
  rw [idx0_at pol hn hi, if_pos ⟨hi.1, hi.2, rfl⟩]
end Go.Proofs.YtgdgncdnhpflcaaDoor.FPresetChoices
