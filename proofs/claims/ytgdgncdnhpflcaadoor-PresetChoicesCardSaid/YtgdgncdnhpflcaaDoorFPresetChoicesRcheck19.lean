import Derived.Test.YtgdgncdnhpflcaaDoorPPresetChoicesx10
import Derived.Test.YtgdgncdnhpflcaaDoorLEv
import Derived.Test.YtgdgncdnhpflcaaDoorLPol
namespace Go.Proofs.YtgdgncdnhpflcaaDoor.FPresetChoices
open Go.RowKit Go.Proofs.YtgdgncdnhpflcaaDoorW.PrintWords Go.Proofs.YtgdgncdnhpflcaaDoorW.PrintLast Go.Proofs.YtgdgncdnhpflcaaDoor.PPresetChoices Go.Proofs.YtgdgncdnhpflcaaDoor.L
set_option linter.unusedVariables false
set_option linter.unusedSimpArgs false
theorem rises_loop (l : List Int) (lo hi : Int) (hl : l.length ≤ 1000000) (d : Nat) : ∀ (i : Nat), i + d = l.length →
    Ev (fun k => serinetteref19_rises.l0 k l lo hi (i : Int)) (ris lo hi (if i = 0 then none else some (rd l ((i : Int) - 1))) (l.drop i)) := by
  induction d with
  | zero =>
    intro i hi'
    refine Ev.step (fun k => serinetteref19_rises.l0.eq_2 ..) ?_
    refine evF (by omega) ?_
    rw [List.drop_eq_nil_of_le (by omega)]
    exact Ev.now _
  | succ d ih =>
    intro i hi'
    have hlt : i < l.length := by omega
    have hs := ih (i + 1) (by omega)
    rw [if_neg (by omega), show ((i + 1 : Nat) : Int) - 1 = (i : Int) by omega, rd_nat l i hlt] at hs
    refine Ev.step (fun k => serinetteref19_rises.l0.eq_2 ..) (evT (by omega) (evT (by omega) ?_))
    rw [drop_cons_rd l i hlt, rd_nat l i hlt]
    simp only [ris]
    have bad : ∀ r : Bool, r = false → Ev (fun k => serinetteref19_rises.j1 k l lo hi (i : Int) true) r := fun r hr => hr ▸ Ev.step (fun k => serinetteref19_rises.j1.eq_2 ..) (evT rfl (Ev.now _))
    refine evIte (fun h => ?_) (fun h => ?_)
    · exact bad _ (by rw [decide_eq_false (by omega)]; rfl)
    · by_cases h2 : l[i] > hi
      · rw [decide_eq_true h2]
        exact bad _ (by rw [decide_eq_false (by omega)]; rfl)
      · rw [decide_eq_false h2, show decide (lo ≤ l[i] ∧ l[i] ≤ hi) = true from decide_eq_true (by omega)]
        refine Ev.step (fun k => serinetteref19_rises.j1.eq_2 ..) (evF (by simp) ?_)
        refine evIte (fun h0 => ?_) (fun h0 => ?_)
        · rw [wr ((i : Int) - 1) (by omega), if_neg (by omega), rd_nat l i hlt]
          refine evT (by omega) (evT (by omega) (evT (by omega) (evT (by omega) (evIte (fun h1 => ?_) (fun h1 => ?_)))))
          · simp only [decide_eq_false (show ¬ rd l ((i : Int) - 1) < l[i] by omega), Bool.and_false, Bool.false_and]
            exact Ev.now _
          · simp only [decide_eq_true (show rd l ((i : Int) - 1) < l[i] by omega), Bool.true_and]
            rw [wr ((i : Int) + 1) (by omega)]
            exact hs
        · rw [if_pos (by omega)]
          simp only [Bool.true_and]
          rw [wr ((i : Int) + 1) (by omega)]
          exact hs
theorem rises_ev (l : List Int) (most lo hi : Int) (hm : most ≤ 1000) : Ev (fun k => serinetteref19_rises.f k l most lo hi) (ris lo hi none l && decide ((l.length : Int) ≤ most)) := by
  unfold serinetteref19_rises.f
  refine evIte (fun h => ?_) (fun h => ?_)
  · rw [decide_eq_false (by omega), Bool.and_false]; exact Ev.now _
  · rw [decide_eq_true (by omega), Bool.and_true]
    exact rises_loop l lo hi (by omega) l.length 0 (by omega)
section
variable (B : Int) (St : Bool) (F L : Int) (P S : List Int) (C : Int) (W : Bool)
theorem rcheck_bad : Ev (fun k => serinetteref19_Check.j0 k true B St F L P S C W) 17 := Ev.step (fun k => serinetteref19_Check.j0.eq_2 ..) (evT rfl (Ev.now _))
theorem rcheck_j0 (hP : P.length ≤ 4) (hS : S.length ≤ 3) : Ev (fun k => serinetteref19_Check.j0 k false B St F L P S C W) (chk (!(decide (0 < L) && (decide ((P.length : Int) = 0) || decide ((S.length : Int) = 0))))) := by
  refine Ev.step (fun k => serinetteref19_Check.j0.eq_2 ..) (evF (by simp) (evIte (fun h1 => ?_) (fun h1 => ?_)))
  · have hm : 0 ≤ (P.length : Int) * (S.length : Int) ∧ (P.length : Int) * (S.length : Int) ≤ 4 * 3 := ⟨Int.mul_nonneg (by omega) (by omega), Int.mul_le_mul (by omega) (by omega) (by omega) (by omega)⟩
    rw [wr _ (by omega), decide_eq_true (show 0 < L by omega), Bool.true_and]
    refine evIte (fun h2 => ?_) (fun h2 => ?_)
    · rcases Int.mul_eq_zero.mp h2 with h | h
      · rw [decide_eq_true h]; exact Ev.now _
      · rw [decide_eq_true h, Bool.or_true]; exact Ev.now _
    · rw [decide_eq_false (fun h => h2 (by rw [h, Int.zero_mul])), decide_eq_false (fun h => h2 (by rw [h, Int.mul_zero]))]; exact Ev.now _
  · rw [decide_eq_false (show ¬ 0 < L by omega)]; exact Ev.now _
theorem rcheck_ev : Ev (fun k => serinetteref19_Check.f k B St F L P S C W) (chk (polB B F L P S C)) := by
  have bad : polB B F L P S C = false → Ev (fun k => serinetteref19_Check.j0 k true B St F L P S C W) (chk (polB B F L P S C)) := fun h => by rw [h]; exact rcheck_bad B St F L P S C W
  have no : ¬ (-1 ≤ F ∧ F ≤ 4) ∨ ¬ (0 ≤ L ∧ L ≤ 32) ∨ ¬ (1 ≤ B ∧ B ≤ 65535) ∨ ¬ (0 ≤ C ∧ C ≤ 8) → polB B F L P S C = false := by
    intro h
    unfold polB
    rcases h with h | h | h | h <;> rw [decide_eq_false h] <;> simp
  unfold serinetteref19_Check.f
  refine evB (rises_ev P 4 2 15 (by omega)) (evB (rises_ev S 3 0 2 (by omega)) ?_)
  refine evIte (fun h => bad (no (by omega))) (fun h1 => evIte (fun h => bad (no (by omega))) (fun h2 => evIte (fun h => bad (no (by omega))) (fun h3 => evIte (fun h => bad (no (by omega))) (fun h4 => ?_))))
  refine evIte (fun h => bad (no (by omega))) (fun h5 => evIte (fun h => bad (no (by omega))) (fun h6 => evIte (fun h => bad (no (by omega))) (fun h7 => evIte (fun h => bad (no (by omega))) (fun h8 => ?_))))
  have e : polB B F L P S C = ((ris 2 15 none P && decide ((P.length : Int) ≤ 4)) && ((ris 0 2 none S && decide ((S.length : Int) ≤ 3)) && !(decide (0 < L) && (decide ((P.length : Int) = 0) || decide ((S.length : Int) = 0))))) := by
    unfold polB
    rw [decide_eq_true (show -1 ≤ F ∧ F ≤ 4 by omega), decide_eq_true (show 0 ≤ L ∧ L ≤ 32 by omega), decide_eq_true (show 1 ≤ B ∧ B ≤ 65535 by omega), decide_eq_true (show 0 ≤ C ∧ C ≤ 8 by omega)]
    simp only [Bool.true_and]
  refine evIte (fun h => ?_) (fun h => ?_)
  · rw [e, h, Bool.true_and]
    by_cases h' : (ris 0 2 none S && decide ((S.length : Int) ≤ 3)) = true
    · rw [h']
      simp only [Bool.and_eq_true, decide_eq_true_eq] at h h'
      exact rcheck_j0 B St F L P S C W (by omega) (by omega)
    · rw [Bool.eq_false_iff.mpr h']
      exact rcheck_bad B St F L P S C W
  · rw [e, Bool.eq_false_iff.mpr h]
    exact rcheck_bad B St F L P S C W
end
end Go.Proofs.YtgdgncdnhpflcaaDoor.FPresetChoices
