import Derived.Test.YtgdgncdnhpflcaaDoorPPresetMorex6
import Derived.Test.YtgdgncdnhpflcaaDoorLEv
import Derived.Test.YtgdgncdnhpflcaaDoorLPol
namespace Go.Proofs.YtgdgncdnhpflcaaDoor.FPresetMore
open Go.RowKit Go.Proofs.YtgdgncdnhpflcaaDoorW.PrintWords Go.Proofs.YtgdgncdnhpflcaaDoorW.PrintLast Go.Proofs.YtgdgncdnhpflcaaDoor.PPresetMore Go.Proofs.YtgdgncdnhpflcaaDoor.L
set_option linter.unusedVariables false
set_option linter.unusedSimpArgs false
theorem within_eq (a lo hi : Int) : preset_within.f a lo hi = some (decide (lo ≤ a ∧ a ≤ hi)) := by
  unfold preset_within.f
  by_cases h : a ≥ lo
  · rw [if_pos h]
    congr 1
    exact decide_eq_decide.mpr ⟨fun x => ⟨h, x⟩, fun x => x.2⟩
  · rw [if_neg h, decide_eq_false (fun x => h x.1)]
theorem rising_loop (l : List Int) (most lo hi : Int) (hl : l.length ≤ 9223372036854775807) (d : Nat) : ∀ (i : Nat), i + d = l.length →
    Ev (fun k => preset_rising.l0 k l most lo hi l (l.length : Int) (i : Int)) (ris lo hi (if i = 0 then none else some (rd l ((i : Int) - 1))) (l.drop i) && decide ((l.length : Int) ≤ most)) := by
  induction d with
  | zero =>
    intro i hi'
    refine Ev.step (fun k => preset_rising.l0.eq_2 ..) ?_
    refine evF (by omega) ?_
    rw [List.drop_eq_nil_of_le (by omega)]
    exact Ev.now _
  | succ d ih =>
    intro i hi'
    have hlt : i < l.length := by omega
    refine Ev.step (fun k => preset_rising.l0.eq_2 ..) ?_
    refine evT (by omega) (evT (by omega) (evT (by omega) ?_))
    refine evC (within_eq _ _ _) ?_
    rw [drop_cons_rd l i hlt, rd_nat l i hlt]
    simp only [ris]
    have hs := ih (i + 1) (by omega)
    rw [if_neg (by omega), show ((i + 1 : Nat) : Int) - 1 = (i : Int) by omega, rd_nat l i hlt] at hs
    by_cases h : lo ≤ l[i] ∧ l[i] ≤ hi
    · rw [decide_eq_true h]
      refine evT rfl ?_
      refine evIte (fun h0 => ?_) (fun h0 => ?_)
      · rw [wr ((i : Int) - 1) (by omega), if_neg (by omega)]
        refine evT (by omega) (evT (by omega) (evIte (fun h1 => ?_) (fun h1 => ?_)))
        · simp only [decide_eq_false (show ¬ rd l ((i : Int) - 1) < l[i] by omega), Bool.and_false, Bool.false_and]
          exact Ev.now _
        · simp only [decide_eq_true (show rd l ((i : Int) - 1) < l[i] by omega), Bool.true_and]
          rw [wr ((i : Int) + 1) (by omega)]
          exact hs
      · rw [if_pos (by omega)]
        simp only [Bool.true_and]
        rw [wr ((i : Int) + 1) (by omega)]
        exact hs
    · rw [decide_eq_false h]
      refine evF (by simp) ?_
      simp only [Bool.false_and]
      exact Ev.now _
theorem rising_ev (l : List Int) (most lo hi : Int) (hl : l.length ≤ 9223372036854775807) : Ev (fun k => preset_rising.f k l most lo hi) (ris lo hi none l && decide ((l.length : Int) ≤ most)) := by
  unfold preset_rising.f
  exact rising_loop l most lo hi hl l.length 0 (by omega)
section
variable (B : Int) (St : Bool) (F L : Int) (P S : List Int) (C : Int) (W : Bool)
theorem check_j2 (x : Bool) : Ev (fun k => preset_Check.j2 k x B St F L P S C W) (chk (!x && !(decide (0 < L) && (decide ((P.length : Int) = 0) || decide ((S.length : Int) = 0))))) := by
  refine Ev.step (fun k => preset_Check.j2.eq_2 ..) ?_
  cases x
  · refine evF (by simp) (evIte (fun h1 => evIte (fun h2 => ?_) (fun h2 => evIte (fun h3 => ?_) (fun h3 => ?_))) (fun h1 => ?_))
    · exact evR (Ev.now _) (by simp [chk, show 0 < L from h1, h2])
    · exact evR (Ev.now _) (by simp [chk, show 0 < L from h1, h3])
    · exact evR (Ev.now _) (by simp only [chk, decide_eq_false h2, decide_eq_false h3]; simp)
    · exact evR (Ev.now _) (by simp [chk, show ¬ 0 < L from h1])
  · exact evT rfl (evR (Ev.now _) (by simp [chk]))
theorem check_j1 (x y : Bool) : Ev (fun k => preset_Check.j1 k x y B St F L P S C W) (chk (x && (y && (decide (1 ≤ B ∧ B ≤ 65535) && (decide (0 ≤ C ∧ C ≤ 8) && !(decide (0 < L) && (decide ((P.length : Int) = 0) || decide ((S.length : Int) = 0)))))))) := by
  refine Ev.step (fun k => preset_Check.j1.eq_2 ..) ?_
  cases x
  · exact evF (by simp) (evR (check_j2 B St F L P S C W true) (by simp))
  · cases y
    · exact evT rfl (evF (by simp) (evR (check_j2 B St F L P S C W true) (by simp)))
    · refine evT rfl (evT rfl (evC (within_eq _ _ _) (evIte (fun h => evC (within_eq _ _ _) ?_) (fun h => ?_))))
      · rw [h]; exact evR (check_j2 B St F L P S C W _) (by simp only [Bool.not_not, Bool.true_and])
      · rw [Bool.eq_false_iff.mpr h]; exact evR (check_j2 B St F L P S C W true) (by simp)
theorem check_j0 (x : Bool) (hP : P.length ≤ 9223372036854775807) (hS : S.length ≤ 9223372036854775807) : Ev (fun k => preset_Check.j0 k x B St F L P S C W)
    (chk (x && ((ris 2 15 none P && decide ((P.length : Int) ≤ 4)) && ((ris 0 2 none S && decide ((S.length : Int) ≤ 3)) && (decide (1 ≤ B ∧ B ≤ 65535) && (decide (0 ≤ C ∧ C ≤ 8) && !(decide (0 < L) && (decide ((P.length : Int) = 0) || decide ((S.length : Int) = 0))))))))) := by
  refine Ev.step (fun k => preset_Check.j0.eq_2 ..) ?_
  refine evB (rising_ev P 4 2 15 hP) (evIte (fun h => evB (rising_ev S 3 0 2 hS) ?_) (fun h => ?_))
  · rw [h]; exact evR (check_j1 B St F L P S C W x _) (by simp only [Bool.true_and])
  · rw [Bool.eq_false_iff.mpr h]; exact evR (check_j1 B St F L P S C W x false) (by simp)
theorem check_ev (hP : P.length ≤ 9223372036854775807) (hS : S.length ≤ 9223372036854775807) : Ev (fun k => preset_Check.f k B St F L P S C W) (chk (polB B F L P S C)) := by
  unfold preset_Check.f polB
  refine evC (within_eq _ _ _) (evIte (fun h => evC (within_eq _ _ _) ?_) (fun h => ?_))
  · rw [h]; exact evR (check_j0 B St F L P S C W _ hP hS) (by simp only [Bool.true_and])
  · rw [Bool.eq_false_iff.mpr h]; exact evR (check_j0 B St F L P S C W false hP hS) (by simp)
end
end Go.Proofs.YtgdgncdnhpflcaaDoor.FPresetMore
