import Derived.Test.YtgdgncdnhpflcaaDoorPPresetChoicesx10
import Derived.Test.YtgdgncdnhpflcaaDoorLEv
import Derived.Test.YtgdgncdnhpflcaaDoorLPol
import Derived.Test.YtgdgncdnhpflcaaDoorLPolAll
import Derived.Test.YtgdgncdnhpflcaaDoorFPresetChoicesPall
namespace Go.Proofs.YtgdgncdnhpflcaaDoor.FPresetChoices
open Go.RowKit Go.Proofs.YtgdgncdnhpflcaaDoorW.PrintWords Go.Proofs.YtgdgncdnhpflcaaDoorW.PrintLast Go.Proofs.YtgdgncdnhpflcaaDoor.PPresetChoices Go.Proofs.YtgdgncdnhpflcaaDoor.L
set_option linter.unusedVariables false
set_option linter.unusedSimpArgs false
theorem ne35 (a b : S35) : (!(a.f0 == b.f0) || (!(a.f1 == b.f1) || (!(a.f2 == b.f2) || (!(a.f3 == b.f3))))) = true ↔ a ≠ b := by
  rw [← Bool.not_and, ← Bool.not_and, ← Bool.not_and, Bool.not_eq_true', ← Bool.not_eq_true, not_congr (eq35 a b)]
theorem rsame_loop (a : List S35) (hl : a.length ≤ 1000000) (d : Nat) : ∀ (i : Nat), i + d = a.length → Ev (fun k => serinetteref19_Same.l0 k a a (i : Int)) true := by
  induction d with
  | zero =>
    intro i hi
    exact Ev.step (fun k => serinetteref19_Same.l0.eq_2 ..) (evF (by omega) (Ev.now _))
  | succ d ih =>
    intro i hi
    refine Ev.step (fun k => serinetteref19_Same.l0.eq_2 ..) (evT (by omega) (evT (by omega) (evT (by omega) (evF ?_ ?_))))
    · rw [ne35]; simp
    · rw [wr _ (by omega)]
      exact ih (i + 1) (by omega)
theorem rsame_ev (a : List S35) (hl : a.length ≤ 1000000) : Ev (fun k => serinetteref19_Same.f k a a) true := by
  unfold serinetteref19_Same.f
  exact evT rfl (rsame_loop a hl a.length 0 (by omega))
theorem rat_none (w : List S35) (c : S35) (hl : w.length ≤ 1000000) (d : Nat) : ∀ (i : Nat), i + d = w.length → (∀ j, ∀ h : j < w.length, w[j] ≠ c) → Ev (fun k => serinetteref19_At.l0 k w (i : Int) c.f0 c.f1 c.f2 c.f3) (-1) := by
  induction d with
  | zero =>
    intro i hi hn
    exact Ev.step (fun k => serinetteref19_At.l0.eq_2 ..) (evF (by omega) (Ev.now _))
  | succ d ih =>
    intro i hi hn
    have hlt : i < w.length := by omega
    refine Ev.step (fun k => serinetteref19_At.l0.eq_2 ..) (evT (by omega) (evT (by omega) (evF ?_ ?_)))
    · rw [rd35_nat w i hlt, eq35]; exact hn i hlt
    · rw [wr _ (by omega)]
      exact ih (i + 1) (by omega) hn
theorem rat_some (w : List S35) (c : S35) (hl : w.length ≤ 1000000) (a : Nat) (ha : a < w.length) (he : w[a] = c) (d : Nat) : ∀ (i : Nat), i + d = a → (∀ j, ∀ h : j < a, w[j] ≠ c) → Ev (fun k => serinetteref19_At.l0 k w (i : Int) c.f0 c.f1 c.f2 c.f3) (a : Int) := by
  induction d with
  | zero =>
    intro i hi hn
    obtain rfl : i = a := by omega
    refine Ev.step (fun k => serinetteref19_At.l0.eq_2 ..) (evT (by omega) (evT (by omega) (evT ?_ (Ev.now _))))
    rw [rd35_nat w i ha, eq35]; exact he
  | succ d ih =>
    intro i hi hn
    have hlt : i < w.length := by omega
    refine Ev.step (fun k => serinetteref19_At.l0.eq_2 ..) (evT (by omega) (evT (by omega) (evF ?_ ?_)))
    · rw [rd35_nat w i hlt, eq35]; exact hn i (by omega)
    · rw [wr _ (by omega)]
      exact ih (i + 1) (by omega) hn
end Go.Proofs.YtgdgncdnhpflcaaDoor.FPresetChoices
