import Derived.Test.YtgdgncdnhpflcaaDoorPPresetChoicesx10
import Derived.Test.YtgdgncdnhpflcaaDoorLEv
namespace Go.Proofs.YtgdgncdnhpflcaaDoor.FPresetChoices
open Go.RowKit Go.Proofs.YtgdgncdnhpflcaaDoorW.PrintWords Go.Proofs.YtgdgncdnhpflcaaDoorW.PrintLast Go.Proofs.YtgdgncdnhpflcaaDoor.PPresetChoices Go.Proofs.YtgdgncdnhpflcaaDoor.L
set_option linter.unusedVariables false
set_option linter.unusedSimpArgs false
theorem index_loop (l : List Int) (a : Int) (hl : l.length ≤ 9223372036854775806) (d : Nat) : ∀ (i : Nat), i + d = l.length →
    Ev (fun k => slices_Index_int_int.l0 k l a (l.length : Int) (i : Int)) (where_ a (l.drop i) i) := by
  induction d with
  | zero =>
    intro i hi
    refine Ev.step (fun k => slices_Index_int_int.l0.eq_2 ..) ?_
    refine evF (by omega) ?_
    rw [List.drop_eq_nil_of_le (by omega)]
    exact Ev.now _
  | succ d ih =>
    intro i hi
    have hlt : i < l.length := by omega
    refine Ev.step (fun k => slices_Index_int_int.l0.eq_2 ..) ?_
    refine evT (by omega) ?_
    refine evT (by omega) ?_
    refine evT (by omega) ?_
    rw [rd_nat l i hlt, drop_cons_rd l i hlt]
    unfold where_
    refine evIte (fun e => ?_) (fun e => ?_)
    · rw [if_pos e]; exact Ev.now _
    · rw [if_neg e, wr _ (by omega)]
      exact ih (i + 1) (by omega)
theorem index_ev (l : List Int) (a : Int) (hl : l.length ≤ 9223372036854775806) : Ev (fun k => slices_Index_int_int.f k l a) (where_ a l 0) := by
  unfold slices_Index_int_int.f
  exact index_loop l a hl l.length 0 (by omega)
end Go.Proofs.YtgdgncdnhpflcaaDoor.FPresetChoices
