/- The statement PresetMore: a block of more samples has no fewer choices, and those of one with fewer, in the same order. For a policy that can be, two blocks up to sixty. -/
import Derived.Test.YtgdgncdnhpflcaaDoorPPresetMorex6
import Derived.Test.YtgdgncdnhpflcaaDoorLEv
import Derived.Test.YtgdgncdnhpflcaaDoorLPol
import Derived.Test.YtgdgncdnhpflcaaDoorLPolAll
import Derived.Test.YtgdgncdnhpflcaaDoorFPresetMorePcheck
import Derived.Test.YtgdgncdnhpflcaaDoorFPresetMorePat
import Derived.Test.YtgdgncdnhpflcaaDoorFPresetMorePall
namespace Go.Proofs.YtgdgncdnhpflcaaDoor.Pure
open Go.RowKit Go.Proofs.YtgdgncdnhpflcaaDoorW.PrintWords Go.Proofs.YtgdgncdnhpflcaaDoorW.PrintLast Go.Proofs.YtgdgncdnhpflcaaDoor.PPresetMore Go.Proofs.YtgdgncdnhpflcaaDoor.L Go.Proofs.YtgdgncdnhpflcaaDoor.FPresetMore
set_option linter.unusedVariables false
set_option linter.unusedSimpArgs false
theorem awake19 : Ev (fun k => serinettelaw19_awake.f k) true := Ev.of (k := 40) serinettelaw19_awake.mono (by decide +kernel)
theorem sub_ne {α : Type} {a b : α} {l l' : List α} (e : ¬ b = a) (h : (a :: l).Sublist (b :: l')) : (a :: l).Sublist l' := by
  cases h with
  | cons _ h => exact h
  | cons_cons _ h => exact absurd rfl e
theorem more_end (x y : List S35) (h : x.length ≤ y.length) (j i : Int) (hj : j = x.length) :
    Ev (fun k => serinettelaw19_PresetMore.j1 k true x y j i false) true := by
  refine Ev.step (fun k => serinettelaw19_PresetMore.j1.eq_2 ..) (evF (by simp) (evT rfl (evT hj ?_)))
  exact evR (Ev.now _) (decide_eq_true (by omega))
theorem more_loop (x y : List S35) (hy : y.length ≤ 100000) (hxy : x.length ≤ y.length) (d : Nat) : ∀ (i j : Nat), i + d = y.length → j ≤ x.length → (x.drop j).Sublist (y.drop i) →
    Ev (fun k => serinettelaw19_PresetMore.l0 k true x y (j : Int) (i : Int)) true := by
  induction d with
  | zero =>
    intro i j hi hj h
    rw [List.drop_eq_nil_of_le (show y.length ≤ i by omega)] at h
    have h0 := List.drop_eq_nil_iff.mp (List.sublist_nil.mp h)
    refine Ev.step (fun k => serinettelaw19_PresetMore.l0.eq_2 ..) (evF (by omega) ?_)
    exact more_end x y hxy _ _ (by omega)
  | succ d ih =>
    intro i j hi hj h
    have hiy : i < y.length := by omega
    refine Ev.step (fun k => serinettelaw19_PresetMore.l0.eq_2 ..) (evT (by omega) ?_)
    by_cases hlt : j < x.length
    · rw [decide_eq_true (by omega)]
      refine Ev.step (fun k => serinettelaw19_PresetMore.j1.eq_2 ..) (evT rfl (evT (by omega) (evT (by omega) (evT (by omega) (evT (by omega) ?_)))))
      rw [rd35_nat y i hiy, rd35_nat x j hlt, wr ((j : Int) + 1) (by omega), wr ((i : Int) + 1) (by omega)]
      rw [drop_cons_rd' x j hlt, drop_cons_rd' y i hiy] at h
      refine evIte (fun e => ?_) (fun e => ?_)
      · rw [eq35] at e
        refine ih (i + 1) (j + 1) (by omega) (by omega) ?_
        rw [e] at h
        exact List.cons_sublist_cons.mp h
      · rw [eq35] at e
        refine ih (i + 1) j (by omega) (by omega) ?_
        rw [drop_cons_rd' x j hlt]
        exact sub_ne e h
    · rw [decide_eq_false (by omega)]
      exact more_end x y hxy _ _ (by omega)
theorem PresetMore : serinettelaw19_PresetMore.Pure := by
  intro B St F L P S C W a b wB wF wL hP _ hS _ wC wa wb
  have ha := wf_u8 wa
  have hb := wf_u8 wb
  unfold maxLen at hP hS
  refine Ev.rounds ?_
  unfold serinettelaw19_PresetMore.f
  refine evB awake19 (evB (check_ev B St F L P S C W (by omega) (by omega)) (evIte (fun h => ?_) (fun h => Ev.now _)))
  have pol := Pol.of (chk_zero h)
  rw [mn_eq, mx_eq, tmod_pos _ _ (by omega), tmod_pos _ _ (by omega), wr (_ % 61) (by omega), wr (_ % 9) (by omega), wr (_ + _) (by omega)]
  generalize hn : min a b % 61 = n
  generalize hm : n + max a b % 9 = m
  have h1 : 0 ≤ n ∧ n ≤ m ∧ m ≤ 100 := by omega
  refine evB (allp_ev B St F L P S C W pol n (by omega)) (evB (allp_ev B St F L P S C W pol m (by omega)) ?_)
  have hs := (all_sub F L P S h1.2.1).map mk35
  have hlen : (List.map mk35 (allT F L P S m)).length ≤ 100000 := by
    rw [← all_eq pol m, List.map_map, List.length_map, List.length_range]
    by_cases h : m < 1
    · unfold cnt; rw [if_pos h]; decide
    · have := cnt_le pol m (by omega)
      unfold cnt; rw [if_neg h]; omega
  exact more_loop _ _ hlen hs.length_le (List.map mk35 (allT F L P S m)).length 0 0 (by omega) (by omega) (by simpa using hs)
end Go.Proofs.YtgdgncdnhpflcaaDoor.Pure
