import Derived.Test.YtgdgncdnhpflcaaDoorPPresetChoicesx10
import Derived.Test.YtgdgncdnhpflcaaDoorLEv
import Derived.Test.YtgdgncdnhpflcaaDoorLPol
import Derived.Test.YtgdgncdnhpflcaaDoorLPolAll
import Derived.Test.YtgdgncdnhpflcaaDoorFPresetChoicesPat
namespace Go.Proofs.YtgdgncdnhpflcaaDoor.FPresetChoices
open Go.RowKit Go.Proofs.YtgdgncdnhpflcaaDoorW.PrintWords Go.Proofs.YtgdgncdnhpflcaaDoorW.PrintLast Go.Proofs.YtgdgncdnhpflcaaDoor.PPresetChoices Go.Proofs.YtgdgncdnhpflcaaDoor.L
set_option linter.unusedVariables false
set_option linter.unusedSimpArgs false
def mk35 (t : Q4) : S35 := ⟨t.1, t.2.1, t.2.2.1, t.2.2.2⟩
theorem mk35_inj {a b : Q4} (h : mk35 a = mk35 b) : a = b := by
  simp only [mk35, S35.mk.injEq] at h
  exact Prod.ext h.1 (Prod.ext h.2.1 (Prod.ext h.2.2.1 h.2.2.2))
theorem eq35 (a b : S35) : ((a.f0 == b.f0) && ((a.f1 == b.f1) && ((a.f2 == b.f2) && (a.f3 == b.f3)))) = true ↔ a = b := by
  obtain ⟨a0, a1, a2, a3⟩ := a
  obtain ⟨b0, b1, b2, b3⟩ := b
  simp [Bool.and_eq_true]
theorem rd35_nat (xs : List S35) (i : Nat) (h : i < xs.length) : rd_T35 xs (i : Int) = xs[i] := by
  unfold rd_T35
  simp [List.getD_eq_getElem?_getD, List.getElem?_eq_getElem h]
section
variable (B : Int) (St : Bool) (F L : Int) (P S : List Int) (C : Int) (W : Bool) (pol : Pol B F L P S C)
include pol
theorem all_loop (n : Int) (hn : n ≤ 9223372036854775807) (d : Nat) : ∀ (i : Nat) (acc : List S35), i + d = (cnt F L P S n).toNat → i + d ≤ 1000 → acc.length = i →
    Ev (fun k => preset_All.l0 k n acc (cnt F L P S n) (i : Int) B St F L P S C W) (acc ++ ((List.range d).map (fun j : Nat => mk35 (atc F L P S n ((i + j : Nat) : Int))))) := by
  induction d with
  | zero =>
    intro i acc hi _ _
    refine Ev.step (fun k => preset_All.l0.eq_2 ..) (evF (by omega) ?_)
    simp only [List.range_zero, List.map_nil, List.append_nil]
    exact Ev.now _
  | succ d ih =>
    intro i acc hi hb ha
    refine Ev.step (fun k => preset_All.l0.eq_2 ..) (evT (by omega) ?_)
    have e := at_ev B St F L P S C W pol n i hn (by omega)
    rw [if_pos (by omega)] at e
    refine evB e (evT (by omega) ?_)
    rw [wr _ (by omega)]
    refine evR (ih (i + 1) _ (by omega) (by omega) (by simp [ha])) ?_
    rw [List.range_succ_eq_map, List.map_cons, List.map_map, List.append_assoc]
    congr 1
    simp only [Nat.add_zero, List.singleton_append]
    congr 1
    apply List.map_congr_left
    intro j _
    simp only [Function.comp_apply]
    rw [show i + 1 + j = i + (j + 1) by omega]
theorem allp_ev (n : Int) (hn : n ≤ 9223372036854775807) : Ev (fun k => preset_All.f k B St F L P S C W n) ((allT F L P S n).map mk35) := by
  unfold preset_All.f
  refine evC (count_eq B St F L P S C W pol n hn) ?_
  have hb : (cnt F L P S n).toNat ≤ 1000 := by
    by_cases h : n < 1
    · unfold cnt; rw [if_pos h]; decide
    · have := cnt_le pol n (by omega)
      unfold cnt; rw [if_neg h]; omega
  refine evR (all_loop B St F L P S C W pol n hn (cnt F L P S n).toNat 0 [] (by omega) (by omega) rfl) ?_
  rw [← all_eq pol n, List.map_map, List.nil_append]
  apply List.map_congr_left
  intro j _
  simp
end
end Go.Proofs.YtgdgncdnhpflcaaDoor.FPresetChoices
