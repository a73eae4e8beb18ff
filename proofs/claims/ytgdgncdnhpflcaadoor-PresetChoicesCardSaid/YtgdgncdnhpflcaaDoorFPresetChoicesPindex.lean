import Derived.Test.YtgdgncdnhpflcaaDoorPPresetChoicesx10
import Derived.Test.YtgdgncdnhpflcaaDoorLEv
import Derived.Test.YtgdgncdnhpflcaaDoorLPol
import Derived.Test.YtgdgncdnhpflcaaDoorFPresetChoicesPat
import Derived.Test.YtgdgncdnhpflcaaDoorFPresetChoicesIndex
namespace Go.Proofs.YtgdgncdnhpflcaaDoor.FPresetChoices
open Go.RowKit Go.Proofs.YtgdgncdnhpflcaaDoorW.PrintWords Go.Proofs.YtgdgncdnhpflcaaDoorW.PrintLast Go.Proofs.YtgdgncdnhpflcaaDoor.PPresetChoices Go.Proofs.YtgdgncdnhpflcaaDoor.L
set_option linter.unusedVariables false
set_option linter.unusedSimpArgs false
section
variable (B : Int) (St : Bool) (F L : Int) (P S : List Int) (C : Int) (W : Bool)
/-- The number that is looked for. -/
def idx0 (o n c0 c1 c2 c3 : Int) : Int :=
  if c0 = 0 ∨ c0 = 1 then c0 else if c0 = 2 then wrap64 (2 + c1) else if c0 = 3 then
    wrap64 ((wrap64 ((wrap64 (2 + fxn F n)) + (wrap64 ((wrap64 ((wrap64 ((wrap64 (where_ c2 S 0 * o)) + c1)) - 1)) * (P.length : Int))))) + where_ c3 P 0)
  else 0
def idxOf (o n c0 c1 c2 c3 : Int) : Int × Bool :=
  if 0 ≤ idx0 F P S o n c0 c1 c2 c3 ∧ idx0 F P S o n c0 c1 c2 c3 < cnt F L P S n ∧ atc F L P S n (idx0 F P S o n c0 c1 c2 c3) = (c0, c1, c2, c3) then (idx0 F P S o n c0 c1 c2 c3, true) else (0, false)
theorem idx_end (n i c0 c1 c2 c3 : Int) (pol : Pol B F L P S C) (hn : n ≤ 9223372036854775807) (hi : i ≤ 9223372036854775807) :
    Ev (fun k => (preset_At.f k B St F L P S C W n i).bind fun bt => (if bt.2.2.2.2 = true then (if (!(bt.1 == c0) || (!(bt.2.1 == c1) || (!(bt.2.2.1 == c2) || (!(bt.2.2.2.1 == c3))))) = true then (some ((0 : Int), false)) else (some (i, true))) else (some (0, false))))
      (if 0 ≤ i ∧ i < cnt F L P S n ∧ atc F L P S n i = (c0, c1, c2, c3) then (i, true) else (0, false)) := by
  refine evB (at_ev B St F L P S C W pol n i hn hi) ?_
  by_cases h : 0 ≤ i ∧ i < cnt F L P S n
  · rw [if_pos h]
    refine evT rfl ?_
    by_cases e : atc F L P S n i = (c0, c1, c2, c3)
    · refine evR ?_ (if_pos ⟨h.1, h.2, e⟩).symm
      rw [e]
      exact evF (by simp) (Ev.now _)
    · refine evR ?_ (if_neg (fun x => e x.2.2)).symm
      refine evT ?_ (Ev.now _)
      revert e
      generalize atc F L P S n i = z
      obtain ⟨a, b, c, d⟩ := z
      intro e
      simp only [Prod.mk.injEq] at e
      simp only [Bool.or_eq_true, Bool.not_eq_true', beq_eq_false_iff_ne]
      by_cases e0 : a = c0
      · by_cases e1 : b = c1
        · by_cases e2 : c = c2
          · exact .inr (.inr (.inr (fun e3 => e ⟨e0, e1, e2, e3⟩)))
          · exact .inr (.inr (.inl e2))
        · exact .inr (.inl e1)
      · exact .inl e0
  · rw [if_neg h]
    refine evR ?_ (if_neg (fun x => h ⟨x.1, x.2.1⟩)).symm
    exact evF (by simp) (Ev.now _)
variable (pol : Pol B F L P S C)
include pol
theorem index_gen (o n c0 c1 c2 c3 : Int) (ho : preset_orders.f B St F L P S C W n = some o) (hn : n ≤ 9223372036854775807) (h0 : c0 ≤ 9223372036854775807) (hP : P.length ≤ 9223372036854775806) (hS : S.length ≤ 9223372036854775806) :
    Ev (fun k => preset_Index.f k B St F L P S C W n c0 c1 c2 c3) (idxOf F L P S o n c0 c1 c2 c3) := by
  have hw : ∀ z : Int, wrap64 z ≤ 9223372036854775807 := fun z => by unfold wrap64; omega
  unfold preset_Index.f idxOf
  refine evC ho ?_
  by_cases e0 : c0 = 0
  · have hx : idx0 F P S o n c0 c1 c2 c3 = c0 := by unfold idx0; rw [if_pos (.inl e0)]
    rw [hx]
    refine evT e0 (Ev.step (fun k => preset_Index.j0.eq_2 ..) (evT (by simp [e0]) ?_))
    exact idx_end B St F L P S C W n c0 c0 c1 c2 c3 pol hn h0
  · refine evF e0 (Ev.step (fun k => preset_Index.j0.eq_2 ..) ?_)
    by_cases e1 : c0 = 1
    · have hx : idx0 F P S o n c0 c1 c2 c3 = c0 := by unfold idx0; rw [if_pos (.inr e1)]
      rw [hx]
      refine evT (by simp [e1]) ?_
      exact idx_end B St F L P S C W n c0 c0 c1 c2 c3 pol hn h0
    · refine evF (by simpa using e1) ?_
      by_cases e2 : c0 = 2
      · have hx : idx0 F P S o n c0 c1 c2 c3 = wrap64 (2 + c1) := by unfold idx0; rw [if_neg (by omega), if_pos e2]
        rw [hx]
        exact evT e2 (idx_end B St F L P S C W n _ c0 c1 c2 c3 pol hn (hw _))
      · refine evF e2 ?_
        by_cases e3 : c0 = 3
        · have hx : idx0 F P S o n c0 c1 c2 c3 = wrap64 ((wrap64 ((wrap64 (2 + fxn F n)) + (wrap64 ((wrap64 ((wrap64 ((wrap64 (where_ c2 S 0 * o)) + c1)) - 1)) * (P.length : Int))))) + where_ c3 P 0) := by unfold idx0; rw [if_neg (by omega), if_neg e2, if_pos e3]
          rw [hx]
          refine evT e3 (evB (index_ev S c2 hS) (evB (index_ev P c3 hP) (evC (fixed_eq B St F L P S C W n pol.fix) ?_)))
          exact idx_end B St F L P S C W n _ c0 c1 c2 c3 pol hn (hw _)
        · have hx : idx0 F P S o n c0 c1 c2 c3 = 0 := by unfold idx0; rw [if_neg (by omega), if_neg e2, if_neg e3]
          rw [hx]
          exact evF e3 (idx_end B St F L P S C W n _ c0 c1 c2 c3 pol hn (by omega))
theorem index_spec (n c0 c1 c2 c3 : Int) (hn : 1 ≤ n ∧ n ≤ 9223372036854775807) (h0 : c0 ≤ 9223372036854775807) (hP : P.length ≤ 9223372036854775806) (hS : S.length ≤ 9223372036854775806) :
    Ev (fun k => preset_Index.f k B St F L P S C W n c0 c1 c2 c3) (idxOf F L P S (odn L n) n c0 c1 c2 c3) :=
  index_gen B St F L P S C W pol (odn L n) n c0 c1 c2 c3 (orders_eq B St F L P S C W n hn) hn.2 h0 hP hS
theorem index_none (n c0 c1 c2 c3 : Int) (hn : n < 1) (h0 : c0 ≤ 9223372036854775807) (hP : P.length ≤ 9223372036854775806) (hS : S.length ≤ 9223372036854775806) :
    Ev (fun k => preset_Index.f k B St F L P S C W n c0 c1 c2 c3) (0, false) := by
  refine evR (index_gen B St F L P S C W pol _ n c0 c1 c2 c3 rfl (by omega) h0 hP hS) ?_
  unfold idxOf
  rw [if_neg]
  rintro ⟨h1, h2, _⟩
  unfold cnt at h2
  rw [if_pos hn] at h2
  omega
end
end Go.Proofs.YtgdgncdnhpflcaaDoor.FPresetChoices
