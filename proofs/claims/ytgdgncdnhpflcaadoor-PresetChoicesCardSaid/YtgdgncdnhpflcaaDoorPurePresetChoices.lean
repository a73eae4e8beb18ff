/- The statement PresetChoices: the choices of any policy that can be, for a block of any size, how many there are, which one has any number, and which number any has, is as the document says. For any block up to a hundred, or none; any number; any choice. -/
import Derived.Test.YtgdgncdnhpflcaaDoorPPresetChoicesx10
import Derived.Test.YtgdgncdnhpflcaaDoorLEv
import Derived.Test.YtgdgncdnhpflcaaDoorLPol
import Derived.Test.YtgdgncdnhpflcaaDoorLPolIdx
import Derived.Test.YtgdgncdnhpflcaaDoorLPolAll
import Derived.Test.YtgdgncdnhpflcaaDoorFPresetChoicesRcheck19
import Derived.Test.YtgdgncdnhpflcaaDoorFPresetChoicesPat
import Derived.Test.YtgdgncdnhpflcaaDoorFPresetChoicesPall
import Derived.Test.YtgdgncdnhpflcaaDoorFPresetChoicesPindex
import Derived.Test.YtgdgncdnhpflcaaDoorFPresetChoicesPidx
import Derived.Test.YtgdgncdnhpflcaaDoorFPresetChoicesRall19
import Derived.Test.YtgdgncdnhpflcaaDoorFPresetChoicesRsame19
namespace Go.Proofs.YtgdgncdnhpflcaaDoor.Pure
open Go.RowKit Go.Proofs.YtgdgncdnhpflcaaDoorW.PrintWords Go.Proofs.YtgdgncdnhpflcaaDoorW.PrintLast Go.Proofs.YtgdgncdnhpflcaaDoor.PPresetChoices Go.Proofs.YtgdgncdnhpflcaaDoor.L Go.Proofs.YtgdgncdnhpflcaaDoor.FPresetChoices
set_option linter.unusedVariables false
set_option linter.unusedSimpArgs false
theorem awake19 : Ev (fun k => serinettelaw19_awake.f k) true := Ev.of (k := 40) serinettelaw19_awake.mono (by decide +kernel)
section
variable (B : Int) (St : Bool) (F L : Int) (P S : List Int) (C : Int) (W : Bool) (pol : Pol B F L P S C)
include pol
theorem cnt_small (n : Int) : 0 ≤ cnt F L P S n ∧ cnt F L P S n ≤ 1000 := by
  by_cases h : n < 1
  · unfold cnt; rw [if_pos h]; omega
  · have := cnt_le pol n (by omega)
    unfold cnt; rw [if_neg h]; omega
theorem allw_len (n : Int) : (((allT F L P S n).map mk35).length : Int) = cnt F L P S n := by
  have := cnt_small B F L P S C pol n
  rw [← all_eq pol n, List.map_map, List.length_map, List.length_range]
  omega
theorem allw_get (n : Int) (i : Nat) (h : i < ((allT F L P S n).map mk35).length) : ((allT F L P S n).map mk35)[i] = mk35 (atc F L P S n (i : Int)) := by
  simp only [← all_eq pol n, List.getElem_map, List.getElem_range]
theorem last_step (n c0 c1 c2 c3 : Int) (hn : n ≤ 100) (h0 : c0 ≤ 9223372036854775807) :
    Ev (fun k => serinettelaw19_PresetChoices.j2 k n true ((allT F L P S n).map mk35) false B St F L P S C W c0 c1 c2 c3) true := by
  have hlen := allw_len B F L P S C pol n
  have hs := cnt_small B F L P S C pol n
  have h4 := pol.npre
  have h5 := pol.nsha
  refine Ev.step (fun k => serinettelaw19_PresetChoices.j2.eq_2 ..) (evF (by simp) ?_)
  by_cases hx : ∃ a : Nat, (a : Int) < cnt F L P S n ∧ atc F L P S n (a : Int) = (c0, c1, c2, c3)
  · obtain ⟨a, ha, e⟩ := hx
    have hn1 : 1 ≤ n := by
      rcases (by omega : n < 1 ∨ 1 ≤ n) with h | h
      · unfold cnt at ha; rw [if_pos h] at ha; omega
      · exact h
    have ei := idxOf_at pol hn1 ⟨by omega, ha⟩
    rw [e] at ei
    have e1 := index_spec B St F L P S C W pol n c0 c1 c2 c3 (by omega) h0 (by omega) (by omega)
    simp only at ei
    rw [ei] at e1
    have hla : a < ((allT F L P S n).map mk35).length := by omega
    have e2 := rat_some ((allT F L P S n).map mk35) (mk35 (c0, c1, c2, c3)) (by omega) a hla (by rw [allw_get B F L P S C pol n a hla, e]) a 0 (by omega) (fun j hj ej => by
      rw [allw_get B F L P S C pol n j (by omega), ← e] at ej
      have := atc_inj pol hn1 (i := (j : Int)) (j := (a : Int)) (by omega) (by omega) (mk35_inj ej)
      omega)
    refine evB e1 (evB (by unfold serinetteref19_At.f; exact e2) (evT rfl (evT ?_ ?_)))
    · rw [decide_eq_true (by omega)]; rfl
    · refine evR (Ev.now _) ?_
      rw [mx_eq]
      simp
  · have no : ∀ j, ∀ h : j < ((allT F L P S n).map mk35).length, ((allT F L P S n).map mk35)[j] ≠ mk35 (c0, c1, c2, c3) := by
      intro j hj ej
      rw [allw_get B F L P S C pol n j hj] at ej
      exact hx ⟨j, by omega, mk35_inj ej⟩
    have e2 := rat_none ((allT F L P S n).map mk35) (mk35 (c0, c1, c2, c3)) (by omega) ((allT F L P S n).map mk35).length 0 (by omega) no
    have e1 : Ev (fun k => preset_Index.f k B St F L P S C W n c0 c1 c2 c3) (0, false) := by
      rcases (by omega : n < 1 ∨ 1 ≤ n) with h | h
      · exact index_none B St F L P S C W pol n c0 c1 c2 c3 h h0 (by omega) (by omega)
      · refine evR (index_spec B St F L P S C W pol n c0 c1 c2 c3 (by omega) h0 (by omega) (by omega)) ?_
        unfold idxOf
        rw [if_neg]
        rintro ⟨g1, g2, g3⟩
        generalize idx0 F P S (odn L n) n c0 c1 c2 c3 = z at g1 g2 g3
        obtain ⟨a, rfl⟩ : ∃ a : Nat, z = (a : Int) := ⟨z.toNat, by omega⟩
        exact hx ⟨a, g2, g3⟩
    refine evB e1 (evB (by unfold serinetteref19_At.f; exact e2) (evT rfl (evT (by decide) ?_)))
    exact evR (Ev.now _) (by decide)
end
theorem PresetChoices : serinettelaw19_PresetChoices.Pure := by
  intro B St F L P S C W n i c0 c1 c2 c3 wB wF wL hP _ hS _ wC wn wi wc0 _ _ _
  have hi := wf_i64 wi
  have hc0 := wf_i64 wc0
  unfold maxLen at hP hS
  refine Ev.rounds ?_
  unfold serinettelaw19_PresetChoices.f
  refine evB awake19 (evB (rcheck_ev B St F L P S C W) (evIte (fun h => ?_) (fun h => ?_)))
  · refine Ev.step (fun k => serinettelaw19_PresetChoices.j0.eq_2 ..) (evIte (fun h0 => Ev.now _) (fun h0 => ?_))
    have pol := Pol.of (chk_zero h)
    have hn : n ≤ 100 := by
      have := of_decide_eq_false (Bool.eq_false_iff.mpr h0)
      omega
    have hlen := allw_len B F L P S C pol n
    have hs := cnt_small B F L P S C pol n
    refine evB (rall_ev B St F L P S C W n pol) (evC (count_eq B St F L P S C W pol n (by omega)) (evT hlen.symm (evB (allp_ev B St F L P S C W pol n (by omega)) (evB (rsame_ev _ (by omega)) ?_))))
    refine Ev.step (fun k => serinettelaw19_PresetChoices.j1.eq_2 ..) (evF (by simp) ?_)
    refine evB (at_ev B St F L P S C W pol n i (by omega) hi.2) ?_
    have fin := last_step B St F L P S C W pol n c0 c1 c2 c3 hn hc0.2
    by_cases hin : 0 ≤ i ∧ i < cnt F L P S n
    · rw [if_pos hin]
      refine evT hin.1 (evF ?_ (evT rfl (evT hin.1 (evT (by omega) (evF ?_ fin)))))
      · rw [decide_eq_true (by omega)]; simp
      · obtain ⟨a, rfl⟩ : ∃ a : Nat, i = (a : Int) := ⟨i.toNat, by omega⟩
        have hla : a < ((allT F L P S n).map mk35).length := by omega
        rw [rd35_nat _ a hla, allw_get B F L P S C pol n a hla]
        exact fun hx => (ne35 (mk35 (atc F L P S n (a : Int))) (mk35 (atc F L P S n (a : Int)))).mp hx rfl
    · rw [if_neg hin]
      refine evIte (fun h1 => evF ?_ (evF (by simp) fin)) (fun h1 => evF (by simp) (evF (by simp) fin))
      rw [decide_eq_false (by omega)]; simp
  · exact Ev.step (fun k => serinettelaw19_PresetChoices.j0.eq_2 ..) (evT rfl (Ev.now _))
end Go.Proofs.YtgdgncdnhpflcaaDoor.Pure
