import Derived.Lib.SlicesCompact
import Derived.Test.YtpeejdmbnlhjmaaWMore
import Derived.Test.YtpeejdmbnlhjmaaWLast
import Derived.Test.YtpeejdmbnlhjmaaLEv
namespace Go.Proofs.Ytpeejdmbnlhjmaa.L
open Go.RowKit Go.Proofs.YtpeejdmbnlhjmaaW.PrintWords Go.Proofs.YtpeejdmbnlhjmaaW.PrintLast
set_option linter.unusedVariables false
set_option linter.unusedSimpArgs false
theorem get_bang (l : List Int) (j : Nat) : l.toArray[j]! = l.getD j 0 := by
  rw [List.getElem!_toArray, List.getElem!_eq_getElem?_getD, List.getD_eq_getElem?_getD]
  rfl
/-- As long as neighbours are alike one number is kept. -/
theorem comp_le (l : List Int) : ∀ m, m ≤ l.length → ((Lib.compactUpTo l.toArray m).length ≤ 1 ↔ ∀ j, j + 1 < m → l.getD (j + 1) 0 = l.getD j 0) ∧ (1 ≤ m → 1 ≤ (Lib.compactUpTo l.toArray m).length)
  | 0, _ => ⟨⟨fun _ j h => by omega, fun _ => by simp [Lib.compactUpTo]⟩, fun h => by omega⟩
  | m + 1, hm => by
    obtain ⟨ih1, ih2⟩ := comp_le l m (by omega)
    rw [Lib.compactUpTo_succ, List.length_append]
    by_cases h0 : m = 0
    · subst h0
      have e : Lib.keeps l.toArray 0 = true := by simp [Lib.keeps]
      rw [e]
      simp [Lib.compactUpTo]
    · obtain ⟨j, rfl⟩ : ∃ j, m = j + 1 := ⟨m - 1, by omega⟩
      have h1 := ih2 (by omega)
      by_cases e : l.getD (j + 1) 0 = l.getD j 0
      · have k : Lib.keeps l.toArray (j + 1) = false := by
          refine Lib.keeps_neg (by omega) ?_
          rw [get_bang, Nat.add_sub_cancel, get_bang, e]
        rw [k]
        simp only [Bool.false_eq_true, if_false, List.length_nil, Nat.add_zero]
        refine ⟨⟨fun h i hi => ?_, fun h => ih1.mpr fun i hi => h i (by omega)⟩, fun _ => h1⟩
        by_cases ei : i = j
        · rw [ei]; exact e
        · exact ih1.mp h i (by omega)
      · have k : Lib.keeps l.toArray (j + 1) = true := by
          refine Lib.keeps_pos ?_
          rw [get_bang, Nat.add_sub_cancel, get_bang]
          exact e
        rw [k]
        simp only [if_true, List.length_singleton]
        exact ⟨⟨fun h => by omega, fun h => (e (h j (by omega))).elim⟩, fun _ => by omega⟩
/-- One number is kept just where all are alike. -/
theorem comp_same (l : List Int) (c : Int) (hc : l.getD 0 0 = c) (hl : 1 ≤ l.length) : (Lib.compact l).length ≤ 1 ↔ l = List.replicate l.length c := by
  unfold Lib.compact
  rw [(comp_le l l.length (Nat.le_refl _)).1]
  constructor
  · intro h
    have all : ∀ i, i < l.length → l.getD i 0 = c := by
      intro i
      induction i with
      | zero => intro _; exact hc
      | succ i ih => intro hi; rw [h i hi]; exact ih (by omega)
    refine List.ext_getElem (by simp) fun i h1 h2 => ?_
    have := all i h1
    rw [List.getD_eq_getElem?_getD, List.getElem?_eq_getElem h1] at this
    rw [List.getElem_replicate]
    exact this
  · intro h j hj
    rw [h]
    simp [List.getD_eq_getElem?_getD, List.getElem?_replicate, hj, show j < l.length by omega]
theorem comp_rep (n : Nat) (c : Int) : (Lib.compact (List.replicate n c)).length ≤ 1 := by
  cases n with
  | zero => simp [Lib.compact, Lib.compactUpTo]
  | succ n => exact (comp_same _ c (by simp) (by simp)).mpr (by simp)
end Go.Proofs.Ytpeejdmbnlhjmaa.L
