import Derived.Test.YtgdgncdnhpflcaaPBoundTellsx6
import Derived.Test.YtgdgncdnhpflcaaLEv
import Derived.Test.YtgdgncdnhpflcaaLHead
namespace Go.Proofs.Ytgdgncdnhpflcaa.FBoundTells
open Go.RowKit Go.Proofs.YtgdgncdnhpflcaaW.PrintWords Go.Proofs.YtgdgncdnhpflcaaW.PrintLast Go.Proofs.Ytgdgncdnhpflcaa.PBoundTells Go.Proofs.Ytgdgncdnhpflcaa.L
set_option linter.unusedVariables false
set_option linter.unusedSimpArgs false
theorem rcheck_j3 (b r m d n : Int) (v x : Bool) : Ev (fun k => serinetteref17_Check.j3 k x b r m d n v) (if x = true then 10 else if n < 0 ∨ n > 68719476735 ∨ (v = false ∧ n > 2147483647) then 6 else 0) := by
  refine Ev.step (fun k => serinetteref17_Check.j3.eq_2 ..) ?_
  by_cases c : x = true
  · exact evTT c (Ev.now _)
  refine evFF c ?_
  by_cases c1 : n < 0
  · refine evT c1 ?_
    rw [if_pos (Or.inl c1)]; exact Ev.now _
  refine evF c1 ?_
  by_cases c2 : n > 68719476735
  · refine evT c2 ?_
    rw [if_pos (Or.inr (Or.inl c2))]; exact Ev.now _
  refine evF c2 ?_
  by_cases c3 : v = true
  · refine evT c3 ?_
    rw [if_neg (by simp [c3]; omega)]; exact Ev.now _
  refine evF c3 ?_
  by_cases c4 : n > 2147483647
  · refine evT c4 ?_
    rw [if_pos (Or.inr (Or.inr ⟨by simpa using c3, c4⟩))]; exact Ev.now _
  · refine evF c4 ?_
    rw [if_neg (by omega)]
    exact Ev.now _
theorem rcheck_j2 (b r m d n : Int) (v x : Bool) : Ev (fun k => serinetteref17_Check.j2 k x b r m d n v)
    (if x = true then 12 else if d ≠ 0 ∧ (d < 4 ∨ d > 32) then 10 else if n < 0 ∨ n > 68719476735 ∨ (v = false ∧ n > 2147483647) then 6 else 0) := by
  refine Ev.step (fun k => serinetteref17_Check.j2.eq_2 ..) ?_
  by_cases c : x = true
  · exact evTT c (Ev.now _)
  refine evFF c ?_
  by_cases c1 : d = 0
  · refine evT c1 ?_
    rw [if_neg (by omega)]
    exact evR (rcheck_j3 b r m d n v false) (by rfl)
  refine evF c1 ?_
  refine evR (ev_or (fun k y => serinetteref17_Check.j3 k y b r m d n v) _ (rcheck_j3 b r m d n v)) ?_
  simp [c1]
theorem rcheck_j1 (b r m d n : Int) (v x : Bool) : Ev (fun k => serinetteref17_Check.j1 k x b r m d n v)
    (if x = true then 11 else if m < 0 ∨ m > 10 then 12 else if d ≠ 0 ∧ (d < 4 ∨ d > 32) then 10 else if n < 0 ∨ n > 68719476735 ∨ (v = false ∧ n > 2147483647) then 6 else 0) := by
  refine Ev.step (fun k => serinetteref17_Check.j1.eq_2 ..) ?_
  by_cases c : x = true
  · exact evTT c (Ev.now _)
  refine evFF c ?_
  refine evR (ev_or (fun k y => serinetteref17_Check.j2 k y b r m d n v) _ (rcheck_j2 b r m d n v)) ?_
  simp
theorem rcheck_j0 (b r m d n : Int) (v x : Bool) : Ev (fun k => serinetteref17_Check.j0 k x b r m d n v)
    (if x = true then 15 else if r < 0 ∨ r > 1048575 then 11 else if m < 0 ∨ m > 10 then 12 else if d ≠ 0 ∧ (d < 4 ∨ d > 32) then 10 else if n < 0 ∨ n > 68719476735 ∨ (v = false ∧ n > 2147483647) then 6 else 0) := by
  refine Ev.step (fun k => serinetteref17_Check.j0.eq_2 ..) ?_
  by_cases c : x = true
  · exact evTT c (Ev.now _)
  refine evFF c ?_
  refine evR (ev_or (fun k y => serinetteref17_Check.j1 k y b r m d n v) _ (rcheck_j1 b r m d n v)) ?_
  simp
theorem rcheck_ev (b r m d n : Int) (v : Bool) : Ev (fun k => serinetteref17_Check.f k b r m d n v) (headCheck b r m d n v) := by
  unfold serinetteref17_Check.f headCheck
  refine evR (ev_or (fun k y => serinetteref17_Check.j0 k y b r m d n v) _ (rcheck_j0 b r m d n v)) ?_
  simp
end Go.Proofs.Ytgdgncdnhpflcaa.FBoundTells
