/- The statement HeadPuts: any header's bytes, or what is wrong with it, and how many channels any mode has, is as the document says. For any numbers. -/
import Derived.Test.YtbohlcccdcilkaaPHeadPutsx7
import Derived.Test.YtbohlcccdcilkaaPureHead
import Derived.Test.YtbohlcccdcilkaaLEv
import Derived.Test.YtbohlcccdcilkaaLNum
import Derived.Test.YtbohlcccdcilkaaLEnc
import Derived.Test.YtbohlcccdcilkaaLBits
import Derived.Test.YtbohlcccdcilkaaLHead
import Derived.Test.YtbohlcccdcilkaaFHeadPutsAll
namespace Go.Proofs.Ytbohlcccdcilkaa.Pure
open Go.RowKit Go.Proofs.YtbohlcccdcilkaaW.PrintWords Go.Proofs.YtbohlcccdcilkaaW.PrintLast Go.Proofs.Ytbohlcccdcilkaa.PHeadPuts Go.Proofs.Ytbohlcccdcilkaa.H Go.Proofs.Ytbohlcccdcilkaa.L Go.Proofs.Ytbohlcccdcilkaa.FHeadPuts
set_option linter.unusedVariables false
set_option linter.unusedSimpArgs false
theorem awake17 : Ev (fun k => serinettelaw17_awake.f k) true := Ev.of (k := 40) serinettelaw17_awake.mono (by decide +kernel)
theorem rchan_ev (m : Int) : Ev (fun k => serinetteref17_Channels.f k m) (if m < 0 ∨ m ≥ 11 then 0 else if m < 8 then m + 1 else 2) := by
  unfold serinetteref17_Channels.f
  have j (x : Bool) (hx : x = true ∨ 0 ≤ m ∧ m ≤ 10) : Ev (fun k => serinetteref17_Channels.j0 k m x) (if x = true then 0 else if m < 8 then m + 1 else 2) := by
    refine Ev.step (fun k => serinetteref17_Channels.j0.eq_2 ..) ?_
    by_cases c : x = true
    · exact evTT c (Ev.now _)
    refine evFF c ?_
    have hm : 0 ≤ m ∧ m ≤ 10 := hx.resolve_left c
    by_cases c1 : m > 7
    · refine evT c1 ?_
      rw [if_neg (show ¬ m < 8 by omega)]
      exact Ev.now _
    · refine evF c1 ?_
      rw [if_pos (show m < 8 by omega), wr _ (by omega)]
      exact Ev.now _
  by_cases c : m < 0
  · refine evT c ?_
    rw [if_pos (Or.inl c)]
    exact evR (j true (.inl rfl)) rfl
  · refine evF c ?_
    by_cases c1 : m ≥ 11
    · rw [if_pos (Or.inr c1), decide_eq_true (show m > 10 by omega)]
      exact evR (j true (.inl rfl)) rfl
    · rw [if_neg (by omega), decide_eq_false (show ¬ m > 10 by omega)]
      exact evR (j false (.inr (by omega))) rfl
theorem HeadPuts : serinettelaw17_HeadPuts.Pure := by
  intro b r m d n v q wb wr' wm wd wn wq
  refine Ev.rounds ?_
  unfold serinettelaw17_HeadPuts.f
  refine evB awake17 ?_
  by_cases h : headCheck b r m d n v = 0
  · obtain ⟨z1, z2, z3, z4⟩ := headCheck_zero h
    refine evB (hput_ok b r m d n v h) ?_
    refine evB (rput_ok b r m d n v h z1 z2 z3 z4) ?_
    have l1 := headBytes_len b r m d n v
    refine evT rfl ?_
    refine evT rfl ?_
    refine evB (same_same (headBytes b r m d n v) (headBytes b r m d n v) (by omega) rfl) ?_
    refine evT rfl ?_
    refine evB (hcheck_ev b r m d n v) ?_
    refine evB (rcheck_ev b r m d n v) ?_
    refine evT rfl ?_
    refine evB (hchan_ev q (by omega)) ?_
    refine evB (rchan_ev q) ?_
    rw [beq_self_eq_true]
    exact Ev.now _
  · refine evB (hput_bad b r m d n v h) ?_
    refine evB (rput_bad b r m d n v h) ?_
    refine evT rfl ?_
    refine evT rfl ?_
    refine evB (same_same [] [] (by simp) rfl) ?_
    refine evT rfl ?_
    refine evB (hcheck_ev b r m d n v) ?_
    refine evB (rcheck_ev b r m d n v) ?_
    refine evT rfl ?_
    refine evB (hchan_ev q (by omega)) ?_
    refine evB (rchan_ev q) ?_
    rw [beq_self_eq_true]
    exact Ev.now _
end Go.Proofs.Ytbohlcccdcilkaa.Pure
