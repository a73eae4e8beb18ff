/- The statement HeadNumbers: only the number, and the check, hang on the number; a greater number has no fewer bytes. For any header, another number. -/
import Derived.Test.YtbohlcccdcilkaaPHeadNumbersx3
import Derived.Test.YtbohlcccdcilkaaPureHead
import Derived.Test.YtbohlcccdcilkaaLEv
import Derived.Test.YtbohlcccdcilkaaLNum
import Derived.Test.YtbohlcccdcilkaaLEnc
import Derived.Test.YtbohlcccdcilkaaLBits
import Derived.Test.YtbohlcccdcilkaaLHead
import Derived.Test.YtbohlcccdcilkaaLOrder
import Derived.Test.YtbohlcccdcilkaaFHeadNumbersSame
namespace Go.Proofs.Ytbohlcccdcilkaa.Pure
open Go.RowKit Go.Proofs.YtbohlcccdcilkaaW.PrintWords Go.Proofs.YtbohlcccdcilkaaW.PrintLast Go.Proofs.Ytbohlcccdcilkaa.PHeadNumbers Go.Proofs.Ytbohlcccdcilkaa.H Go.Proofs.Ytbohlcccdcilkaa.L Go.Proofs.Ytbohlcccdcilkaa.FHeadNumbers
set_option linter.unusedVariables false
set_option linter.unusedSimpArgs false
theorem awake17 : Ev (fun k => serinettelaw17_awake.f k) true := Ev.of (k := 40) serinettelaw17_awake.mono (by decide +kernel)
theorem hb_inj (b r m d n n' : Int) (v : Bool) (hn : 0 ≤ n ∧ n ≤ 68719476735) (hn' : 0 ≤ n' ∧ n' ≤ 68719476735) : headBytes b r m d n v = headBytes b r m d n' v ↔ n = n' := by
  constructor
  · intro h
    have l1 := (headBytes_len b r m d n v).2.2
    have l2 := (headBytes_len b r m d n' v).2.2
    have e1 := encBytes_length n
    have e2 := encBytes_length n'
    rw [h] at l1
    have e : encBytes n ++ (blockMore b ++ rateMore r ++ [crc8 (headBody b r m d n v)]) = encBytes n' ++ (blockMore b ++ rateMore r ++ [crc8 (headBody b r m d n' v)]) := by
      unfold headBytes at h
      rw [show headBody b r m d n v ++ [crc8 (headBody b r m d n v)] = [255, if v then 249 else 248, 16 * blockCode b + rateCode r, 16 * m + 2 * codeOf d hDepths] ++ (encBytes n ++ (blockMore b ++ rateMore r ++ [crc8 (headBody b r m d n v)])) by simp [headBody],
        show headBody b r m d n' v ++ [crc8 (headBody b r m d n' v)] = [255, if v then 249 else 248, 16 * blockCode b + rateCode r, 16 * m + 2 * codeOf d hDepths] ++ (encBytes n' ++ (blockMore b ++ rateMore r ++ [crc8 (headBody b r m d n' v)])) by simp [headBody]] at h
      exact List.append_cancel_left h
    exact (enc_inj n n' hn hn').mp (List.append_inj e (by omega)).1
  · rintro rfl
    rfl
theorem HeadNumbers : serinettelaw17_HeadNumbers.Pure := by
  intro b r m d n v n' wb wr' wm wd wn wn'
  refine Ev.rounds ?_
  unfold serinettelaw17_HeadNumbers.f
  refine evB awake17 ?_
  by_cases h : headCheck b r m d n v = 0
  · refine evB (hput_ok b r m d n v h) ?_
    by_cases h' : headCheck b r m d n' v = 0
    · refine evB (hput_ok b r m d n' v h') ?_
      dsimp only
      have l1 := headBytes_len b r m d n v
      have l2 := headBytes_len b r m d n' v
      have z1 := (headCheck_zero h).2.2.2
      have z2 := (headCheck_zero h').2.2.2
      refine evT rfl ?_
      refine Ev.step (fun k => serinettelaw17_HeadNumbers.j0.eq_2 ..) ?_
      refine evF (by decide) ?_
      refine evF (by omega) ?_
      rw [decide_eq_false (show ¬ ((headBytes b r m d n' v).length : Int) < 6 by omega)]
      refine Ev.step (fun k => serinettelaw17_HeadNumbers.j1.eq_2 ..) ?_
      refine evF (by decide) ?_
      refine evT rfl ?_
      refine evT (by omega) ?_
      refine evT (by omega) ?_
      refine evB (same_same _ _ (by rw [List.length_take]; omega) (by unfold headBytes headBody; rfl)) ?_
      refine evT rfl ?_
      refine evB (same_ev _ _ (by omega)) ?_
      refine evT ?_ ?_
      · simp only [beq_self_eq_true, Bool.true_and, Bool.and_true]
        rw [beq_iff_eq, Bool.eq_iff_iff, decide_eq_true_iff, beq_iff_eq]
        exact hb_inj b r m d n n' v z1 z2
      by_cases c : n > n'
      · exact evT c (Ev.now _)
      · refine evF c ?_
        have hm := nsize_mono n n' (by omega)
        rw [decide_eq_true (show ((headBytes b r m d n v).length : Int) ≤ ((headBytes b r m d n' v).length : Int) by omega)]
        exact Ev.now _
    · refine evB (hput_bad b r m d n' v h') ?_
      dsimp only
      refine evT rfl ?_
      refine Ev.step (fun k => serinettelaw17_HeadNumbers.j0.eq_2 ..) ?_
      exact evT (bne_iff_ne.mpr h') (Ev.now _)
  · refine evB (hput_bad b r m d n v h) ?_
    have key : ∀ q : List Int × Int, Ev (fun k => if (([], headCheck b r m d n v) : List Int × Int).2 = 0 then serinettelaw17_HeadNumbers.j0 k n' true (([], headCheck b r m d n v) : List Int × Int).1 q.1 (q.2 != 0) b r m d n v b r m d n' v else serinettelaw17_HeadNumbers.j0 k n' true (([], headCheck b r m d n v) : List Int × Int).1 q.1 true b r m d n v b r m d n' v) true := fun q => by
      refine evF h ?_
      refine Ev.step (fun k => serinettelaw17_HeadNumbers.j0.eq_2 ..) ?_
      exact evT rfl (Ev.now _)
    by_cases h' : headCheck b r m d n' v = 0
    · refine evB (hput_ok b r m d n' v h') ?_
      exact key _
    · refine evB (hput_bad b r m d n' v h') ?_
      exact key _
end Go.Proofs.Ytbohlcccdcilkaa.Pure
