/- The statement HeadPlaces: each number stands in its place: whether it is variable in the second byte, the mode in the fourth one. For any two headers. -/
import Derived.Test.YtbohlcccdcilkaaPHeadPlacesx3
import Derived.Test.YtbohlcccdcilkaaPureHead
import Derived.Test.YtbohlcccdcilkaaLEv
import Derived.Test.YtbohlcccdcilkaaLNum
import Derived.Test.YtbohlcccdcilkaaLEnc
import Derived.Test.YtbohlcccdcilkaaLBits
import Derived.Test.YtbohlcccdcilkaaLHead
import Derived.Test.YtbohlcccdcilkaaFHeadPlacesSame
namespace Go.Proofs.Ytbohlcccdcilkaa.Pure
open Go.RowKit Go.Proofs.YtbohlcccdcilkaaW.PrintWords Go.Proofs.YtbohlcccdcilkaaW.PrintLast Go.Proofs.Ytbohlcccdcilkaa.PHeadPlaces Go.Proofs.Ytbohlcccdcilkaa.H Go.Proofs.Ytbohlcccdcilkaa.L Go.Proofs.Ytbohlcccdcilkaa.FHeadPlaces
set_option linter.unusedVariables false
set_option linter.unusedSimpArgs false
theorem awake17 : Ev (fun k => serinettelaw17_awake.f k) true := Ev.of (k := 40) serinettelaw17_awake.mono (by decide +kernel)
theorem hb_rd (b r m d n : Int) (v : Bool) : rd (headBytes b r m d n v) 0 = 255 ∧ rd (headBytes b r m d n v) 1 = (if v then 249 else 248) ∧ rd (headBytes b r m d n v) 3 = 16 * m + 2 * codeOf d hDepths := by
  unfold headBytes headBody
  exact ⟨rfl, rfl, rfl⟩
theorem mode_at (m c : Int) (hm : 0 ≤ m ∧ m ≤ 10) (hc : 0 ≤ c ∧ c ≤ 7) : (Int.tdiv (16 * m + 2 * c) 16) % 256 = m := by
  rw [tdiv_pos _ _ (by omega)]
  omega
theorem HeadPlaces : serinettelaw17_HeadPlaces.Pure := by
  intro b r m d n v b' r' m' d' n' v' w1 w2 w3 w4 w5 w6 w7 w8 w9 w10
  refine Ev.rounds ?_
  unfold serinettelaw17_HeadPlaces.f
  refine evB awake17 ?_
  by_cases h : headCheck b r m d n v = 0
  · refine evB (hput_ok b r m d n v h) ?_
    by_cases h' : headCheck b' r' m' d' n' v' = 0
    · refine evB (hput_ok b' r' m' d' n' v' h') ?_
      dsimp only
      have l1 := headBytes_len b r m d n v
      have l2 := headBytes_len b' r' m' d' n' v'
      have z1 := (headCheck_zero h).2.2.1
      have z2 := (headCheck_zero h').2.2.1
      obtain ⟨p0, p1, p3⟩ := hb_rd b r m d n v
      obtain ⟨q0, q1, q3⟩ := hb_rd b' r' m' d' n' v'
      refine evT rfl ?_
      refine Ev.step (fun k => serinettelaw17_HeadPlaces.j0.eq_2 ..) ?_
      refine evF (by decide) ?_
      refine evF (by omega) ?_
      refine evF (by omega) ?_
      refine evT rfl ?_
      refine evT (by omega) ?_
      refine evT p0 ?_
      refine evT (by omega) ?_
      refine evT (by omega) ?_
      refine evT (by rw [p1, q1]; cases v <;> cases v' <;> decide) ?_
      refine evT (by omega) ?_
      refine evT (by rw [p3]; exact mode_at m _ z1 (depthCode_rng d)) ?_
      refine evT (by omega) ?_
      refine evT (by rw [q3]; exact mode_at m' _ z2 (depthCode_rng d')) ?_
      by_cases c : (!(b == b') || (!(r == r') || (!(m == m') || (!(d == d') || (!(n == n') || (!(v == v'))))))) = true
      · exact evT c (Ev.now _)
      · refine evF c ?_
        simp only [Bool.or_eq_true, Bool.not_eq_true', beq_eq_false_iff_ne, not_or, ne_eq, Decidable.not_not] at c
        obtain ⟨rfl, rfl, rfl, rfl, rfl, rfl⟩ := c
        refine evB (same_same _ _ (by omega) rfl) ?_
        exact Ev.now _
    · refine evB (hput_bad b' r' m' d' n' v' h') ?_
      dsimp only
      refine evT rfl ?_
      refine Ev.step (fun k => serinettelaw17_HeadPlaces.j0.eq_2 ..) ?_
      exact evT (bne_iff_ne.mpr h') (Ev.now _)
  · refine evB (hput_bad b r m d n v h) ?_
    by_cases h' : headCheck b' r' m' d' n' v' = 0
    · refine evB (hput_ok b' r' m' d' n' v' h') ?_
      refine evF h ?_
      refine Ev.step (fun k => serinettelaw17_HeadPlaces.j0.eq_2 ..) ?_
      exact evT rfl (Ev.now _)
    · refine evB (hput_bad b' r' m' d' n' v' h') ?_
      refine evF h ?_
      refine Ev.step (fun k => serinettelaw17_HeadPlaces.j0.eq_2 ..) ?_
      exact evT rfl (Ev.now _)
end Go.Proofs.Ytbohlcccdcilkaa.Pure
