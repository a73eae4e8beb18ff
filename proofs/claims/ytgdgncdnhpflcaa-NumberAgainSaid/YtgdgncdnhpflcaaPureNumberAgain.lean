/- The statement NumberAgain: what is read, written, is the same bytes. For up to twenty bytes. -/
import Derived.Test.YtgdgncdnhpflcaaPNumberAgainx2
import Derived.Test.YtgdgncdnhpflcaaLEv
import Derived.Test.YtgdgncdnhpflcaaLNum
import Derived.Test.YtgdgncdnhpflcaaLEnc
import Derived.Test.YtgdgncdnhpflcaaLDec
import Derived.Test.YtgdgncdnhpflcaaLDec2
import Derived.Test.YtgdgncdnhpflcaaFNumberAgainSize
import Derived.Test.YtgdgncdnhpflcaaFNumberAgainEncode
import Derived.Test.YtgdgncdnhpflcaaFNumberAgainDecode
import Derived.Test.YtgdgncdnhpflcaaFNumberAgainSame
namespace Go.Proofs.Ytgdgncdnhpflcaa.Pure
open Go.RowKit Go.Proofs.YtgdgncdnhpflcaaW.PrintWords Go.Proofs.YtgdgncdnhpflcaaW.PrintLast Go.Proofs.Ytgdgncdnhpflcaa.PNumberAgain Go.Proofs.Ytgdgncdnhpflcaa.H Go.Proofs.Ytgdgncdnhpflcaa.L Go.Proofs.Ytgdgncdnhpflcaa.FNumberAgain
set_option linter.unusedVariables false
set_option linter.unusedSimpArgs false
theorem awake03 : Ev (fun k => serinettelaw03_awake.f k) true := Ev.of (k := 40) serinettelaw03_awake.mono (by decide +kernel)
theorem dec_bad (l : List Int) (h : (dec l).2.2 ≠ 0) : (dec l).1 = 0 ∧ (dec l).2.1 = 0 := by
  cases l with
  | nil => exact ⟨rfl, rfl⟩
  | cons b t =>
    by_cases c : sizedOf b = 0
    · rw [dec_none b t c]; exact ⟨rfl, rfl⟩
    rw [dec_cons b t c] at h ⊢
    unfold decEnd at h ⊢
    split
    · exact ⟨rfl, rfl⟩
    · rename_i c1
      split
      · exact ⟨rfl, rfl⟩
      · rename_i c2
        rw [if_neg c1, if_neg c2] at h
        exact absurd rfl h
theorem NumberAgain : serinettelaw03_NumberAgain.Pure := by
  intro l _ _ wl
  have hr : ∀ x ∈ l, 0 ≤ x ∧ x ≤ 255 := fun x hx => wf_u8 (wl x hx)
  refine Ev.rounds ?_
  unfold serinettelaw03_NumberAgain.f
  refine evB awake03 ?_
  by_cases c : (l.length : Int) > 20
  · exact evT c (Ev.now _)
  refine evF c ?_
  refine evB (dec_ev l hr (by omega)) ?_
  by_cases h : (dec l).2.2 = 0
  · have e : dec l = ((dec l).1, (dec l).2.1, 0) := by rw [← h]
    obtain ⟨k1, k2, hn, ht⟩ := dec_back l hr _ _ e
    refine evT h ?_
    refine evF (by omega) ?_
    rw [decide_eq_false (by omega)]
    refine Ev.step (fun k => serinettelaw03_NumberAgain.j0.eq_2 ..) ?_
    refine evF (by decide) ?_
    refine evB (enc_in _ hn.1 hn.2) ?_
    refine evT rfl ?_
    refine evT rfl ?_
    refine evT (by omega) ?_
    refine evT (by omega) ?_
    have hl := encBytes_length (dec l).1
    have hz := nsize_rng (dec l).1
    refine evB (same_same _ _ (by dsimp only; omega) ht.symm) ?_
    exact Ev.now _
  · have hb := dec_bad l h
    refine evF h ?_
    refine evT rfl ?_
    refine evT hb.1 ?_
    rw [hb.2]
    exact Ev.now _
end Go.Proofs.Ytgdgncdnhpflcaa.Pure
