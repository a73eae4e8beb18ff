/- The statement NumberBack: what was written is read, whatever stands behind it; what is cut off isn't. For any number, up to twenty bytes behind it, and where it is cut. -/
import Derived.Test.YtgdgncdnhpflcaaPNumberBackx3
import Derived.Test.YtgdgncdnhpflcaaLEv
import Derived.Test.YtgdgncdnhpflcaaLNum
import Derived.Test.YtgdgncdnhpflcaaLEnc
import Derived.Test.YtgdgncdnhpflcaaLDec
import Derived.Test.YtgdgncdnhpflcaaLDec2
import Derived.Test.YtgdgncdnhpflcaaFNumberBackSize
import Derived.Test.YtgdgncdnhpflcaaFNumberBackEncode
import Derived.Test.YtgdgncdnhpflcaaFNumberBackDecode
namespace Go.Proofs.Ytgdgncdnhpflcaa.Pure
open Go.RowKit Go.Proofs.YtgdgncdnhpflcaaW.PrintWords Go.Proofs.YtgdgncdnhpflcaaW.PrintLast Go.Proofs.Ytgdgncdnhpflcaa.PNumberBack Go.Proofs.Ytgdgncdnhpflcaa.H Go.Proofs.Ytgdgncdnhpflcaa.L Go.Proofs.Ytgdgncdnhpflcaa.FNumberBack
set_option linter.unusedVariables false
set_option linter.unusedSimpArgs false
theorem awake03 : Ev (fun k => serinettelaw03_awake.f k) true := Ev.of (k := 40) serinettelaw03_awake.mono (by decide +kernel)
theorem NumberBack : serinettelaw03_NumberBack.Pure := by
  intro n more cut wn _ _ wl wc
  have hr : ∀ x ∈ more, 0 ≤ x ∧ x ≤ 255 := fun x hx => wf_u8 (wl x hx)
  have hc := wf_u8 wc
  refine Ev.rounds ?_
  unfold serinettelaw03_NumberBack.f
  refine evB awake03 ?_
  by_cases c : (more.length : Int) > 20
  · exact evT c (Ev.now _)
  refine evF c ?_
  by_cases h : 0 ≤ n ∧ n ≤ 68719476735
  · have hl := encBytes_length n
    have hz := nsize_rng n
    have he := encBytes_rng n h.1 h.2
    refine evB (enc_in n h.1 h.2) ?_
    dsimp only
    refine evF (by omega) ?_
    rw [decide_eq_false (by omega)]
    refine Ev.step (fun k => serinettelaw03_NumberBack.j0.eq_2 ..) ?_
    refine evF (by decide) ?_
    refine evT rfl ?_
    refine evF (by omega) ?_
    rw [decide_eq_false (by omega)]
    refine Ev.step (fun k => serinettelaw03_NumberBack.j1.eq_2 ..) ?_
    refine evF (by decide) ?_
    refine evC rfl ?_
    refine evT (by simp; omega) ?_
    refine evC rfl ?_
    refine evT (by simp; omega) ?_
    rw [List.nil_append]
    refine evB (dec_ev (encBytes n ++ more) (fun x hx => (List.mem_append.1 hx).elim (he x) (hr x)) (by rw [List.length_append]; omega)) ?_
    rw [dec_enc n h.1 h.2 more, wr cut (by omega), tmod_pos _ _ hc.1]
    have hm : 0 ≤ cut % ((encBytes n).length : Int) ∧ cut % ((encBytes n).length : Int) < (encBytes n).length := ⟨Int.emod_nonneg _ (by omega), Int.emod_lt_of_pos _ (by omega)⟩
    refine evF (by omega) ?_
    refine evT hm.1 ?_
    refine evT (by omega) ?_
    refine evB (dec_ev _ (fun x hx => he x (List.mem_of_mem_take hx)) (by rw [List.length_take]; omega)) ?_
    rw [dec_cut n h.1 h.2 _ (by omega)]
    refine evT rfl ?_
    refine evT rfl ?_
    refine evT rfl ?_
    refine evT hl.symm ?_
    refine evB (size_in n h.1 h.2) ?_
    refine evT rfl ?_
    exact Ev.now _
  · have h' : n < 0 ∨ n > 68719476735 := by omega
    refine evB (enc_out n h') ?_
    have fin : Ev (fun k => serinettelaw03_NumberBack.j0 k n more cut true [] 6 true) true := by
      refine Ev.step (fun k => serinettelaw03_NumberBack.j0.eq_2 ..) ?_
      refine evT rfl ?_
      refine evT rfl ?_
      refine evT rfl ?_
      exact Ev.now _
    by_cases c0 : n < 0
    · exact evT c0 fin
    · refine evF c0 ?_
      rw [decide_eq_true (by omega)]
      exact fin
end Go.Proofs.Ytgdgncdnhpflcaa.Pure
