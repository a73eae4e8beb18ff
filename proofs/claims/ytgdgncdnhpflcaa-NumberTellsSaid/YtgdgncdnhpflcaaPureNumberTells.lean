/- The statement NumberTells: any number's bytes and size, or what is wrong with it, and the number that any bytes begin with, is as the document says. For any number, and up to twenty bytes. -/
import Derived.Test.YtgdgncdnhpflcaaPNumberTellsx5
import Derived.Test.YtgdgncdnhpflcaaLEv
import Derived.Test.YtgdgncdnhpflcaaLNum
import Derived.Test.YtgdgncdnhpflcaaLEnc
import Derived.Test.YtgdgncdnhpflcaaLDec
import Derived.Test.YtgdgncdnhpflcaaFNumberTellsSize
import Derived.Test.YtgdgncdnhpflcaaFNumberTellsEncode
import Derived.Test.YtgdgncdnhpflcaaFNumberTellsDecode
import Derived.Test.YtgdgncdnhpflcaaFNumberTellsRdecode
import Derived.Test.YtgdgncdnhpflcaaFNumberTellsSame
namespace Go.Proofs.Ytgdgncdnhpflcaa.Pure
open Go.RowKit Go.Proofs.YtgdgncdnhpflcaaW.PrintWords Go.Proofs.YtgdgncdnhpflcaaW.PrintLast Go.Proofs.Ytgdgncdnhpflcaa.PNumberTells Go.Proofs.Ytgdgncdnhpflcaa.H Go.Proofs.Ytgdgncdnhpflcaa.L Go.Proofs.Ytgdgncdnhpflcaa.FNumberTells
set_option linter.unusedVariables false
set_option linter.unusedSimpArgs false
theorem awake03 : Ev (fun k => serinettelaw03_awake.f k) true := Ev.of (k := 40) serinettelaw03_awake.mono (by decide +kernel)
theorem NumberTells : serinettelaw03_NumberTells.Pure := by
  intro n l wn _ _ wl
  have hr : ∀ x ∈ l, 0 ≤ x ∧ x ≤ 255 := fun x hx => wf_u8 (wl x hx)
  refine Ev.rounds ?_
  unfold serinettelaw03_NumberTells.f
  refine evB awake03 ?_
  by_cases c : (l.length : Int) > 20
  · exact evT c (Ev.now _)
  refine evF c ?_
  have hd := dec_ev l hr (by omega)
  have hd' := rdec_ev l hr (by omega)
  by_cases h : 0 ≤ n ∧ n ≤ 68719476735
  · have hl := encBytes_length n
    have hz := nsize_rng n
    refine evB (enc_in n h.1 h.2) ?_
    refine evB (renc_in n h.1 h.2) ?_
    refine evB hd ?_
    refine evB hd' ?_
    refine evT rfl ?_
    refine evB (same_same (encBytes n) (encBytes n) (by omega) rfl) ?_
    refine evT rfl ?_
    refine evT rfl ?_
    refine evB (size_in n h.1 h.2) ?_
    refine evB (rsize_in n h.1 h.2) ?_
    refine evT rfl ?_
    refine evT rfl ?_
    refine evT rfl ?_
    rw [beq_self_eq_true]
    exact Ev.now _
  · have h' : n < 0 ∨ n > 68719476735 := by omega
    refine evB (enc_out n h') ?_
    refine evB (renc_out n h') ?_
    refine evB hd ?_
    refine evB hd' ?_
    refine evT rfl ?_
    refine evB (same_same [] [] (by simp) rfl) ?_
    refine evT rfl ?_
    refine evT rfl ?_
    refine evB (size_out n h') ?_
    refine evB (rsize_out n h') ?_
    refine evT rfl ?_
    refine evT rfl ?_
    refine evT rfl ?_
    rw [beq_self_eq_true]
    exact Ev.now _
end Go.Proofs.Ytgdgncdnhpflcaa.Pure
