/- The statement NumberOrder: greater numbers stand behind lesser ones by their bytes, have no lesser sizes, and unlike ones are unlike bytes. -/
import Derived.Test.YtgdgncdnhpflcaaPNumberOrderx2
import Derived.Test.YtgdgncdnhpflcaaLEv
import Derived.Test.YtgdgncdnhpflcaaLNum
import Derived.Test.YtgdgncdnhpflcaaLEnc
import Derived.Test.YtgdgncdnhpflcaaLDec
import Derived.Test.YtgdgncdnhpflcaaLDec2
import Derived.Test.YtgdgncdnhpflcaaLOrder
import Derived.Test.YtgdgncdnhpflcaaFNumberOrderSize
import Derived.Test.YtgdgncdnhpflcaaFNumberOrderEncode
import Derived.Test.YtgdgncdnhpflcaaFNumberOrderSame
namespace Go.Proofs.Ytgdgncdnhpflcaa.Pure
open Go.RowKit Go.Proofs.YtgdgncdnhpflcaaW.PrintWords Go.Proofs.YtgdgncdnhpflcaaW.PrintLast Go.Proofs.Ytgdgncdnhpflcaa.PNumberOrder Go.Proofs.Ytgdgncdnhpflcaa.H Go.Proofs.Ytgdgncdnhpflcaa.L Go.Proofs.Ytgdgncdnhpflcaa.FNumberOrder
set_option linter.unusedVariables false
set_option linter.unusedSimpArgs false
theorem awake03 : Ev (fun k => serinettelaw03_awake.f k) true := Ev.of (k := 40) serinettelaw03_awake.mono (by decide +kernel)
theorem modded (a : Int) (h : (Lit.int .u64 a).wf = true) : 0 ≤ wrap64 (Int.tmod a 68719476736) ∧ wrap64 (Int.tmod a 68719476736) ≤ 68719476735 := by
  have h0 : 0 ≤ a := (wf_u64 h).1
  rw [tmod_pos _ _ h0, wr _ (by omega)]
  omega
theorem NumberOrder : serinettelaw03_NumberOrder.Pure := by
  intro a b wa wb
  have hn := modded a wa
  have hm := modded b wb
  refine Ev.rounds ?_
  unfold serinettelaw03_NumberOrder.f
  generalize wrap64 (Int.tmod a 68719476736) = n at hn ⊢
  generalize wrap64 (Int.tmod b 68719476736) = m at hm ⊢
  refine evB awake03 ?_
  refine evB (enc_in n hn.1 hn.2) ?_
  refine evB (enc_in m hm.1 hm.2) ?_
  dsimp only
  refine evT rfl ?_
  refine Ev.step (fun k => serinettelaw03_NumberOrder.j0.eq_2 ..) ?_
  refine evF (by decide) ?_
  refine evT rfl ?_
  have hl := encBytes_length n
  have hz := nsize_rng n
  have hsame := same_ev (encBytes n) (encBytes m) (by omega)
  have hb : (decide (encBytes n = encBytes m) == (n == m)) = true := by
    rw [beq_iff_eq, Bool.eq_iff_iff, decide_eq_true_iff, beq_iff_eq]
    exact enc_inj n m hn hm
  refine evT (by rw [bytesLess_nums _ _ (encBytes_rng n hn.1 hn.2) (encBytes_rng m hm.1 hm.2), lex_enc n m hn hm]; exact beq_self_eq_true _) ?_
  by_cases c : n > m
  · refine evT c ?_
    refine evB hsame ?_
    rw [hb]
    exact Ev.now _
  · refine evF c ?_
    refine evB (size_in n hn.1 hn.2) ?_
    refine evB (size_in m hm.1 hm.2) ?_
    refine evT (nsize_mono n m (by omega)) ?_
    refine evB hsame ?_
    rw [hb]
    exact Ev.now _
end Go.Proofs.Ytgdgncdnhpflcaa.Pure
