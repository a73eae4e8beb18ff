import Derived.Test.YtpeejdmbnlhjmaaPMetaAgainx3
import Derived.Test.YtpeejdmbnlhjmaaLEv
namespace Go.Proofs.Ytpeejdmbnlhjmaa.FMetaAgain
open Go.RowKit Go.Proofs.YtpeejdmbnlhjmaaW.PrintWords Go.Proofs.YtpeejdmbnlhjmaaW.PrintLast Go.Proofs.Ytpeejdmbnlhjmaa.PMetaAgain Go.Proofs.Ytpeejdmbnlhjmaa.L
set_option linter.unusedVariables false
set_option linter.unusedSimpArgs false
theorem same_loop (a b : List Int) (hl : a.length ≤ 1000000000) (he : a.length = b.length) (d : Nat) : ∀ (i : Nat), i + d = a.length →
    Ev (fun k => serinetteref01_Same.l0 k a b i) (decide (a.drop i = b.drop i)) := by
  induction d with
  | zero =>
    intro i hi
    refine Ev.step (fun k => serinetteref01_Same.l0.eq_2 ..) ?_
    refine evF (by omega) ?_
    rw [List.drop_eq_nil_of_le (by omega), List.drop_eq_nil_of_le (by omega), decide_eq_true rfl]
    exact Ev.now _
  | succ d ih =>
    intro i hi
    have ha : i < a.length := by omega
    have hb : i < b.length := by omega
    refine Ev.step (fun k => serinetteref01_Same.l0.eq_2 ..) ?_
    refine evT (by omega) ?_
    refine evT (by omega) ?_
    refine evT (by omega) ?_
    rw [rd_nat a i ha, rd_nat b i hb, drop_cons_rd a i ha, drop_cons_rd b i hb]
    by_cases e : a[i] = b[i]
    · refine evT e ?_
      rw [wr _ (by omega)]
      refine evR (ih (i + 1) (by omega)) ?_
      rw [decide_eq_decide, List.cons.injEq]
      exact ⟨fun h => ⟨e, h⟩, fun h => h.2⟩
    · refine evF e ?_
      rw [decide_eq_false (fun h => e (List.cons.inj h).1)]
      exact Ev.now _
theorem same_ev (a b : List Int) (hl : a.length ≤ 1000000000) : Ev (fun k => serinetteref01_Same.f k a b) (decide (a = b)) := by
  unfold serinetteref01_Same.f
  by_cases e : a.length = b.length
  · refine evT (by omega) ?_
    exact same_loop a b hl e a.length 0 (by omega)
  · refine evF (by omega) ?_
    rw [decide_eq_false (fun h => e (by rw [h]))]
    exact Ev.now _
theorem same_same (a b : List Int) (hl : a.length ≤ 1000000000) (h : a = b) : Ev (fun k => serinetteref01_Same.f k a b) true := by
  have := same_ev a b hl
  rwa [decide_eq_true h] at this
end Go.Proofs.Ytpeejdmbnlhjmaa.FMetaAgain
