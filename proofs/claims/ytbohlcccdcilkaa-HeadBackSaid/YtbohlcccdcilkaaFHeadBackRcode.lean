import Derived.Test.YtbohlcccdcilkaaPHeadBackx2
import Derived.Test.YtbohlcccdcilkaaLEv
import Derived.Test.YtbohlcccdcilkaaLHead
namespace Go.Proofs.Ytbohlcccdcilkaa.FHeadBack
open Go.RowKit Go.Proofs.YtbohlcccdcilkaaW.PrintWords Go.Proofs.YtbohlcccdcilkaaW.PrintLast Go.Proofs.Ytbohlcccdcilkaa.PHeadBack Go.Proofs.Ytbohlcccdcilkaa.L
set_option linter.unusedVariables false
set_option linter.unusedSimpArgs false
theorem rcode_loop (n : Int) (l : List Int) (hl : l.length ≤ 1000) (d : Nat) : ∀ (i : Nat), i + d = l.length →
    Ev (fun k => serinetteref17_code.l0 k n l i) (if n > 0 then codeAt n (l.drop i) i else 0) := by
  induction d with
  | zero =>
    intro i hi
    refine Ev.step (fun k => serinetteref17_code.l0.eq_2 ..) ?_
    refine evF (by omega) ?_
    rw [List.drop_eq_nil_of_le (by omega)]
    simp only [codeAt]
    split <;> exact Ev.now _
  | succ d ih =>
    intro i hi
    have hlt : i < l.length := by omega
    refine Ev.step (fun k => serinetteref17_code.l0.eq_2 ..) ?_
    refine evT (by omega) ?_
    rw [wr _ (by omega)]
    have h := ih (i + 1) (by omega)
    rw [drop_cons_rd l i hlt]
    by_cases c : n > 0
    · rw [if_pos c] at h ⊢
      refine evT c ?_
      refine evT (by omega) ?_
      rw [rd_nat l i hlt]
      unfold codeAt
      exact evIte (fun e => by rw [if_pos e]; exact Ev.now _) (fun e => by rw [if_neg e]; exact h)
    · rw [if_neg c] at h ⊢
      refine evF c ?_
      exact h
theorem rcode_ev (n : Int) (l : List Int) (hl : l.length ≤ 1000) (h1 : 1 ≤ l.length) : Ev (fun k => serinetteref17_code.f k n l) (codeOf n l) := by
  unfold serinetteref17_code.f codeOf
  exact rcode_loop n l hl (l.length - 1) 1 (by omega)
end Go.Proofs.Ytbohlcccdcilkaa.FHeadBack
