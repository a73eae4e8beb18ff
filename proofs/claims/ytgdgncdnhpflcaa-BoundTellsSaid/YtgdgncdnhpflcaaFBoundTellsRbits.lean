import Derived.Test.YtgdgncdnhpflcaaPBoundTellsx6
import Derived.Test.YtgdgncdnhpflcaaLEv
import Derived.Test.YtgdgncdnhpflcaaLBits
namespace Go.Proofs.Ytgdgncdnhpflcaa.FBoundTells
open Go.RowKit Go.Proofs.YtgdgncdnhpflcaaW.PrintWords Go.Proofs.YtgdgncdnhpflcaaW.PrintLast Go.Proofs.Ytgdgncdnhpflcaa.PBoundTells Go.Proofs.Ytgdgncdnhpflcaa.L
set_option linter.unusedVariables false
set_option linter.unusedSimpArgs false
theorem set_rep (i : Nat) (b : Bool) (l : List Bool) : (List.replicate (i + 1) false ++ l).set i b = List.replicate i false ++ (b :: l) := by
  rw [List.replicate_succ', List.append_assoc, List.set_append_right (s := List.replicate i false) i b (by simp)]
  simp
theorem rdigits_loop (w : Nat) : ∀ (n : Int) (out : List Bool), 0 ≤ n ∧ n ≤ 18446744073709551615 → w ≤ 64 →
    Ev (fun k => serinetteref01_Digits.l0 k n (List.replicate w false ++ out) ((w : Int) - 1)) (dig w n ++ out) := by
  induction w with
  | zero =>
    intro n out hn hw
    refine Ev.step (fun k => serinetteref01_Digits.l0.eq_2 ..) ?_
    refine evF (by omega) ?_
    simp only [List.replicate, List.nil_append, dig]
    exact Ev.now _
  | succ w ih =>
    intro n out hn hw
    refine Ev.step (fun k => serinetteref01_Digits.l0.eq_2 ..) ?_
    refine evT (by omega) ?_
    refine evT (by omega) ?_
    refine evT (by simp; omega) ?_
    rw [tmod_pos _ _ (by omega), tdiv_pos _ _ (by omega), wraps_u64 (n / 2) (by omega) (by omega), show (((w + 1 : Nat) : Int) - 1).toNat = w by omega, set_rep, wr _ (by omega), show (((w + 1 : Nat) : Int) - 1 - 1) = (w : Int) - 1 by omega]
    refine evR (ih (n / 2) ((n % 2 == 1) :: out) (by omega) (by omega)) ?_
    simp [dig]
theorem rdigits_ev (n w : Int) (hn : 0 ≤ n ∧ n ≤ 18446744073709551615) (hw : 0 ≤ w ∧ w ≤ 64) : Ev (fun k => serinetteref01_Digits.f k n w) (dig w.toNat n) := by
  unfold serinetteref01_Digits.f
  have e : serinetteref01_Width.f w = some w := by
    unfold serinetteref01_Width.f
    rw [mx_eq, mn_eq]
    congr 1
    omega
  refine evC e ?_
  refine evT (by omega) ?_
  refine evT (by omega) ?_
  rw [wr _ (by omega)]
  have := rdigits_loop w.toNat n [] hn (by omega)
  rw [List.append_nil, List.append_nil, show ((w.toNat : Nat) : Int) - 1 = w - 1 by omega] at this
  exact this
theorem rbits_loop (l : List Int) (hl : l.length ≤ 1000000000) (hr : ∀ x ∈ l, 0 ≤ x ∧ x ≤ 255) (d : Nat) : ∀ (i : Nat) (out : List Bool), i + d = l.length → out.length = 8 * i →
    Ev (fun k => serinetteref01_Bits.l0 k l out i) (out ++ bitsOf (l.drop i)) := by
  induction d with
  | zero =>
    intro i out hi ho
    refine Ev.step (fun k => serinetteref01_Bits.l0.eq_2 ..) ?_
    refine evF (by omega) ?_
    rw [List.drop_eq_nil_of_le (by omega)]
    simp only [bitsOf, List.flatMap_nil, List.append_nil]
    exact Ev.now _
  | succ d ih =>
    intro i out hi ho
    have hlt : i < l.length := by omega
    have hx := hr l[i] (List.getElem_mem hlt)
    refine Ev.step (fun k => serinetteref01_Bits.l0.eq_2 ..) ?_
    refine evT (by omega) ?_
    refine evT (by omega) ?_
    rw [rd_nat l i hlt, wraps_u64 _ (by omega) (by omega)]
    refine evB (rdigits_ev l[i] 8 (by omega) (by omega)) ?_
    refine evT (by rw [dig_length]; simp; omega) ?_
    rw [wr _ (by omega)]
    refine evR (ih (i + 1) (out ++ dig (Int.toNat 8) l[i]) (by omega) (by rw [List.length_append, dig_length]; simp; omega)) ?_
    unfold bitsOf
    rw [drop_cons_rd l i hlt, List.flatMap_cons, List.append_assoc]
    rfl
theorem rbits_ev (l : List Int) (hl : l.length ≤ 1000000000) (hr : ∀ x ∈ l, 0 ≤ x ∧ x ≤ 255) : Ev (fun k => serinetteref01_Bits.f k l) (bitsOf l) := by
  unfold serinetteref01_Bits.f
  exact rbits_loop l hl hr l.length 0 [] (by omega) rfl
end Go.Proofs.Ytgdgncdnhpflcaa.FBoundTells
