import Derived.Test.YtpeejdmbnlhjmaaPSubframeLinearx7
import Derived.Test.YtpeejdmbnlhjmaaLEv
namespace Go.Proofs.Ytpeejdmbnlhjmaa.FSubframeLinear
open Go.RowKit Go.Proofs.YtpeejdmbnlhjmaaW.PrintWords Go.Proofs.YtpeejdmbnlhjmaaW.PrintLast Go.Proofs.Ytpeejdmbnlhjmaa.PSubframeLinear Go.Proofs.Ytpeejdmbnlhjmaa.L
set_option linter.unusedVariables false
set_option linter.unusedSimpArgs false
/-- A number is in a depth. -/
def inD (x d : Int) : Prop := -(2 ^ (d - 1).toNat) ≤ x ∧ x < 2 ^ (d - 1).toNat
theorem shr_eq (x s : Int) (h : 0 ≤ s ∧ s ≤ 64) : shr .i64 x s = x / 2 ^ s.toNat := by
  unfold shr
  rw [Nat.min_eq_left (by have : IntKind.i64.bits = 64 := rfl; omega)]
theorem in_ev (x d : Int) (hd : 1 ≤ d ∧ d ≤ 62) (hx : inD x d) : pcm_In.f x d = some true := by
  unfold pcm_In.f
  rw [if_neg (by omega), if_neg (by omega), wr _ (by omega), if_pos (by omega), shr_eq _ _ (by omega)]
  obtain ⟨h1, h2⟩ := hx
  have hm : (0 : Int) < 2 ^ (d - 1).toNat := Int.pow_pos (by decide)
  generalize (2 : Int) ^ (d - 1).toNat = m at *
  by_cases c : 0 ≤ x
  · rw [if_pos (Int.ediv_eq_zero_of_lt c h2)]
  · have a := (Int.le_ediv_iff_mul_le (a := -1) (b := x) hm).mpr (by omega)
    have b := (Int.ediv_lt_iff_lt_mul (a := x) (b := 0) hm).mpr (by omega)
    have e : x / m = -1 := by omega
    rw [e, if_neg (by decide)]
    rfl
/-- Numbers that can be, by so many wasted bits. -/
theorem oddl_ev (l : List Int) (K Wa O Sh Pr : Int) (F : List Int) (Wd : Bool) (Po : Int) (P : List S172) (d : Int) (hd : 4 ≤ d ∧ d ≤ 33) (hl : l.length ≤ 65535) (hw : 0 ≤ Wa ∧ Wa < d)
    (hx : ∀ x ∈ l, inD x d ∧ shl .i64 (shr .i64 x Wa) Wa = x) (n : Nat) : ∀ (i : Nat), i + n = l.length → Ev (fun k => subframe_odd.l0 k d l (l.length : Int) (i : Int) K Wa O Sh Pr F Wd Po P) 0 := by
  induction n with
  | zero =>
    intro i hi
    refine Ev.step (fun k => subframe_odd.l0.eq_2 ..) ?_
    exact evF (by omega) (Ev.now _)
  | succ n ih =>
    intro i hi
    have hlt : i < l.length := by omega
    obtain ⟨h1, h2⟩ := hx l[i] (List.getElem_mem hlt)
    refine Ev.step (fun k => subframe_odd.l0.eq_2 ..) ?_
    refine evT (by omega) ?_
    refine evT (by omega) ?_
    refine evT (by omega) ?_
    rw [rd_nat l i hlt]
    refine evC (in_ev _ _ (by omega) h1) ?_
    refine evT rfl ?_
    refine evT hw.1 ?_
    refine evT h2 ?_
    rw [wr _ (by omega)]
    exact ih (i + 1) (by omega)
theorem odd_ev (l : List Int) (K Wa O Sh Pr : Int) (F : List Int) (Wd : Bool) (Po : Int) (P : List S172) (d : Int) (hd : 4 ≤ d ∧ d ≤ 33) (hl : 1 ≤ l.length ∧ l.length ≤ 65535) (hw : 0 ≤ Wa ∧ Wa < d) (hK : 0 ≤ K ∧ K ≤ 3)
    (hx : ∀ x ∈ l, inD x d ∧ shl .i64 (shr .i64 x Wa) Wa = x) : Ev (fun k => subframe_odd.f k l K Wa O Sh Pr F Wd Po P d) 0 := by
  unfold subframe_odd.f
  refine evF (by omega) ?_
  rw [decide_eq_false (by omega)]
  refine Ev.step (fun k => subframe_odd.j0.eq_2 ..) ?_
  refine evF (by omega) ?_
  refine evF (by omega) ?_
  refine evF (by decide) ?_
  refine evF (by omega) ?_
  refine evF (by omega) ?_
  refine evF (by omega) ?_
  rw [decide_eq_false (by omega)]
  refine Ev.step (fun k => subframe_odd.j1.eq_2 ..) ?_
  refine evF (by decide) ?_
  exact oddl_ev l K Wa O Sh Pr F Wd Po P d hd hl.2 hw hx l.length 0 (by omega)
end Go.Proofs.Ytpeejdmbnlhjmaa.FSubframeLinear
