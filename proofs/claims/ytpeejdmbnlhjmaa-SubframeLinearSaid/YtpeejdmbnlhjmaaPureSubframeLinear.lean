/- The statement SubframeLinear: a linear subframe with a fixed one's factors has nine bits more, and the factors', by the same plan. For up to forty samples of 24 bits, an order, any plan of up to sixty parts. -/
import Derived.Test.YtpeejdmbnlhjmaaPSubframeLinearx7
import Derived.Test.YtpeejdmbnlhjmaaLEv
import Derived.Test.YtpeejdmbnlhjmaaFSubframeLinearOdd2
import Derived.Test.YtpeejdmbnlhjmaaFSubframeLinearLin
import Derived.Test.YtpeejdmbnlhjmaaFSubframeLinearParts
namespace Go.Proofs.Ytpeejdmbnlhjmaa.Pure
open Go.RowKit Go.Proofs.YtpeejdmbnlhjmaaW.PrintWords Go.Proofs.YtpeejdmbnlhjmaaW.PrintLast Go.Proofs.Ytpeejdmbnlhjmaa.PSubframeLinear Go.Proofs.Ytpeejdmbnlhjmaa.L Go.Proofs.Ytpeejdmbnlhjmaa.FSubframeLinear
set_option linter.unusedVariables false
set_option linter.unusedSimpArgs false
theorem tmod_rng (x m : Int) (hm : 0 < m) : -m ≤ Int.tmod x m ∧ Int.tmod x m < m := by
  have h1 := Int.tmod_lt_of_pos x hm
  have h2 := Int.tmod_lt_of_pos (-x) hm
  rw [Int.neg_tmod] at h2
  exact ⟨by omega, h1⟩
theorem lin_in (x : Int) (h : -8388608 ≤ x ∧ x < 8388608) : inD x 24 ∧ shl .i64 (shr .i64 x 0) 0 = x := by
  constructor
  · unfold inD
    rw [show (2 : Int) ^ ((24 : Int) - 1).toNat = 8388608 by decide]
    exact h
  · rw [shr_eq _ _ (by decide)]
    show IntKind.i64.wrap (x / 2 ^ (0 : Int).toNat * 2 ^ min (0 : Int).toNat 64) = x
    rw [IntKind.wrap_i64]
    simp
    omega
theorem odd_nil (K O Sh Pr : Int) (F : List Int) (W : Bool) (Po : Int) (P : List S172) : Ev (fun k => subframe_odd.f k [] K 0 O Sh Pr F W Po P 24) 1 := by
  unfold subframe_odd.f
  refine evT (by decide) ?_
  refine Ev.step (fun k => subframe_odd.j0.eq_2 ..) ?_
  refine evF (by decide) ?_
  refine evF (by decide) ?_
  refine evT rfl ?_
  refine Ev.step (fun k => subframe_odd.j1.eq_2 ..) ?_
  exact evT rfl (Ev.now _)
theorem down0 (l : List Int) (h : l.length ≤ 1000) : H.subframe_down.f l 0 = some l := by
  unfold H.subframe_down.f
  rw [if_pos (by omega)]
  unfold H.downP H.downBy
  congr 1
  have : ∀ x : Int, x / 2 ^ (max 0 (min (0 : Int) 32)).toNat = x := fun x => by
    rw [show (max 0 (min (0 : Int) 32)).toNat = 0 by decide, Int.pow_zero, Int.ediv_one]
  simp only [this, List.map_id']
theorem not_wide (l : List Int) (hl : l.length ≤ 1000) (h : ∀ x ∈ l, -2147483648 < x ∧ x < 2147483648) : H.slices_ContainsFunc_int_int.f l 1 = some false := by
  unfold H.slices_ContainsFunc_int_int.f
  rw [if_pos (by omega), if_pos rfl]
  congr 1
  refine List.any_eq_false.mpr fun x hx => ?_
  have := h x hx
  unfold H.wideP
  simp
  omega
/-- What is left behind a fixed predictor. -/
theorem rest_fixed (l : List Int) (o : Nat) (ho : 1 ≤ o ∧ o ≤ 4) (hl : l.length ≤ 40) (hx : bnd 8388608 l) (W : Bool) (Po : Int) (P : List S172) :
    Ev (fun k => subframe_Rest.f k l 2 0 (o : Int) 0 0 [] W Po P) (if l.length < o then ([], 2) else (H.resP o l, 0)) := by
  unfold subframe_Rest.f
  refine evC (down0 l (by omega)) ?_
  refine evF (by decide) ?_
  refine Ev.step (fun k => subframe_Rest.j0.eq_2 ..) ?_
  refine evF (by decide) ?_
  refine evT rfl ?_
  by_cases c : l.length < o
  · rw [if_pos c]
    refine evC (a := ([], 2)) ?_ ?_
    · unfold H.fixed_Residual.f
      rw [if_neg (by omega), if_pos (by omega)]
    · exact evF (by decide) (Ev.now _)
  · rw [if_neg c]
    refine evC (a := (H.resP o l, 0)) ?_ ?_
    · unfold H.fixed_Residual.f
      rw [if_neg (by omega), if_neg (by omega), if_pos (by omega), Int.toNat_natCast]
    · refine evT rfl ?_
      refine evC (not_wide _ (by rw [res_len]; omega) (res_small l hx o ho)) ?_
      exact evF (by decide) (Ev.now _)
theorem rest_linear (l : List Int) (o : Nat) (ho : 1 ≤ o ∧ o ≤ 4) (hl : l.length ≤ 40) (hx : bnd 8388608 l) (W : Bool) (Po : Int) (P : List S172) :
    Ev (fun k => subframe_Rest.f k l 3 0 0 0 5 (fixF o) W Po P) (if l.length < o then ([], 2) else (H.resP o l, 0)) := by
  have hF := fixF_len o ho
  unfold subframe_Rest.f
  refine evC (down0 l (by omega)) ?_
  refine evF (by decide) ?_
  refine Ev.step (fun k => subframe_Rest.j0.eq_2 ..) ?_
  refine evF (by decide) ?_
  refine evF (by decide) ?_
  refine evT rfl ?_
  by_cases c : l.length < o
  · rw [if_pos c]
    refine evC (a := ([], 2)) ?_ ?_
    · unfold H.lpc_Residual.f
      rw [if_pos (by omega), if_neg (by rw [fixF_ok o ho]; decide), if_pos (by omega)]
    · exact evF (by decide) (Ev.now _)
  · rw [if_neg c]
    refine evC (a := (H.resP o l, 0)) ?_ ?_
    · unfold H.lpc_Residual.f
      rw [if_pos (by omega), if_neg (by rw [fixF_ok o ho]; decide), if_neg (by omega), hF, lin_res l hx o ho (by omega)]
    · refine evT rfl ?_
      refine evC (not_wide _ (by rw [res_len]; omega) (res_small l hx o ho)) ?_
      exact evF (by decide) (Ev.now _)
theorem bits_fixed (l : List Int) (o : Nat) (ho : 1 ≤ o ∧ o ≤ 4) (hl : 1 ≤ l.length ∧ l.length ≤ 40) (h0 : ∀ x ∈ l, -8388608 ≤ x ∧ x < 8388608) (W : Bool) (Po : Int) (P : List S172) (r : Int) (hr : Ev (fun k => parts_Bits.f k (H.resP o l) (o : Int) W Po P) r) :
    Ev (fun k => subframe_Bits.f k l 2 0 (o : Int) 0 0 [] W Po P 24) (if l.length < o then (0, 2) else if r < 0 then (0, 1) else (wrap64 (wrap64 (wrap64 (8 + 0) + wrap64 (wrap64 (24 - 0) * (o : Int))) + r), 0)) := by
  have hx : bnd 8388608 l := mem_bnd fun x hx => by have := h0 x hx; omega
  unfold subframe_Bits.f
  refine evB (odd_ev l 2 0 (o : Int) 0 0 [] W Po P 24 (by decide) (by omega) (by decide) (by decide) fun x hx => lin_in x (h0 x hx)) ?_
  refine evT rfl ?_
  refine evB (rest_fixed l o ho hl.2 hx W Po P) ?_
  refine evF (by decide) ?_
  refine evF (by decide) ?_
  refine evF (by decide) ?_
  refine evT rfl ?_
  by_cases c : l.length < o
  · rw [if_pos c, if_pos c]
    exact evF (by decide) (Ev.now _)
  · rw [if_neg c, if_neg c]
    refine evT rfl ?_
    have e : subframe_order.f 2 0 (o : Int) 0 0 [] W Po P = some (o : Int) := rfl
    refine evC e ?_
    refine Ev.step (fun k => subframe_Bits.j0.eq_2 ..) ?_
    refine evC e ?_
    refine evB hr ?_
    exact evI (Ev.now _) (Ev.now _)
theorem bits_linear (l : List Int) (o : Nat) (ho : 1 ≤ o ∧ o ≤ 4) (hl : 1 ≤ l.length ∧ l.length ≤ 40) (h0 : ∀ x ∈ l, -8388608 ≤ x ∧ x < 8388608) (W : Bool) (Po : Int) (P : List S172) (r : Int) (hr : Ev (fun k => parts_Bits.f k (H.resP o l) (o : Int) W Po P) r) :
    Ev (fun k => subframe_Bits.f k l 3 0 0 0 5 (fixF o) W Po P 24) (if l.length < o then (0, 2) else if r < 0 then (0, 1) else (wrap64 (wrap64 (wrap64 (wrap64 (8 + 0) + wrap64 (9 + wrap64 (5 * (o : Int)))) + wrap64 (wrap64 (24 - 0) * (o : Int))) + r), 0)) := by
  have hx : bnd 8388608 l := mem_bnd fun x hx => by have := h0 x hx; omega
  have hF := fixF_len o ho
  unfold subframe_Bits.f
  refine evB (odd_ev l 3 0 0 0 5 (fixF o) W Po P 24 (by decide) (by omega) (by decide) (by decide) fun x hx => lin_in x (h0 x hx)) ?_
  refine evT rfl ?_
  refine evB (rest_linear l o ho hl.2 hx W Po P) ?_
  refine evF (by decide) ?_
  refine evF (by decide) ?_
  refine evT rfl ?_
  by_cases c : l.length < o
  · rw [if_pos c, if_pos c]
    exact evF (by decide) (Ev.now _)
  · rw [if_neg c, if_neg c]
    refine evT rfl ?_
    have e : subframe_order.f 3 0 0 0 5 (fixF o) W Po P = some (o : Int) := by
      unfold subframe_order.f
      rw [if_neg (by decide), if_pos rfl, hF]
    refine evC e ?_
    rw [hF]
    refine Ev.step (fun k => subframe_Bits.j0.eq_2 ..) ?_
    refine evC e ?_
    refine evB hr ?_
    exact evI (Ev.now _) (Ev.now _)
theorem bits_none (K O Sh Pr : Int) (F : List Int) (W : Bool) (Po : Int) (P : List S172) : Ev (fun k => subframe_Bits.f k [] K 0 O Sh Pr F W Po P 24) (0, 1) := by
  unfold subframe_Bits.f
  refine evB (odd_nil K O Sh Pr F W Po P) ?_
  exact evF (by decide) (Ev.now _)
theorem nine_more (o : Nat) (ho : 1 ≤ o ∧ o ≤ 4) (r : Int) : wrap64 (wrap64 (wrap64 (wrap64 (8 + 0) + wrap64 (9 + wrap64 (5 * (o : Int)))) + wrap64 (wrap64 (24 - 0) * (o : Int))) + r) = wrap64 (wrap64 (wrap64 (wrap64 (wrap64 (8 + 0) + wrap64 (wrap64 (24 - 0) * (o : Int))) + r) + 9) + wrap64 (5 * (o : Int))) := by
  have hq : o = 1 ∨ o = 2 ∨ o = 3 ∨ o = 4 := by omega
  rcases hq with rfl | rfl | rfl | rfl <;> (unfold wrap64; omega)
theorem pick (o : Nat) (ho : 1 ≤ o ∧ o ≤ 4) : rd_L3 [[1], [2, -1], [3, -3, 1], [4, -6, 4, -1]] ((o : Int) - 1) = fixF o := by
  have hq : o = 1 ∨ o = 2 ∨ o = 3 ∨ o = 4 := by omega
  rcases hq with rfl | rfl | rfl | rfl <;> rfl
def g24 (x : Int) : Int := Int.tmod (wrap64 x) 8388608
theorem lin_loop (l : List Int) (o : Nat) (ho : 1 ≤ o ∧ o ≤ 4) (W : Bool) (Po : Int) (P : List S172) (hl : l.length ≤ 40) (hP : P.length ≤ 60) (j : Nat) : ∀ i : Nat, i + j = l.length →
    Ev (fun k => serinettelaw16_SubframeLinear.l0 k l true (o : Int) ((l.take i).map g24) (i : Int) W Po P) true := by
  induction j with
  | succ j ih =>
    intro i hi
    have hlt : i < l.length := by omega
    refine Ev.step (fun k => serinettelaw16_SubframeLinear.l0.eq_2 ..) ?_
    refine evT (by omega) ?_
    refine evT (by omega) ?_
    refine evT (by simp; omega) ?_
    have e : ((l.take i).map g24) ++ [Int.tmod (wrap64 (rd l (i : Int))) 8388608] = (l.take (i + 1)).map g24 := by
      rw [List.take_succ_eq_append_getElem hlt, List.map_append, rd_nat l i hlt]
      rfl
    rw [e, show wrap64 ((i : Int) + 1) = ((i + 1 : Nat) : Int) by rw [wr _ (by omega)]; omega]
    exact ih (i + 1) (by omega)
  | zero =>
    intro i hi
    obtain rfl : i = l.length := by omega
    refine Ev.step (fun k => serinettelaw16_SubframeLinear.l0.eq_2 ..) ?_
    refine evF (by omega) ?_
    rw [List.take_length]
    have h0 : ∀ x ∈ l.map g24, -8388608 ≤ x ∧ x < 8388608 := by
      intro x hx
      obtain ⟨y, _, rfl⟩ := List.mem_map.mp hx
      exact tmod_rng _ _ (by decide)
    have hlen : (l.map g24).length = l.length := List.length_map ..
    generalize l.map g24 = X at *
    refine evC rfl ?_
    rw [wr ((o : Int) - 1) (by omega)]
    refine evT (by omega) ?_
    refine evT (by show (o : Int) - 1 < 4; omega) ?_
    rw [pick o ho]
    by_cases hX : X = []
    · subst hX
      refine evB (bits_none 2 (o : Int) 0 0 [] W Po P) ?_
      refine evB (bits_none 3 0 0 5 (fixF o) W Po P) ?_
      refine evT rfl ?_
      refine evT rfl ?_
      refine evF (by decide) ?_
      exact evT rfl (Ev.now _)
    · have hpos := List.length_pos_iff.mpr hX
      obtain ⟨r, hr⟩ := parts_some (H.resP o X) (o : Int) W Po P (by rw [res_len]; omega) (by omega) (by omega)
      refine evB (bits_fixed X o ho (by omega) h0 W Po P r hr) ?_
      refine evB (bits_linear X o ho (by omega) h0 W Po P r hr) ?_
      refine evT rfl ?_
      by_cases c : X.length < o
      · rw [if_pos c, if_pos c]
        refine evT rfl ?_
        refine evF (by decide) ?_
        exact evT rfl (Ev.now _)
      · rw [if_neg c, if_neg c]
        by_cases c1 : r < 0
        · rw [if_pos c1, if_pos c1]
          refine evT rfl ?_
          refine evF (by decide) ?_
          exact evT rfl (Ev.now _)
        · rw [if_neg c1, if_neg c1]
          refine evT rfl ?_
          refine evT rfl ?_
          exact evT (nine_more o ho r) (Ev.now _)
theorem SubframeLinear : serinettelaw16_SubframeLinear.Pure := by
  intro l0 a1 W Po P h1 h2 h3 h4 h5 h6
  have ha := wf_u8 h3
  refine Ev.rounds ?_
  unfold serinettelaw16_SubframeLinear.f
  refine evC rfl ?_
  by_cases c1 : (l0.length : Int) > 40
  · refine evT c1 ?_
    refine Ev.step (fun k => serinettelaw16_SubframeLinear.j0.eq_2 ..) ?_
    exact evT rfl (Ev.now _)
  · refine evF c1 ?_
    refine Ev.step (fun k => serinettelaw16_SubframeLinear.j0.eq_2 ..) ?_
    by_cases c2 : (P.length : Int) > 60
    · exact evT (decide_eq_true c2) (Ev.now _)
    · refine evF (by rw [decide_eq_false c2]; decide) ?_
      have ht : wrap64 (1 + wrap64 (Int.tmod a1 4)) = ((1 + a1 % 4).toNat : Int) := by
        rw [tmod_pos _ _ ha.1, wr (a1 % 4) (by omega), wr _ (by omega)]
        omega
      rw [ht]
      exact lin_loop l0 (1 + a1 % 4).toNat (by omega) W Po P (by omega) (by omega) l0.length 0 (by omega)
end Go.Proofs.Ytpeejdmbnlhjmaa.Pure
