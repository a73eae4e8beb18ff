-- written by this session's program wip/reprint.sh (a turned copy of the kit's print): the session's own text
import Derived.Test.YtpeejdmbnlhjmaaPSubframeLinearx0
namespace Go.Proofs.Ytpeejdmbnlhjmaa.PSubframeLinear
open Go.RowKit Go.Proofs.YtpeejdmbnlhjmaaW.PrintWords Go.Proofs.YtpeejdmbnlhjmaaW.PrintLast Go.Proofs.YtpeejdmbnlhjmaaW.PrintMore Go.Proofs.Ytpeejdmbnlhjmaa.H
attribute [local go_sem] max2_int min2_int max_two min_two max_three min_three max_four min_four   -- for this text's walks alone
set_option linter.unusedVariables false
set_option linter.unusedSimpArgs false

/-! ### subframe_Rest: function 77 -/
def subframe_Rest.j0 : Nat → List Int → Int → List Int → Int → Bool → Int → Int → Int → Int → Int → List Int → Bool → Int → List (S172) → Option (List Int × Int)
  | 0, _, _, _, _, _, _, _, _, _, _, _, _, _, _ => none
  | k + 1, x6, x7, x8, x14, x15, x105000, x105001, x105002, x105003, x105004, x105005, x105006, x105007, x105008 => if x15 = true then (if 0 = 0 then ((slices_ContainsFunc_int_int.f x6 1).bind fun t108 => (if t108 = true then (some (([] : List Int), 14)) else (some (x6, 0)))) else (some (x6, 0))) else (if x14 = 2 then ((fixed_Residual.f x8 x105002).bind fun bt109 => (if bt109.2 = 0 then ((slices_ContainsFunc_int_int.f bt109.1 1).bind fun t113 => (if t113 = true then (some (([] : List Int), 14)) else (some (bt109.1, bt109.2)))) else (some (bt109.1, bt109.2)))) else (if x14 = 3 then ((lpc_Residual.f x8 x105003 x105004 x105005).bind fun bt114 => (if bt114.2 = 0 then ((slices_ContainsFunc_int_int.f bt114.1 1).bind fun t118 => (if t118 = true then (some (([] : List Int), 14)) else (some (bt114.1, bt114.2)))) else (some (bt114.1, bt114.2)))) else (if x7 = 0 then ((slices_ContainsFunc_int_int.f x6 1).bind fun t119 => (if t119 = true then (some (([] : List Int), 14)) else (some (x6, x7)))) else (some (x6, x7)))))
def subframe_Rest.f (k : Nat) (l0 : List Int) (a1_0 : Int) (a1_1 : Int) (a1_2 : Int) (a1_3 : Int) (a1_4 : Int) (l1_5 : List Int) (a1_6 : Bool) (a1_7 : Int) (l1_8 : List (S172)) : Option (List Int × Int) := (subframe_down.f l0 a1_1).bind fun t105 => (if a1_0 = 0 then (subframe_Rest.j0 k ([] : List Int) 1 t105 a1_0 (a1_0 == 0) a1_0 a1_1 a1_2 a1_3 a1_4 l1_5 a1_6 a1_7 l1_8) else (subframe_Rest.j0 k ([] : List Int) 1 t105 a1_0 (a1_0 == 1) a1_0 a1_1 a1_2 a1_3 a1_4 l1_5 a1_6 a1_7 l1_8))
theorem subframe_Rest.mono_l : ∀ k, (∀ y0 y1 y2 y3 y4 y5 y6 y7 y8 y9 y10 y11 y12 y13, LeO (subframe_Rest.j0 k y0 y1 y2 y3 y4 y5 y6 y7 y8 y9 y10 y11 y12 y13) (subframe_Rest.j0 (k + 1) y0 y1 y2 y3 y4 y5 y6 y7 y8 y9 y10 y11 y12 y13))
  | 0 => fun _ _ _ _ _ _ _ _ _ _ _ _ _ _ r h => by simp [subframe_Rest.j0] at h
  | k + 1 => by
    have ih0 := subframe_Rest.mono_l k
    · intro y0 y1 y2 y3 y4 y5 y6 y7 y8 y9 y10 y11 y12 y13
      unfold subframe_Rest.j0
      repeat' first
      | (with_reducible exact ih0 _ _ _ _ _ _ _ _ _ _ _ _ _ _)
      | (with_reducible exact LeO.refl _)
      | (with_reducible exact LeO.none _)
      | (with_reducible refine LeO.ite ?_ ?_)
      | (with_reducible refine LeO.bind ?_ (fun _ => ?_))
      | exact ih0 _ _ _ _ _ _ _ _ _ _ _ _ _ _
      | exact LeO.none _
      | refine LeO.ite ?_ ?_
      | refine LeO.bind ?_ (fun _ => ?_)
theorem subframe_Rest.mono : ∀ a0 a1 a2 a3 a4 a5 a6 a7 a8 a9 k, LeO (subframe_Rest.f k a0 a1 a2 a3 a4 a5 a6 a7 a8 a9) (subframe_Rest.f (k + 1) a0 a1 a2 a3 a4 a5 a6 a7 a8 a9) := by
  intro a0 a1 a2 a3 a4 a5 a6 a7 a8 a9 k
  have ih0 := subframe_Rest.mono_l k
  unfold subframe_Rest.f
  repeat' first
      | (with_reducible exact ih0 _ _ _ _ _ _ _ _ _ _ _ _ _ _)
      | (with_reducible exact LeO.refl _)
      | (with_reducible exact LeO.none _)
      | (with_reducible refine LeO.ite ?_ ?_)
      | (with_reducible refine LeO.bind ?_ (fun _ => ?_))
      | exact ih0 _ _ _ _ _ _ _ _ _ _ _ _ _ _
      | exact LeO.none _
      | refine LeO.ite ?_ ?_
      | refine LeO.bind ?_ (fun _ => ?_)
set_option maxHeartbeats 8000000 in
set_option maxRecDepth 100000 in
theorem subframe_Rest.calls (k : Nat) (A0 : Option Addr) (c0 : Nat) (l0 : List Int) (a1_0 : Int) (a1_1 : Int) (a1_2 : Int) (a1_3 : Int) (a1_4 : Int) (A1_5 : Option Addr) (c1_5 : Nat) (l1_5 : List Int) (a1_6 : Bool) (a1_7 : Int) (A1_8 : Option Addr) (c1_8 : Nat) (l1_8 : List (S172)) (r1 : List Int) (r2 : Int) (w : World) (hr0 : Kd.C (Kd.int .i64) w A0 l0.length l0) (hc0 : l0.length ≤ c0) (hr1_5 : Kd.C (Kd.int .i64) w A1_5 l1_5.length l1_5) (hc1_5 : l1_5.length ≤ c1_5) (hr1_8 : Kd.C k172 w A1_8 l1_8.length l1_8) (hc1_8 : l1_8.length ≤ c1_8) (h : subframe_Rest.f k l0 a1_0 a1_1 a1_2 a1_3 a1_4 l1_5 a1_6 a1_7 l1_8 = some (r1, r2)) :
    Calls Try.prog 77 #[.slice A0 l0.length c0, .agg #[.int .i64 a1_0, .int .i64 a1_1, .int .i64 a1_2, .int .i64 a1_3, .int .i64 a1_4, .slice A1_5 l1_5.length c1_5, .bool a1_6, .int .i64 a1_7, .slice A1_8 l1_8.length c1_8]] w fun e w' => ∃ v0_ : Value, e = .returned (.tuple #[v0_, .int .i64 r2]) ∧ Kd.R (Kd.int .i64) 3 w' w.heap.size (fun _ => True) v0_ r1 ∧ Below w.heap.size w w' := by
  have hu87 := Try.underlying87
  have hu82 := Try.underlying82
  have HR0 := Aside0.mk hr0
  have HC0 := Aside0.mk hc0
  clear hr0 hc0
  have HR1_5 := Aside0.mk hr1_5
  have HC1_5 := Aside0.mk hc1_5
  clear hr1_5 hc1_5
  have HR1_8 := Aside0.mk hr1_8
  have HC1_8 := Aside0.mk hc1_8
  clear hr1_8 hc1_8
  have HB := Aside0.mk (Below.refl w.heap.size w)
  have H : ((subframe_down.f l0 a1_1).bind fun t105 => (if a1_0 = 0 then (subframe_Rest.j0 k ([] : List Int) 1 t105 a1_0 (a1_0 == 0) a1_0 a1_1 a1_2 a1_3 a1_4 l1_5 a1_6 a1_7 l1_8) else (subframe_Rest.j0 k ([] : List Int) 1 t105 a1_0 (a1_0 == 1) a1_0 a1_1 a1_2 a1_3 a1_4 l1_5 a1_6 a1_7 l1_8))) = some (r1, r2) := h
  clear h
  replace H := Option.bind_eq_some_iff.mp H
  obtain ⟨t105, A30, H⟩ := H
  replace H : (if a1_0 = 0 then (subframe_Rest.j0 k ([] : List Int) 1 t105 a1_0 (a1_0 == 0) a1_0 a1_1 a1_2 a1_3 a1_4 l1_5 a1_6 a1_7 l1_8) else (subframe_Rest.j0 k ([] : List Int) 1 t105 a1_0 (a1_0 == 1) a1_0 a1_1 a1_2 a1_3 a1_4 l1_5 a1_6 a1_7 l1_8)) = some (r1, r2) := H
  have A3 := Aside0.mk A30
  clear A30
  have HC4 := Aside0.mk H
  clear H
  go_enter Try.func77, Try.ntmps77
  go_upto_if 15 with (first | ((with_reducible refine gate_dst (N := 3) rfl ?_); refine box_event ?hg (N := 3) ?hd (cs := #[.int .i64 a1_0, .int .i64 a1_1, .int .i64 a1_2, .int .i64 a1_3, .int .i64 a1_4, .slice A1_5 l1_5.length c1_5, .bool a1_6, .int .i64 a1_7, .slice A1_8 l1_8.length c1_8]) (t := 87) ?hr ?_; (case hd => rfl); (case hg => rfl); (case hr => first | (go_simp; done) | (go_simp; rfl)); intro gb104 hg w5 hbox hb; have n0_ := Aside0.mk (below_step (by repeat (first | (with_reducible first | exact HB.out | apply below_alloc | apply pw_below_drewN | apply below_drew1) | exact HB.out)) hb); have n1_ := Aside0.mk (hbox); have n2_ := Aside0.mk ((by rw [hg]; exact (below_size (by repeat (first | (with_reducible first | exact HB.out | apply below_alloc | apply pw_below_drewN | apply below_drew1) | exact HB.out))) : w.heap.size ≤ gb104)); have n3_ := Aside0.mk ((by rw [hg]; exact (below_size (by repeat (first | (with_reducible first | exact HB.out | apply below_alloc | apply pw_below_drewN | apply below_drew1) | exact HB.out))) : w.heap.size ≤ gb104)); clear HB; have HB := n0_; have BK104 := n1_; have GW104 := n2_; have GE104 := n3_; clear n0_ n1_ n2_ n3_; clear hb hbox hg; have hcz6_0 : w5.cell? ⟨gb104, 0, none⟩ = some (.int .i64 a1_0) := (blk_cell BK104.out 0).trans rfl; have hcz6_1 : w5.cell? ⟨gb104, 1, none⟩ = some (.int .i64 a1_1) := (blk_cell BK104.out 1).trans rfl; have hcz6_2 : w5.cell? ⟨gb104, 2, none⟩ = some (.int .i64 a1_2) := (blk_cell BK104.out 2).trans rfl; have hcz6_3 : w5.cell? ⟨gb104, 3, none⟩ = some (.int .i64 a1_3) := (blk_cell BK104.out 3).trans rfl; have hcz6_4 : w5.cell? ⟨gb104, 4, none⟩ = some (.int .i64 a1_4) := (blk_cell BK104.out 4).trans rfl; have hcz6_5 : w5.cell? ⟨gb104, 5, none⟩ = some (.slice A1_5 l1_5.length c1_5) := (blk_cell BK104.out 5).trans rfl; have hcz6_6 : w5.cell? ⟨gb104, 6, none⟩ = some (.bool a1_6) := (blk_cell BK104.out 6).trans rfl; have hcz6_7 : w5.cell? ⟨gb104, 7, none⟩ = some (.int .i64 a1_7) := (blk_cell BK104.out 7).trans rfl; have hcz6_8 : w5.cell? ⟨gb104, 8, none⟩ = some (.slice A1_8 l1_8.length c1_8) := (blk_cell BK104.out 8).trans rfl; have hfz6_0 := blk_frozen BK104.out 0; have hfz6_1 := blk_frozen BK104.out 1; have hfz6_2 := blk_frozen BK104.out 2; have hfz6_3 := blk_frozen BK104.out 3; have hfz6_4 := blk_frozen BK104.out 4; have hfz6_5 := blk_frozen BK104.out 5; have hfz6_6 := blk_frozen BK104.out 6; have hfz6_7 := blk_frozen BK104.out 7; have hfz6_8 := blk_frozen BK104.out 8) | ((with_reducible refine gate_callee (f := 86) rfl ?_); refine goesL_ (some 12) rfl rfl Try.func86 (by kernel_rfl) rfl #[.slice A0 l0.length c0, .int .i64 a1_1] rfl (by (try simp only [List.map_toArray, List.map_cons, List.map_nil]); first | done | rfl | (simp only [List.length_drop, List.length_take]; rfl)) ?_; (with_reducible refine (subframe_down.calls _ _ l0 a1_1 t105 _ ?side1 ?side2 A3.out).mono ?_); (case side1 => repeat (first | exact (Kd.C_below HR0.out HB.out) | (with_reducible refine Kd.C_alloc ?_ _) | (with_reducible refine Kd.C_drewN ?_ _) | (with_reducible refine Kd.C_drew ?_))); (case side2 => exact HC0.out); rintro e w7 ⟨v106, rfl, ho0, hb⟩; refine ⟨_, rfl, ?_⟩; have n0_ := Aside0.mk (Kd.R_lower ho0 (below_size (by repeat (first | (with_reducible first | exact HB.out | apply below_alloc | apply pw_below_drewN | apply below_drew1 | refine below_set ?_ GE104.out) | exact HB.out)))); have n1_ := Aside0.mk (blk_below (g := gb104) (o := .cells #[.int .i64 a1_0, .int .i64 a1_1, .int .i64 a1_2, .int .i64 a1_3, .int .i64 a1_4, .slice A1_5 l1_5.length c1_5, .bool a1_6, .int .i64 a1_7, .slice A1_8 l1_8.length c1_8] 87 (0, 0)) (by (with_reducible repeat (first | refine blk_drewN ?_ _ | refine blk_drew ?_ | refine blk_alloc ?_ _)); exact BK104.out) hb); have n2_ := Aside0.mk (below_step (by repeat (first | (with_reducible first | exact HB.out | apply below_alloc | apply pw_below_drewN | apply below_drew1 | refine below_set ?_ GE104.out) | exact HB.out)) hb); clear BK104; clear HB; have HO107 := n0_; have BK104 := n1_; have HB := n2_; clear n0_ n1_ n2_; (try clear hb); (try clear hb2); (try clear hk); (try clear hi); (try clear ho0); have hcz8_0 : w7.cell? ⟨gb104, 0, none⟩ = some (.int .i64 a1_0) := (blk_cell BK104.out 0).trans rfl; have hcz8_1 : w7.cell? ⟨gb104, 1, none⟩ = some (.int .i64 a1_1) := (blk_cell BK104.out 1).trans rfl; have hcz8_2 : w7.cell? ⟨gb104, 2, none⟩ = some (.int .i64 a1_2) := (blk_cell BK104.out 2).trans rfl; have hcz8_3 : w7.cell? ⟨gb104, 3, none⟩ = some (.int .i64 a1_3) := (blk_cell BK104.out 3).trans rfl; have hcz8_4 : w7.cell? ⟨gb104, 4, none⟩ = some (.int .i64 a1_4) := (blk_cell BK104.out 4).trans rfl; have hcz8_5 : w7.cell? ⟨gb104, 5, none⟩ = some (.slice A1_5 l1_5.length c1_5) := (blk_cell BK104.out 5).trans rfl; have hcz8_6 : w7.cell? ⟨gb104, 6, none⟩ = some (.bool a1_6) := (blk_cell BK104.out 6).trans rfl; have hcz8_7 : w7.cell? ⟨gb104, 7, none⟩ = some (.int .i64 a1_7) := (blk_cell BK104.out 7).trans rfl; have hcz8_8 : w7.cell? ⟨gb104, 8, none⟩ = some (.slice A1_8 l1_8.length c1_8) := (blk_cell BK104.out 8).trans rfl; have hfz8_0 := blk_frozen BK104.out 0; have hfz8_1 := blk_frozen BK104.out 1; have hfz8_2 := blk_frozen BK104.out 2; have hfz8_3 := blk_frozen BK104.out 3; have hfz8_4 := blk_frozen BK104.out 4; have hfz8_5 := blk_frozen BK104.out 5; have hfz8_6 := blk_frozen BK104.out 6; have hfz8_7 := blk_frozen BK104.out 7; have hfz8_8 := blk_frozen BK104.out 8))
  (try simp only [Act.put, List.setIfInBounds_toArray, List.set_cons_zero, List.set_cons_succ])
  go_cut [15] (fun v15 wc => ∃ (kq : Nat) (x15_3 : Bool), v15 = .bool x15_3 ∧ Aside0 (subframe_Rest.j0 kq ([] : List Int) 1 t105 a1_0 x15_3 a1_0 a1_1 a1_2 a1_3 a1_4 l1_5 a1_6 a1_7 l1_8 = some (r1, r2)) ∧ Aside0 (kq ≤ k) ∧ Aside0 (Kd.R (Kd.int .i64) 3 wc w.heap.size (fun k_ => some k_ ≠ (v106 : Value).ownBlock) (.slice none 0 0) ([] : List Int)) ∧ Aside0 (Kd.R (Kd.int .i64) 3 wc w.heap.size (fun k_ => some k_ ≠ ((.slice none 0 0) : Value).ownBlock) v106 t105) ∧ Aside0 (wc.heap[gb104]? = some (.cells #[.int .i64 a1_0, .int .i64 a1_1, .int .i64 a1_2, .int .i64 a1_3, .int .i64 a1_4, (.slice A1_5 l1_5.length c1_5), .bool a1_6, .int .i64 a1_7, (.slice A1_8 l1_8.length c1_8)] 87 (0, 0))) ∧ Aside0 (Below w.heap.size w wc))
  case first =>
    have H := HC4.out
    clear HC4
    by_cases c9 : a1_0 = 0
    · rw [if_pos c9] at H
      have c9b0 : (a1_0 == 0) = true := beq_iff_eq.mpr c9
      have c9b1 : (a1_0 != 0) = false := bne_eq_false_iff_eq.mpr c9
      clear c9
      (first | rw [c9b0] | (simp only [i64_w, i32_w]; rw [c9b0]) | skip)
      have H' := Aside0.mk H
      clear H
      go_wp2
      go_meet
      case rel => exact ⟨_, ((a1_0 == 0)), (by first | rfl | (simp; done) | (simp [*]; done)), H', ⟨by first | omega | exact Nat.le_refl _⟩, ⟨by first | exact Kd.R_nil _ _ _ _ _ | exact Kd.N_nil _ _ _ _ _ | exact Kd.V_nil _ _ _ _ _ | exact Kd.Q_nil _ _ _ _ _ | exact Kd.S_nil _ _ _ _ _⟩, ⟨by (with_reducible repeat (first | apply Kd.R_alloc | apply Kd.R_drewN | apply Kd.R_drew)); exact Kd.R_mono HO107.out (fun _ hk => (by simp [Value.ownBlock]))⟩, ⟨by (with_reducible repeat (first | refine blk_drewN ?_ _ | refine blk_drew ?_ | refine blk_alloc ?_ _)); exact BK104.out⟩, ⟨by repeat (first | (with_reducible first | exact HB.out | apply below_alloc | apply pw_below_drewN | apply below_drew1 | refine below_set ?_ GE104.out) | exact HB.out)⟩⟩
    · rw [if_neg c9] at H
      have c9b0 : (a1_0 == 0) = false := beq_eq_false_iff_ne.mpr c9
      have c9b1 : (a1_0 != 0) = true := bne_iff_ne.mpr c9
      (first | rw [c9b0] | (simp only [i64_w, i32_w]; rw [c9b0]) | skip)
      have H' := Aside0.mk H
      clear H
      go_wp2
      go_meet
      case rel => exact ⟨_, ((a1_0 == 1)), (by first | rfl | (simp; done) | (simp [*]; done)), H', ⟨by first | omega | exact Nat.le_refl _⟩, ⟨by first | exact Kd.R_nil _ _ _ _ _ | exact Kd.N_nil _ _ _ _ _ | exact Kd.V_nil _ _ _ _ _ | exact Kd.Q_nil _ _ _ _ _ | exact Kd.S_nil _ _ _ _ _⟩, ⟨by (with_reducible repeat (first | apply Kd.R_alloc | apply Kd.R_drewN | apply Kd.R_drew)); exact Kd.R_mono HO107.out (fun _ hk => (by simp [Value.ownBlock]))⟩, ⟨by (with_reducible repeat (first | refine blk_drewN ?_ _ | refine blk_drew ?_ | refine blk_alloc ?_ _)); exact BK104.out⟩, ⟨by repeat (first | (with_reducible first | exact HB.out | apply below_alloc | apply pw_below_drewN | apply below_drew1 | refine below_set ?_ GE104.out) | exact HB.out)⟩⟩
  case rest =>
    clear HC4
    try clear c1
    try clear p2
    try clear c7
    try clear c8
    try clear c9
    try clear c9b0
    try clear c9b1
    try clear hcz6_0
    try clear hcz6_1
    try clear hcz6_2
    try clear hcz6_3
    try clear hcz6_4
    try clear hcz6_5
    try clear hcz6_6
    try clear hcz6_7
    try clear hcz6_8
    try clear hcz8_0
    try clear hcz8_1
    try clear hcz8_2
    try clear hcz8_3
    try clear hcz8_4
    try clear hcz8_5
    try clear hcz8_6
    try clear hcz8_7
    try clear hcz8_8
    try clear hfz6_0
    try clear hfz6_1
    try clear hfz6_2
    try clear hfz6_3
    try clear hfz6_4
    try clear hfz6_5
    try clear hfz6_6
    try clear hfz6_7
    try clear hfz6_8
    try clear hfz8_0
    try clear hfz8_1
    try clear hfz8_2
    try clear hfz8_3
    try clear hfz8_4
    try clear hfz8_5
    try clear hfz8_6
    try clear hfz8_7
    try clear hfz8_8
    obtain ⟨kq, x15_3, rfl, HA, HJ3, HO_6, HO_8, BK104, HB⟩ := hcut
    cases kq with
    | zero => exact absurd HA.out (by simp [subframe_Rest.j0])
    | succ kj3 =>
      have H := HA.out
      clear HA
      simp only [subframe_Rest.j0] at H
      by_cases c10 : x15_3 = true
      · subst c10
        have H1 : (if 0 = 0 then ((slices_ContainsFunc_int_int.f ([] : List Int) 1).bind fun t108 => (if t108 = true then (some (([] : List Int), 14)) else (some (([] : List Int), 0)))) else (some (([] : List Int), 0))) = some (r1, r2) := by rw [if_pos rfl] at H; exact H
        clear H
        have H := H1
        clear H1
        by_cases c11 : 0 = 0
        · rw [if_pos c11] at H
          have c11b0 : (0 == 0) = true := beq_iff_eq.mpr c11
          have c11b1 : (0 != 0) = false := bne_eq_false_iff_eq.mpr c11
          clear c11
          replace H := Option.bind_eq_some_iff.mp H
          obtain ⟨t108, A120, H⟩ := H
          replace H : (if t108 = true then (some (([] : List Int), 14)) else (some (([] : List Int), 0))) = some (r1, r2) := H
          have A12 := Aside0.mk A120
          clear A120
          by_cases c13 : t108 = true
          · subst c13
            have H1 : (some (([] : List Int), 14)) = some (r1, r2) := by rw [if_pos rfl] at H; exact H
            clear H
            have H := H1
            clear H1
            simp only [Option.some.injEq, Prod.mk.injEq] at H
            obtain ⟨rfl, rfl⟩ := H
            go_wp2_with (first | (go_at_call 127; refine calls_of_args (args' := #[.slice none ([] : List Int).length 0, .func (.func 128) #[] #[]]) (by first | (rw [show ([] : List Int).length = 0 from (Kd.R_reads' HO_6.out).1.symm] <;> rfl) | rfl) ?_; (with_reducible refine (slices_ContainsFunc_int_int.calls1 _ _ ([] : List Int) 1 true _ ?side1 ?side2 A12.out).mono ?_); (case side1 => repeat (first | exact (Kd.R_reads' HO_6.out).2.2 | (with_reducible refine Kd.C_alloc ?_ _) | (with_reducible refine Kd.C_drewN ?_ _) | (with_reducible refine Kd.C_drew ?_))); (case side2 => rw [show ([] : List Int).length = 0 from (Kd.R_reads' HO_6.out).1.symm]; exact (Kd.R_reads' HO_6.out).2.1); rintro e w14 ⟨rfl, hb⟩; have n0_ := Aside0.mk (Kd.R_below (by (with_reducible repeat (first | apply Kd.R_alloc | apply Kd.R_drewN | apply Kd.R_drew)); exact HO_6.out) hb); have n1_ := Aside0.mk (Kd.R_below (by (with_reducible repeat (first | apply Kd.R_alloc | apply Kd.R_drewN | apply Kd.R_drew)); exact HO_8.out) hb); have n2_ := Aside0.mk (blk_below (g := gb104) (o := .cells #[.int .i64 a1_0, .int .i64 a1_1, .int .i64 a1_2, .int .i64 a1_3, .int .i64 a1_4, .slice A1_5 l1_5.length c1_5, .bool a1_6, .int .i64 a1_7, .slice A1_8 l1_8.length c1_8] 87 (0, 0)) (by (with_reducible repeat (first | refine blk_drewN ?_ _ | refine blk_drew ?_ | refine blk_alloc ?_ _)); exact BK104.out) hb); have n3_ := Aside0.mk (below_step (by repeat (first | (with_reducible first | exact HB.out | apply below_alloc | apply pw_below_drewN | apply below_drew1 | refine below_set ?_ GE104.out) | exact HB.out)) hb); clear HO_6; clear HO_8; clear BK104; clear HB; have HO_6 := n0_; have HO_8 := n1_; have BK104 := n2_; have HB := n3_; clear n0_ n1_ n2_ n3_; (try clear hb); (try clear hb2); (try clear hk); (try clear hi)))
            go_ret2
            exact ⟨_, by first | rfl | (simp [errW_none, errW_some] <;> rfl) | (simp [*, errW_none, errW_some] <;> rfl), by first | exact Kd.R_nil _ _ _ _ _ | exact Kd.N_nil _ _ _ _ _ | exact Kd.V_nil _ _ _ _ _ | exact Kd.Q_nil _ _ _ _ _ | exact Kd.S_nil _ _ _ _ _, by repeat (first | (with_reducible first | exact HB.out | apply below_alloc | apply pw_below_drewN | apply below_drew1 | refine below_set ?_ GE104.out) | exact HB.out)⟩
          · replace c13 := Bool.eq_false_iff.mpr c13
            subst c13
            have H1 : (some (([] : List Int), 0)) = some (r1, r2) := by rw [if_neg (show ¬ (false = true) by decide)] at H; exact H
            clear H
            have H := H1
            clear H1
            simp only [Option.some.injEq, Prod.mk.injEq] at H
            obtain ⟨rfl, rfl⟩ := H
            go_wp2_with (first | (go_at_call 127; refine calls_of_args (args' := #[.slice none ([] : List Int).length 0, .func (.func 128) #[] #[]]) (by first | (rw [show ([] : List Int).length = 0 from (Kd.R_reads' HO_6.out).1.symm] <;> rfl) | rfl) ?_; (with_reducible refine (slices_ContainsFunc_int_int.calls1 _ _ ([] : List Int) 1 false _ ?side1 ?side2 A12.out).mono ?_); (case side1 => repeat (first | exact (Kd.R_reads' HO_6.out).2.2 | (with_reducible refine Kd.C_alloc ?_ _) | (with_reducible refine Kd.C_drewN ?_ _) | (with_reducible refine Kd.C_drew ?_))); (case side2 => rw [show ([] : List Int).length = 0 from (Kd.R_reads' HO_6.out).1.symm]; exact (Kd.R_reads' HO_6.out).2.1); rintro e w15 ⟨rfl, hb⟩; have n0_ := Aside0.mk (Kd.R_below (by (with_reducible repeat (first | apply Kd.R_alloc | apply Kd.R_drewN | apply Kd.R_drew)); exact HO_6.out) hb); have n1_ := Aside0.mk (Kd.R_below (by (with_reducible repeat (first | apply Kd.R_alloc | apply Kd.R_drewN | apply Kd.R_drew)); exact HO_8.out) hb); have n2_ := Aside0.mk (blk_below (g := gb104) (o := .cells #[.int .i64 a1_0, .int .i64 a1_1, .int .i64 a1_2, .int .i64 a1_3, .int .i64 a1_4, .slice A1_5 l1_5.length c1_5, .bool a1_6, .int .i64 a1_7, .slice A1_8 l1_8.length c1_8] 87 (0, 0)) (by (with_reducible repeat (first | refine blk_drewN ?_ _ | refine blk_drew ?_ | refine blk_alloc ?_ _)); exact BK104.out) hb); have n3_ := Aside0.mk (below_step (by repeat (first | (with_reducible first | exact HB.out | apply below_alloc | apply pw_below_drewN | apply below_drew1 | refine below_set ?_ GE104.out) | exact HB.out)) hb); clear HO_6; clear HO_8; clear BK104; clear HB; have HO_6 := n0_; have HO_8 := n1_; have BK104 := n2_; have HB := n3_; clear n0_ n1_ n2_ n3_; (try clear hb); (try clear hb2); (try clear hk); (try clear hi)))
            go_ret2
            exact ⟨_, by first | rfl | (simp [errW_none, errW_some] <;> rfl) | (simp [*, errW_none, errW_some] <;> rfl), by (with_reducible repeat (first | apply Kd.R_alloc | apply Kd.R_drewN | apply Kd.R_drew)); exact Kd.R_mono HO_6.out (fun _ hk => trivial), by repeat (first | (with_reducible first | exact HB.out | apply below_alloc | apply pw_below_drewN | apply below_drew1 | refine below_set ?_ GE104.out) | exact HB.out)⟩
        · exact absurd rfl c11
      · replace c10 := Bool.eq_false_iff.mpr c10
        subst c10
        have H1 : (if a1_0 = 2 then ((fixed_Residual.f t105 a1_2).bind fun bt109 => (if bt109.2 = 0 then ((slices_ContainsFunc_int_int.f bt109.1 1).bind fun t113 => (if t113 = true then (some (([] : List Int), 14)) else (some (bt109.1, bt109.2)))) else (some (bt109.1, bt109.2)))) else (if a1_0 = 3 then ((lpc_Residual.f t105 a1_3 a1_4 l1_5).bind fun bt114 => (if bt114.2 = 0 then ((slices_ContainsFunc_int_int.f bt114.1 1).bind fun t118 => (if t118 = true then (some (([] : List Int), 14)) else (some (bt114.1, bt114.2)))) else (some (bt114.1, bt114.2)))) else (if 1 = 0 then ((slices_ContainsFunc_int_int.f ([] : List Int) 1).bind fun t119 => (if t119 = true then (some (([] : List Int), 14)) else (some (([] : List Int), 1)))) else (some (([] : List Int), 1))))) = some (r1, r2) := by rw [if_neg (show ¬ (false = true) by decide)] at H; exact H
        clear H
        have H := H1
        clear H1
        by_cases c16 : a1_0 = 2
        · rw [if_pos c16] at H
          have c16b0 : (a1_0 == 2) = true := beq_iff_eq.mpr c16
          have c16b1 : (a1_0 != 2) = false := bne_eq_false_iff_eq.mpr c16
          clear c16
          replace H := Option.bind_eq_some_iff.mp H
          obtain ⟨⟨t109, t110⟩, A170, H⟩ := H
          replace H : (if t110 = 0 then ((slices_ContainsFunc_int_int.f t109 1).bind fun t113 => (if t113 = true then (some (([] : List Int), 14)) else (some (t109, t110)))) else (some (t109, t110))) = some (r1, r2) := H
          have A17 := Aside0.mk A170
          clear A170
          by_cases c18 : t110 = 0
          · rw [if_pos c18] at H
            have c18b0 : (t110 == 0) = true := beq_iff_eq.mpr c18
            have c18b1 : (t110 != 0) = false := bne_eq_false_iff_eq.mpr c18
            clear c18
            replace H := Option.bind_eq_some_iff.mp H
            obtain ⟨t113, A190, H⟩ := H
            replace H : (if t113 = true then (some (([] : List Int), 14)) else (some (t109, t110))) = some (r1, r2) := H
            have A19 := Aside0.mk A190
            clear A190
            by_cases c20 : t113 = true
            · subst c20
              have H1 : (some (([] : List Int), 14)) = some (r1, r2) := by rw [if_pos rfl] at H; exact H
              clear H
              have H := H1
              clear H1
              simp only [Option.some.injEq, Prod.mk.injEq] at H
              obtain ⟨rfl, rfl⟩ := H
              have hcz21_0 : wc.cell? ⟨gb104, 0, none⟩ = some (.int .i64 a1_0) := (blk_cell BK104.out 0).trans rfl
              have hcz21_1 : wc.cell? ⟨gb104, 1, none⟩ = some (.int .i64 a1_1) := (blk_cell BK104.out 1).trans rfl
              have hcz21_2 : wc.cell? ⟨gb104, 2, none⟩ = some (.int .i64 a1_2) := (blk_cell BK104.out 2).trans rfl
              have hcz21_3 : wc.cell? ⟨gb104, 3, none⟩ = some (.int .i64 a1_3) := (blk_cell BK104.out 3).trans rfl
              have hcz21_4 : wc.cell? ⟨gb104, 4, none⟩ = some (.int .i64 a1_4) := (blk_cell BK104.out 4).trans rfl
              have hcz21_5 : wc.cell? ⟨gb104, 5, none⟩ = some (.slice A1_5 l1_5.length c1_5) := (blk_cell BK104.out 5).trans rfl
              have hcz21_6 : wc.cell? ⟨gb104, 6, none⟩ = some (.bool a1_6) := (blk_cell BK104.out 6).trans rfl
              have hcz21_7 : wc.cell? ⟨gb104, 7, none⟩ = some (.int .i64 a1_7) := (blk_cell BK104.out 7).trans rfl
              have hcz21_8 : wc.cell? ⟨gb104, 8, none⟩ = some (.slice A1_8 l1_8.length c1_8) := (blk_cell BK104.out 8).trans rfl
              have hfz21_0 := blk_frozen BK104.out 0
              have hfz21_1 := blk_frozen BK104.out 1
              have hfz21_2 := blk_frozen BK104.out 2
              have hfz21_3 := blk_frozen BK104.out 3
              have hfz21_4 := blk_frozen BK104.out 4
              have hfz21_5 := blk_frozen BK104.out 5
              have hfz21_6 := blk_frozen BK104.out 6
              have hfz21_7 := blk_frozen BK104.out 7
              have hfz21_8 := blk_frozen BK104.out 8
              obtain ⟨Ao22, co22, eo22⟩ := Kd.R_slice HO_8.out
              subst eo22
              go_wp2_with (first | ((with_reducible refine gate_callee (f := 125) rfl ?_); refine goesL_ (some 24) rfl rfl Try.func125 (by kernel_rfl) rfl #[.slice Ao22 t105.length co22, .int .i64 a1_2] rfl (by (try simp only [List.map_toArray, List.map_cons, List.map_nil]); first | done | rfl | (simp only [List.length_drop, List.length_take]; rfl)) ?_; (with_reducible refine (fixed_Residual.calls _ _ t105 a1_2 t109 t110 _ ?side1 ?side2 A17.out).mono ?_); (case side1 => repeat (first | exact (Kd.R_reads' HO_8.out).2.2 | (with_reducible refine Kd.C_alloc ?_ _) | (with_reducible refine Kd.C_drewN ?_ _) | (with_reducible refine Kd.C_drew ?_))); (case side2 => exact (Kd.R_reads' HO_8.out).2.1); rintro e w23 ⟨v111, rfl, ho0, hb⟩; refine ⟨_, rfl, ?_⟩; have n0_ := Aside0.mk (Kd.R_elder' (by (with_reducible repeat (first | apply Kd.R_alloc | apply Kd.R_drewN | apply Kd.R_drew)); exact HO_6.out) (Kd.R_base ho0) hb); have n1_ := Aside0.mk (Kd.R_elder' (by (with_reducible repeat (first | apply Kd.R_alloc | apply Kd.R_drewN | apply Kd.R_drew)); exact HO_8.out) (Kd.R_base ho0) hb); have n2_ := Aside0.mk (Kd.R_lower (Kd.R_new' (Kd.R_new' ho0 (Kd.R_lt (by (with_reducible repeat (first | apply Kd.R_alloc | apply Kd.R_drewN | apply Kd.R_drew)); exact HO_6.out))) (Kd.R_lt (by (with_reducible repeat (first | apply Kd.R_alloc | apply Kd.R_drewN | apply Kd.R_drew)); exact HO_8.out))) (below_size (by repeat (first | (with_reducible first | exact HB.out | apply below_alloc | apply pw_below_drewN | apply below_drew1 | refine below_set ?_ GE104.out) | exact HB.out)))); have n3_ := Aside0.mk (blk_below (g := gb104) (o := .cells #[.int .i64 a1_0, .int .i64 a1_1, .int .i64 a1_2, .int .i64 a1_3, .int .i64 a1_4, .slice A1_5 l1_5.length c1_5, .bool a1_6, .int .i64 a1_7, .slice A1_8 l1_8.length c1_8] 87 (0, 0)) (by (with_reducible repeat (first | refine blk_drewN ?_ _ | refine blk_drew ?_ | refine blk_alloc ?_ _)); exact BK104.out) hb); have n4_ := Aside0.mk (below_step (by repeat (first | (with_reducible first | exact HB.out | apply below_alloc | apply pw_below_drewN | apply below_drew1 | refine below_set ?_ GE104.out) | exact HB.out)) hb); clear HO_6; clear HO_8; clear BK104; clear HB; have HO_6 := n0_; have HO_8 := n1_; have HO112 := n2_; have BK104 := n3_; have HB := n4_; clear n0_ n1_ n2_ n3_ n4_; (try clear hb); (try clear hb2); (try clear hk); (try clear hi); (try clear ho0); obtain ⟨Ao24, co24, eo24⟩ := Kd.R_slice HO112.out; subst eo24) | (go_at_call 127; (with_reducible refine (slices_ContainsFunc_int_int.calls1 _ _ t109 1 true _ ?side1 ?side2 A19.out).mono ?_); (case side1 => repeat (first | exact (Kd.R_reads' HO112.out).2.2 | (with_reducible refine Kd.C_alloc ?_ _) | (with_reducible refine Kd.C_drewN ?_ _) | (with_reducible refine Kd.C_drew ?_))); (case side2 => exact (Kd.R_reads' HO112.out).2.1); rintro e w25 ⟨rfl, hb⟩; have n0_ := Aside0.mk (Kd.R_below (by (with_reducible repeat (first | apply Kd.R_alloc | apply Kd.R_drewN | apply Kd.R_drew)); exact HO_6.out) hb); have n1_ := Aside0.mk (Kd.R_below (by (with_reducible repeat (first | apply Kd.R_alloc | apply Kd.R_drewN | apply Kd.R_drew)); exact HO_8.out) hb); have n2_ := Aside0.mk (Kd.R_below (by (with_reducible repeat (first | apply Kd.R_alloc | apply Kd.R_drewN | apply Kd.R_drew)); exact HO112.out) hb); have n3_ := Aside0.mk (blk_below (g := gb104) (o := .cells #[.int .i64 a1_0, .int .i64 a1_1, .int .i64 a1_2, .int .i64 a1_3, .int .i64 a1_4, .slice A1_5 l1_5.length c1_5, .bool a1_6, .int .i64 a1_7, .slice A1_8 l1_8.length c1_8] 87 (0, 0)) (by (with_reducible repeat (first | refine blk_drewN ?_ _ | refine blk_drew ?_ | refine blk_alloc ?_ _)); exact BK104.out) hb); have n4_ := Aside0.mk (below_step (by repeat (first | (with_reducible first | exact HB.out | apply below_alloc | apply pw_below_drewN | apply below_drew1 | refine below_set ?_ GE104.out) | exact HB.out)) hb); clear HO_6; clear HO_8; clear HO112; clear BK104; clear HB; have HO_6 := n0_; have HO_8 := n1_; have HO112 := n2_; have BK104 := n3_; have HB := n4_; clear n0_ n1_ n2_ n3_ n4_; (try clear hb); (try clear hb2); (try clear hk); (try clear hi)))
              go_ret2
              exact ⟨_, by first | rfl | (simp [errW_none, errW_some] <;> rfl) | (simp [*, errW_none, errW_some] <;> rfl), by first | exact Kd.R_nil _ _ _ _ _ | exact Kd.N_nil _ _ _ _ _ | exact Kd.V_nil _ _ _ _ _ | exact Kd.Q_nil _ _ _ _ _ | exact Kd.S_nil _ _ _ _ _, by repeat (first | (with_reducible first | exact HB.out | apply below_alloc | apply pw_below_drewN | apply below_drew1 | refine below_set ?_ GE104.out) | exact HB.out)⟩
            · replace c20 := Bool.eq_false_iff.mpr c20
              subst c20
              have H1 : (some (t109, t110)) = some (r1, r2) := by rw [if_neg (show ¬ (false = true) by decide)] at H; exact H
              clear H
              have H := H1
              clear H1
              simp only [Option.some.injEq, Prod.mk.injEq] at H
              obtain ⟨rfl, rfl⟩ := H
              have hcz26_0 : wc.cell? ⟨gb104, 0, none⟩ = some (.int .i64 a1_0) := (blk_cell BK104.out 0).trans rfl
              have hcz26_1 : wc.cell? ⟨gb104, 1, none⟩ = some (.int .i64 a1_1) := (blk_cell BK104.out 1).trans rfl
              have hcz26_2 : wc.cell? ⟨gb104, 2, none⟩ = some (.int .i64 a1_2) := (blk_cell BK104.out 2).trans rfl
              have hcz26_3 : wc.cell? ⟨gb104, 3, none⟩ = some (.int .i64 a1_3) := (blk_cell BK104.out 3).trans rfl
              have hcz26_4 : wc.cell? ⟨gb104, 4, none⟩ = some (.int .i64 a1_4) := (blk_cell BK104.out 4).trans rfl
              have hcz26_5 : wc.cell? ⟨gb104, 5, none⟩ = some (.slice A1_5 l1_5.length c1_5) := (blk_cell BK104.out 5).trans rfl
              have hcz26_6 : wc.cell? ⟨gb104, 6, none⟩ = some (.bool a1_6) := (blk_cell BK104.out 6).trans rfl
              have hcz26_7 : wc.cell? ⟨gb104, 7, none⟩ = some (.int .i64 a1_7) := (blk_cell BK104.out 7).trans rfl
              have hcz26_8 : wc.cell? ⟨gb104, 8, none⟩ = some (.slice A1_8 l1_8.length c1_8) := (blk_cell BK104.out 8).trans rfl
              have hfz26_0 := blk_frozen BK104.out 0
              have hfz26_1 := blk_frozen BK104.out 1
              have hfz26_2 := blk_frozen BK104.out 2
              have hfz26_3 := blk_frozen BK104.out 3
              have hfz26_4 := blk_frozen BK104.out 4
              have hfz26_5 := blk_frozen BK104.out 5
              have hfz26_6 := blk_frozen BK104.out 6
              have hfz26_7 := blk_frozen BK104.out 7
              have hfz26_8 := blk_frozen BK104.out 8
              obtain ⟨Ao27, co27, eo27⟩ := Kd.R_slice HO_8.out
              subst eo27
              go_wp2_with (first | ((with_reducible refine gate_callee (f := 125) rfl ?_); refine goesL_ (some 24) rfl rfl Try.func125 (by kernel_rfl) rfl #[.slice Ao27 t105.length co27, .int .i64 a1_2] rfl (by (try simp only [List.map_toArray, List.map_cons, List.map_nil]); first | done | rfl | (simp only [List.length_drop, List.length_take]; rfl)) ?_; (with_reducible refine (fixed_Residual.calls _ _ t105 a1_2 t109 t110 _ ?side1 ?side2 A17.out).mono ?_); (case side1 => repeat (first | exact (Kd.R_reads' HO_8.out).2.2 | (with_reducible refine Kd.C_alloc ?_ _) | (with_reducible refine Kd.C_drewN ?_ _) | (with_reducible refine Kd.C_drew ?_))); (case side2 => exact (Kd.R_reads' HO_8.out).2.1); rintro e w28 ⟨v111, rfl, ho0, hb⟩; refine ⟨_, rfl, ?_⟩; have n0_ := Aside0.mk (Kd.R_elder' (by (with_reducible repeat (first | apply Kd.R_alloc | apply Kd.R_drewN | apply Kd.R_drew)); exact HO_6.out) (Kd.R_base ho0) hb); have n1_ := Aside0.mk (Kd.R_elder' (by (with_reducible repeat (first | apply Kd.R_alloc | apply Kd.R_drewN | apply Kd.R_drew)); exact HO_8.out) (Kd.R_base ho0) hb); have n2_ := Aside0.mk (Kd.R_lower (Kd.R_new' (Kd.R_new' ho0 (Kd.R_lt (by (with_reducible repeat (first | apply Kd.R_alloc | apply Kd.R_drewN | apply Kd.R_drew)); exact HO_6.out))) (Kd.R_lt (by (with_reducible repeat (first | apply Kd.R_alloc | apply Kd.R_drewN | apply Kd.R_drew)); exact HO_8.out))) (below_size (by repeat (first | (with_reducible first | exact HB.out | apply below_alloc | apply pw_below_drewN | apply below_drew1 | refine below_set ?_ GE104.out) | exact HB.out)))); have n3_ := Aside0.mk (blk_below (g := gb104) (o := .cells #[.int .i64 a1_0, .int .i64 a1_1, .int .i64 a1_2, .int .i64 a1_3, .int .i64 a1_4, .slice A1_5 l1_5.length c1_5, .bool a1_6, .int .i64 a1_7, .slice A1_8 l1_8.length c1_8] 87 (0, 0)) (by (with_reducible repeat (first | refine blk_drewN ?_ _ | refine blk_drew ?_ | refine blk_alloc ?_ _)); exact BK104.out) hb); have n4_ := Aside0.mk (below_step (by repeat (first | (with_reducible first | exact HB.out | apply below_alloc | apply pw_below_drewN | apply below_drew1 | refine below_set ?_ GE104.out) | exact HB.out)) hb); clear HO_6; clear HO_8; clear BK104; clear HB; have HO_6 := n0_; have HO_8 := n1_; have HO112 := n2_; have BK104 := n3_; have HB := n4_; clear n0_ n1_ n2_ n3_ n4_; (try clear hb); (try clear hb2); (try clear hk); (try clear hi); (try clear ho0); obtain ⟨Ao29, co29, eo29⟩ := Kd.R_slice HO112.out; subst eo29) | (go_at_call 127; (with_reducible refine (slices_ContainsFunc_int_int.calls1 _ _ t109 1 false _ ?side1 ?side2 A19.out).mono ?_); (case side1 => repeat (first | exact (Kd.R_reads' HO112.out).2.2 | (with_reducible refine Kd.C_alloc ?_ _) | (with_reducible refine Kd.C_drewN ?_ _) | (with_reducible refine Kd.C_drew ?_))); (case side2 => exact (Kd.R_reads' HO112.out).2.1); rintro e w30 ⟨rfl, hb⟩; have n0_ := Aside0.mk (Kd.R_below (by (with_reducible repeat (first | apply Kd.R_alloc | apply Kd.R_drewN | apply Kd.R_drew)); exact HO_6.out) hb); have n1_ := Aside0.mk (Kd.R_below (by (with_reducible repeat (first | apply Kd.R_alloc | apply Kd.R_drewN | apply Kd.R_drew)); exact HO_8.out) hb); have n2_ := Aside0.mk (Kd.R_below (by (with_reducible repeat (first | apply Kd.R_alloc | apply Kd.R_drewN | apply Kd.R_drew)); exact HO112.out) hb); have n3_ := Aside0.mk (blk_below (g := gb104) (o := .cells #[.int .i64 a1_0, .int .i64 a1_1, .int .i64 a1_2, .int .i64 a1_3, .int .i64 a1_4, .slice A1_5 l1_5.length c1_5, .bool a1_6, .int .i64 a1_7, .slice A1_8 l1_8.length c1_8] 87 (0, 0)) (by (with_reducible repeat (first | refine blk_drewN ?_ _ | refine blk_drew ?_ | refine blk_alloc ?_ _)); exact BK104.out) hb); have n4_ := Aside0.mk (below_step (by repeat (first | (with_reducible first | exact HB.out | apply below_alloc | apply pw_below_drewN | apply below_drew1 | refine below_set ?_ GE104.out) | exact HB.out)) hb); clear HO_6; clear HO_8; clear HO112; clear BK104; clear HB; have HO_6 := n0_; have HO_8 := n1_; have HO112 := n2_; have BK104 := n3_; have HB := n4_; clear n0_ n1_ n2_ n3_ n4_; (try clear hb); (try clear hb2); (try clear hk); (try clear hi)))
              go_ret2
              exact ⟨_, by first | rfl | (simp [errW_none, errW_some] <;> rfl) | (simp [*, errW_none, errW_some] <;> rfl), by (with_reducible repeat (first | apply Kd.R_alloc | apply Kd.R_drewN | apply Kd.R_drew)); exact Kd.R_mono HO112.out (fun _ hk => trivial), by repeat (first | (with_reducible first | exact HB.out | apply below_alloc | apply pw_below_drewN | apply below_drew1 | refine below_set ?_ GE104.out) | exact HB.out)⟩
          · rw [if_neg c18] at H
            have c18b0 : (t110 == 0) = false := beq_eq_false_iff_ne.mpr c18
            have c18b1 : (t110 != 0) = true := bne_iff_ne.mpr c18
            simp only [Option.some.injEq, Prod.mk.injEq] at H
            obtain ⟨rfl, rfl⟩ := H
            have hcz31_0 : wc.cell? ⟨gb104, 0, none⟩ = some (.int .i64 a1_0) := (blk_cell BK104.out 0).trans rfl
            have hcz31_1 : wc.cell? ⟨gb104, 1, none⟩ = some (.int .i64 a1_1) := (blk_cell BK104.out 1).trans rfl
            have hcz31_2 : wc.cell? ⟨gb104, 2, none⟩ = some (.int .i64 a1_2) := (blk_cell BK104.out 2).trans rfl
            have hcz31_3 : wc.cell? ⟨gb104, 3, none⟩ = some (.int .i64 a1_3) := (blk_cell BK104.out 3).trans rfl
            have hcz31_4 : wc.cell? ⟨gb104, 4, none⟩ = some (.int .i64 a1_4) := (blk_cell BK104.out 4).trans rfl
            have hcz31_5 : wc.cell? ⟨gb104, 5, none⟩ = some (.slice A1_5 l1_5.length c1_5) := (blk_cell BK104.out 5).trans rfl
            have hcz31_6 : wc.cell? ⟨gb104, 6, none⟩ = some (.bool a1_6) := (blk_cell BK104.out 6).trans rfl
            have hcz31_7 : wc.cell? ⟨gb104, 7, none⟩ = some (.int .i64 a1_7) := (blk_cell BK104.out 7).trans rfl
            have hcz31_8 : wc.cell? ⟨gb104, 8, none⟩ = some (.slice A1_8 l1_8.length c1_8) := (blk_cell BK104.out 8).trans rfl
            have hfz31_0 := blk_frozen BK104.out 0
            have hfz31_1 := blk_frozen BK104.out 1
            have hfz31_2 := blk_frozen BK104.out 2
            have hfz31_3 := blk_frozen BK104.out 3
            have hfz31_4 := blk_frozen BK104.out 4
            have hfz31_5 := blk_frozen BK104.out 5
            have hfz31_6 := blk_frozen BK104.out 6
            have hfz31_7 := blk_frozen BK104.out 7
            have hfz31_8 := blk_frozen BK104.out 8
            obtain ⟨Ao32, co32, eo32⟩ := Kd.R_slice HO_8.out
            subst eo32
            go_wp2_with (first | ((with_reducible refine gate_callee (f := 125) rfl ?_); refine goesL_ (some 24) rfl rfl Try.func125 (by kernel_rfl) rfl #[.slice Ao32 t105.length co32, .int .i64 a1_2] rfl (by (try simp only [List.map_toArray, List.map_cons, List.map_nil]); first | done | rfl | (simp only [List.length_drop, List.length_take]; rfl)) ?_; (with_reducible refine (fixed_Residual.calls _ _ t105 a1_2 t109 t110 _ ?side1 ?side2 A17.out).mono ?_); (case side1 => repeat (first | exact (Kd.R_reads' HO_8.out).2.2 | (with_reducible refine Kd.C_alloc ?_ _) | (with_reducible refine Kd.C_drewN ?_ _) | (with_reducible refine Kd.C_drew ?_))); (case side2 => exact (Kd.R_reads' HO_8.out).2.1); rintro e w33 ⟨v111, rfl, ho0, hb⟩; refine ⟨_, rfl, ?_⟩; have n0_ := Aside0.mk (Kd.R_elder' (by (with_reducible repeat (first | apply Kd.R_alloc | apply Kd.R_drewN | apply Kd.R_drew)); exact HO_6.out) (Kd.R_base ho0) hb); have n1_ := Aside0.mk (Kd.R_elder' (by (with_reducible repeat (first | apply Kd.R_alloc | apply Kd.R_drewN | apply Kd.R_drew)); exact HO_8.out) (Kd.R_base ho0) hb); have n2_ := Aside0.mk (Kd.R_lower (Kd.R_new' (Kd.R_new' ho0 (Kd.R_lt (by (with_reducible repeat (first | apply Kd.R_alloc | apply Kd.R_drewN | apply Kd.R_drew)); exact HO_6.out))) (Kd.R_lt (by (with_reducible repeat (first | apply Kd.R_alloc | apply Kd.R_drewN | apply Kd.R_drew)); exact HO_8.out))) (below_size (by repeat (first | (with_reducible first | exact HB.out | apply below_alloc | apply pw_below_drewN | apply below_drew1 | refine below_set ?_ GE104.out) | exact HB.out)))); have n3_ := Aside0.mk (blk_below (g := gb104) (o := .cells #[.int .i64 a1_0, .int .i64 a1_1, .int .i64 a1_2, .int .i64 a1_3, .int .i64 a1_4, .slice A1_5 l1_5.length c1_5, .bool a1_6, .int .i64 a1_7, .slice A1_8 l1_8.length c1_8] 87 (0, 0)) (by (with_reducible repeat (first | refine blk_drewN ?_ _ | refine blk_drew ?_ | refine blk_alloc ?_ _)); exact BK104.out) hb); have n4_ := Aside0.mk (below_step (by repeat (first | (with_reducible first | exact HB.out | apply below_alloc | apply pw_below_drewN | apply below_drew1 | refine below_set ?_ GE104.out) | exact HB.out)) hb); clear HO_6; clear HO_8; clear BK104; clear HB; have HO_6 := n0_; have HO_8 := n1_; have HO112 := n2_; have BK104 := n3_; have HB := n4_; clear n0_ n1_ n2_ n3_ n4_; (try clear hb); (try clear hb2); (try clear hk); (try clear hi); (try clear ho0)))
            go_ret2
            exact ⟨_, by first | rfl | (simp [errW_none, errW_some] <;> rfl) | (simp [*, errW_none, errW_some] <;> rfl), by (with_reducible repeat (first | apply Kd.R_alloc | apply Kd.R_drewN | apply Kd.R_drew)); exact Kd.R_mono HO112.out (fun _ hk => trivial), by repeat (first | (with_reducible first | exact HB.out | apply below_alloc | apply pw_below_drewN | apply below_drew1 | refine below_set ?_ GE104.out) | exact HB.out)⟩
        · rw [if_neg c16] at H
          have c16b0 : (a1_0 == 2) = false := beq_eq_false_iff_ne.mpr c16
          have c16b1 : (a1_0 != 2) = true := bne_iff_ne.mpr c16
          by_cases c34 : a1_0 = 3
          · rw [if_pos c34] at H
            have c34b0 : (a1_0 == 3) = true := beq_iff_eq.mpr c34
            have c34b1 : (a1_0 != 3) = false := bne_eq_false_iff_eq.mpr c34
            clear c34
            replace H := Option.bind_eq_some_iff.mp H
            obtain ⟨⟨t114, t117⟩, A350, H⟩ := H
            replace H : (if t117 = 0 then ((slices_ContainsFunc_int_int.f t114 1).bind fun t118 => (if t118 = true then (some (([] : List Int), 14)) else (some (t114, t117)))) else (some (t114, t117))) = some (r1, r2) := H
            have A35 := Aside0.mk A350
            clear A350
            by_cases c36 : t117 = 0
            · rw [if_pos c36] at H
              have c36b0 : (t117 == 0) = true := beq_iff_eq.mpr c36
              have c36b1 : (t117 != 0) = false := bne_eq_false_iff_eq.mpr c36
              clear c36
              replace H := Option.bind_eq_some_iff.mp H
              obtain ⟨t118, A370, H⟩ := H
              replace H : (if t118 = true then (some (([] : List Int), 14)) else (some (t114, t117))) = some (r1, r2) := H
              have A37 := Aside0.mk A370
              clear A370
              by_cases c38 : t118 = true
              · subst c38
                have H1 : (some (([] : List Int), 14)) = some (r1, r2) := by rw [if_pos rfl] at H; exact H
                clear H
                have H := H1
                clear H1
                simp only [Option.some.injEq, Prod.mk.injEq] at H
                obtain ⟨rfl, rfl⟩ := H
                have hcz39_0 : wc.cell? ⟨gb104, 0, none⟩ = some (.int .i64 a1_0) := (blk_cell BK104.out 0).trans rfl
                have hcz39_1 : wc.cell? ⟨gb104, 1, none⟩ = some (.int .i64 a1_1) := (blk_cell BK104.out 1).trans rfl
                have hcz39_2 : wc.cell? ⟨gb104, 2, none⟩ = some (.int .i64 a1_2) := (blk_cell BK104.out 2).trans rfl
                have hcz39_3 : wc.cell? ⟨gb104, 3, none⟩ = some (.int .i64 a1_3) := (blk_cell BK104.out 3).trans rfl
                have hcz39_4 : wc.cell? ⟨gb104, 4, none⟩ = some (.int .i64 a1_4) := (blk_cell BK104.out 4).trans rfl
                have hcz39_5 : wc.cell? ⟨gb104, 5, none⟩ = some (.slice A1_5 l1_5.length c1_5) := (blk_cell BK104.out 5).trans rfl
                have hcz39_6 : wc.cell? ⟨gb104, 6, none⟩ = some (.bool a1_6) := (blk_cell BK104.out 6).trans rfl
                have hcz39_7 : wc.cell? ⟨gb104, 7, none⟩ = some (.int .i64 a1_7) := (blk_cell BK104.out 7).trans rfl
                have hcz39_8 : wc.cell? ⟨gb104, 8, none⟩ = some (.slice A1_8 l1_8.length c1_8) := (blk_cell BK104.out 8).trans rfl
                have hfz39_0 := blk_frozen BK104.out 0
                have hfz39_1 := blk_frozen BK104.out 1
                have hfz39_2 := blk_frozen BK104.out 2
                have hfz39_3 := blk_frozen BK104.out 3
                have hfz39_4 := blk_frozen BK104.out 4
                have hfz39_5 := blk_frozen BK104.out 5
                have hfz39_6 := blk_frozen BK104.out 6
                have hfz39_7 := blk_frozen BK104.out 7
                have hfz39_8 := blk_frozen BK104.out 8
                obtain ⟨Ao40, co40, eo40⟩ := Kd.R_slice HO_8.out
                subst eo40
                go_wp2_with (first | ((with_reducible refine gate_callee (f := 126) rfl ?_); refine goesL_ (some 33) rfl rfl Try.func126 (by kernel_rfl) rfl #[.slice Ao40 t105.length co40, .agg #[.int .i64 a1_3, .int .i64 a1_4, .slice A1_5 l1_5.length c1_5]] rfl (by (try simp only [List.map_toArray, List.map_cons, List.map_nil]); first | done | rfl | (simp only [List.length_drop, List.length_take]; rfl)) ?_; (with_reducible refine (lpc_Residual.calls _ _ t105 a1_3 a1_4 _ _ l1_5 t114 t117 _ ?side1 ?side2 ?side3 ?side4 A35.out).mono ?_); (case side1 => repeat (first | exact (Kd.R_reads' HO_8.out).2.2 | (with_reducible refine Kd.C_alloc ?_ _) | (with_reducible refine Kd.C_drewN ?_ _) | (with_reducible refine Kd.C_drew ?_))); (case side2 => exact (Kd.R_reads' HO_8.out).2.1); (case side3 => repeat (first | exact (Kd.C_below HR1_5.out HB.out) | (with_reducible refine Kd.C_alloc ?_ _) | (with_reducible refine Kd.C_drewN ?_ _) | (with_reducible refine Kd.C_drew ?_))); (case side4 => exact HC1_5.out); rintro e w41 ⟨v115, rfl, ho0, hb⟩; refine ⟨_, rfl, ?_⟩; have n0_ := Aside0.mk (Kd.R_elder' (by (with_reducible repeat (first | apply Kd.R_alloc | apply Kd.R_drewN | apply Kd.R_drew)); exact HO_6.out) (Kd.R_base ho0) hb); have n1_ := Aside0.mk (Kd.R_elder' (by (with_reducible repeat (first | apply Kd.R_alloc | apply Kd.R_drewN | apply Kd.R_drew)); exact HO_8.out) (Kd.R_base ho0) hb); have n2_ := Aside0.mk (Kd.R_lower (Kd.R_new' (Kd.R_new' ho0 (Kd.R_lt (by (with_reducible repeat (first | apply Kd.R_alloc | apply Kd.R_drewN | apply Kd.R_drew)); exact HO_6.out))) (Kd.R_lt (by (with_reducible repeat (first | apply Kd.R_alloc | apply Kd.R_drewN | apply Kd.R_drew)); exact HO_8.out))) (below_size (by repeat (first | (with_reducible first | exact HB.out | apply below_alloc | apply pw_below_drewN | apply below_drew1 | refine below_set ?_ GE104.out) | exact HB.out)))); have n3_ := Aside0.mk (blk_below (g := gb104) (o := .cells #[.int .i64 a1_0, .int .i64 a1_1, .int .i64 a1_2, .int .i64 a1_3, .int .i64 a1_4, .slice A1_5 l1_5.length c1_5, .bool a1_6, .int .i64 a1_7, .slice A1_8 l1_8.length c1_8] 87 (0, 0)) (by (with_reducible repeat (first | refine blk_drewN ?_ _ | refine blk_drew ?_ | refine blk_alloc ?_ _)); exact BK104.out) hb); have n4_ := Aside0.mk (below_step (by repeat (first | (with_reducible first | exact HB.out | apply below_alloc | apply pw_below_drewN | apply below_drew1 | refine below_set ?_ GE104.out) | exact HB.out)) hb); clear HO_6; clear HO_8; clear BK104; clear HB; have HO_6 := n0_; have HO_8 := n1_; have HO116 := n2_; have BK104 := n3_; have HB := n4_; clear n0_ n1_ n2_ n3_ n4_; (try clear hb); (try clear hb2); (try clear hk); (try clear hi); (try clear ho0); obtain ⟨Ao42, co42, eo42⟩ := Kd.R_slice HO116.out; subst eo42) | (go_at_call 127; (with_reducible refine (slices_ContainsFunc_int_int.calls1 _ _ t114 1 true _ ?side1 ?side2 A37.out).mono ?_); (case side1 => repeat (first | exact (Kd.R_reads' HO116.out).2.2 | (with_reducible refine Kd.C_alloc ?_ _) | (with_reducible refine Kd.C_drewN ?_ _) | (with_reducible refine Kd.C_drew ?_))); (case side2 => exact (Kd.R_reads' HO116.out).2.1); rintro e w43 ⟨rfl, hb⟩; have n0_ := Aside0.mk (Kd.R_below (by (with_reducible repeat (first | apply Kd.R_alloc | apply Kd.R_drewN | apply Kd.R_drew)); exact HO_6.out) hb); have n1_ := Aside0.mk (Kd.R_below (by (with_reducible repeat (first | apply Kd.R_alloc | apply Kd.R_drewN | apply Kd.R_drew)); exact HO_8.out) hb); have n2_ := Aside0.mk (Kd.R_below (by (with_reducible repeat (first | apply Kd.R_alloc | apply Kd.R_drewN | apply Kd.R_drew)); exact HO116.out) hb); have n3_ := Aside0.mk (blk_below (g := gb104) (o := .cells #[.int .i64 a1_0, .int .i64 a1_1, .int .i64 a1_2, .int .i64 a1_3, .int .i64 a1_4, .slice A1_5 l1_5.length c1_5, .bool a1_6, .int .i64 a1_7, .slice A1_8 l1_8.length c1_8] 87 (0, 0)) (by (with_reducible repeat (first | refine blk_drewN ?_ _ | refine blk_drew ?_ | refine blk_alloc ?_ _)); exact BK104.out) hb); have n4_ := Aside0.mk (below_step (by repeat (first | (with_reducible first | exact HB.out | apply below_alloc | apply pw_below_drewN | apply below_drew1 | refine below_set ?_ GE104.out) | exact HB.out)) hb); clear HO_6; clear HO_8; clear HO116; clear BK104; clear HB; have HO_6 := n0_; have HO_8 := n1_; have HO116 := n2_; have BK104 := n3_; have HB := n4_; clear n0_ n1_ n2_ n3_ n4_; (try clear hb); (try clear hb2); (try clear hk); (try clear hi)))
                go_ret2
                exact ⟨_, by first | rfl | (simp [errW_none, errW_some] <;> rfl) | (simp [*, errW_none, errW_some] <;> rfl), by first | exact Kd.R_nil _ _ _ _ _ | exact Kd.N_nil _ _ _ _ _ | exact Kd.V_nil _ _ _ _ _ | exact Kd.Q_nil _ _ _ _ _ | exact Kd.S_nil _ _ _ _ _, by repeat (first | (with_reducible first | exact HB.out | apply below_alloc | apply pw_below_drewN | apply below_drew1 | refine below_set ?_ GE104.out) | exact HB.out)⟩
              · replace c38 := Bool.eq_false_iff.mpr c38
                subst c38
                have H1 : (some (t114, t117)) = some (r1, r2) := by rw [if_neg (show ¬ (false = true) by decide)] at H; exact H
                clear H
                have H := H1
                clear H1
                simp only [Option.some.injEq, Prod.mk.injEq] at H
                obtain ⟨rfl, rfl⟩ := H
                have hcz44_0 : wc.cell? ⟨gb104, 0, none⟩ = some (.int .i64 a1_0) := (blk_cell BK104.out 0).trans rfl
                have hcz44_1 : wc.cell? ⟨gb104, 1, none⟩ = some (.int .i64 a1_1) := (blk_cell BK104.out 1).trans rfl
                have hcz44_2 : wc.cell? ⟨gb104, 2, none⟩ = some (.int .i64 a1_2) := (blk_cell BK104.out 2).trans rfl
                have hcz44_3 : wc.cell? ⟨gb104, 3, none⟩ = some (.int .i64 a1_3) := (blk_cell BK104.out 3).trans rfl
                have hcz44_4 : wc.cell? ⟨gb104, 4, none⟩ = some (.int .i64 a1_4) := (blk_cell BK104.out 4).trans rfl
                have hcz44_5 : wc.cell? ⟨gb104, 5, none⟩ = some (.slice A1_5 l1_5.length c1_5) := (blk_cell BK104.out 5).trans rfl
                have hcz44_6 : wc.cell? ⟨gb104, 6, none⟩ = some (.bool a1_6) := (blk_cell BK104.out 6).trans rfl
                have hcz44_7 : wc.cell? ⟨gb104, 7, none⟩ = some (.int .i64 a1_7) := (blk_cell BK104.out 7).trans rfl
                have hcz44_8 : wc.cell? ⟨gb104, 8, none⟩ = some (.slice A1_8 l1_8.length c1_8) := (blk_cell BK104.out 8).trans rfl
                have hfz44_0 := blk_frozen BK104.out 0
                have hfz44_1 := blk_frozen BK104.out 1
                have hfz44_2 := blk_frozen BK104.out 2
                have hfz44_3 := blk_frozen BK104.out 3
                have hfz44_4 := blk_frozen BK104.out 4
                have hfz44_5 := blk_frozen BK104.out 5
                have hfz44_6 := blk_frozen BK104.out 6
                have hfz44_7 := blk_frozen BK104.out 7
                have hfz44_8 := blk_frozen BK104.out 8
                obtain ⟨Ao45, co45, eo45⟩ := Kd.R_slice HO_8.out
                subst eo45
                go_wp2_with (first | ((with_reducible refine gate_callee (f := 126) rfl ?_); refine goesL_ (some 33) rfl rfl Try.func126 (by kernel_rfl) rfl #[.slice Ao45 t105.length co45, .agg #[.int .i64 a1_3, .int .i64 a1_4, .slice A1_5 l1_5.length c1_5]] rfl (by (try simp only [List.map_toArray, List.map_cons, List.map_nil]); first | done | rfl | (simp only [List.length_drop, List.length_take]; rfl)) ?_; (with_reducible refine (lpc_Residual.calls _ _ t105 a1_3 a1_4 _ _ l1_5 t114 t117 _ ?side1 ?side2 ?side3 ?side4 A35.out).mono ?_); (case side1 => repeat (first | exact (Kd.R_reads' HO_8.out).2.2 | (with_reducible refine Kd.C_alloc ?_ _) | (with_reducible refine Kd.C_drewN ?_ _) | (with_reducible refine Kd.C_drew ?_))); (case side2 => exact (Kd.R_reads' HO_8.out).2.1); (case side3 => repeat (first | exact (Kd.C_below HR1_5.out HB.out) | (with_reducible refine Kd.C_alloc ?_ _) | (with_reducible refine Kd.C_drewN ?_ _) | (with_reducible refine Kd.C_drew ?_))); (case side4 => exact HC1_5.out); rintro e w46 ⟨v115, rfl, ho0, hb⟩; refine ⟨_, rfl, ?_⟩; have n0_ := Aside0.mk (Kd.R_elder' (by (with_reducible repeat (first | apply Kd.R_alloc | apply Kd.R_drewN | apply Kd.R_drew)); exact HO_6.out) (Kd.R_base ho0) hb); have n1_ := Aside0.mk (Kd.R_elder' (by (with_reducible repeat (first | apply Kd.R_alloc | apply Kd.R_drewN | apply Kd.R_drew)); exact HO_8.out) (Kd.R_base ho0) hb); have n2_ := Aside0.mk (Kd.R_lower (Kd.R_new' (Kd.R_new' ho0 (Kd.R_lt (by (with_reducible repeat (first | apply Kd.R_alloc | apply Kd.R_drewN | apply Kd.R_drew)); exact HO_6.out))) (Kd.R_lt (by (with_reducible repeat (first | apply Kd.R_alloc | apply Kd.R_drewN | apply Kd.R_drew)); exact HO_8.out))) (below_size (by repeat (first | (with_reducible first | exact HB.out | apply below_alloc | apply pw_below_drewN | apply below_drew1 | refine below_set ?_ GE104.out) | exact HB.out)))); have n3_ := Aside0.mk (blk_below (g := gb104) (o := .cells #[.int .i64 a1_0, .int .i64 a1_1, .int .i64 a1_2, .int .i64 a1_3, .int .i64 a1_4, .slice A1_5 l1_5.length c1_5, .bool a1_6, .int .i64 a1_7, .slice A1_8 l1_8.length c1_8] 87 (0, 0)) (by (with_reducible repeat (first | refine blk_drewN ?_ _ | refine blk_drew ?_ | refine blk_alloc ?_ _)); exact BK104.out) hb); have n4_ := Aside0.mk (below_step (by repeat (first | (with_reducible first | exact HB.out | apply below_alloc | apply pw_below_drewN | apply below_drew1 | refine below_set ?_ GE104.out) | exact HB.out)) hb); clear HO_6; clear HO_8; clear BK104; clear HB; have HO_6 := n0_; have HO_8 := n1_; have HO116 := n2_; have BK104 := n3_; have HB := n4_; clear n0_ n1_ n2_ n3_ n4_; (try clear hb); (try clear hb2); (try clear hk); (try clear hi); (try clear ho0); obtain ⟨Ao47, co47, eo47⟩ := Kd.R_slice HO116.out; subst eo47) | (go_at_call 127; (with_reducible refine (slices_ContainsFunc_int_int.calls1 _ _ t114 1 false _ ?side1 ?side2 A37.out).mono ?_); (case side1 => repeat (first | exact (Kd.R_reads' HO116.out).2.2 | (with_reducible refine Kd.C_alloc ?_ _) | (with_reducible refine Kd.C_drewN ?_ _) | (with_reducible refine Kd.C_drew ?_))); (case side2 => exact (Kd.R_reads' HO116.out).2.1); rintro e w48 ⟨rfl, hb⟩; have n0_ := Aside0.mk (Kd.R_below (by (with_reducible repeat (first | apply Kd.R_alloc | apply Kd.R_drewN | apply Kd.R_drew)); exact HO_6.out) hb); have n1_ := Aside0.mk (Kd.R_below (by (with_reducible repeat (first | apply Kd.R_alloc | apply Kd.R_drewN | apply Kd.R_drew)); exact HO_8.out) hb); have n2_ := Aside0.mk (Kd.R_below (by (with_reducible repeat (first | apply Kd.R_alloc | apply Kd.R_drewN | apply Kd.R_drew)); exact HO116.out) hb); have n3_ := Aside0.mk (blk_below (g := gb104) (o := .cells #[.int .i64 a1_0, .int .i64 a1_1, .int .i64 a1_2, .int .i64 a1_3, .int .i64 a1_4, .slice A1_5 l1_5.length c1_5, .bool a1_6, .int .i64 a1_7, .slice A1_8 l1_8.length c1_8] 87 (0, 0)) (by (with_reducible repeat (first | refine blk_drewN ?_ _ | refine blk_drew ?_ | refine blk_alloc ?_ _)); exact BK104.out) hb); have n4_ := Aside0.mk (below_step (by repeat (first | (with_reducible first | exact HB.out | apply below_alloc | apply pw_below_drewN | apply below_drew1 | refine below_set ?_ GE104.out) | exact HB.out)) hb); clear HO_6; clear HO_8; clear HO116; clear BK104; clear HB; have HO_6 := n0_; have HO_8 := n1_; have HO116 := n2_; have BK104 := n3_; have HB := n4_; clear n0_ n1_ n2_ n3_ n4_; (try clear hb); (try clear hb2); (try clear hk); (try clear hi)))
                go_ret2
                exact ⟨_, by first | rfl | (simp [errW_none, errW_some] <;> rfl) | (simp [*, errW_none, errW_some] <;> rfl), by (with_reducible repeat (first | apply Kd.R_alloc | apply Kd.R_drewN | apply Kd.R_drew)); exact Kd.R_mono HO116.out (fun _ hk => trivial), by repeat (first | (with_reducible first | exact HB.out | apply below_alloc | apply pw_below_drewN | apply below_drew1 | refine below_set ?_ GE104.out) | exact HB.out)⟩
            · rw [if_neg c36] at H
              have c36b0 : (t117 == 0) = false := beq_eq_false_iff_ne.mpr c36
              have c36b1 : (t117 != 0) = true := bne_iff_ne.mpr c36
              simp only [Option.some.injEq, Prod.mk.injEq] at H
              obtain ⟨rfl, rfl⟩ := H
              have hcz49_0 : wc.cell? ⟨gb104, 0, none⟩ = some (.int .i64 a1_0) := (blk_cell BK104.out 0).trans rfl
              have hcz49_1 : wc.cell? ⟨gb104, 1, none⟩ = some (.int .i64 a1_1) := (blk_cell BK104.out 1).trans rfl
              have hcz49_2 : wc.cell? ⟨gb104, 2, none⟩ = some (.int .i64 a1_2) := (blk_cell BK104.out 2).trans rfl
              have hcz49_3 : wc.cell? ⟨gb104, 3, none⟩ = some (.int .i64 a1_3) := (blk_cell BK104.out 3).trans rfl
              have hcz49_4 : wc.cell? ⟨gb104, 4, none⟩ = some (.int .i64 a1_4) := (blk_cell BK104.out 4).trans rfl
              have hcz49_5 : wc.cell? ⟨gb104, 5, none⟩ = some (.slice A1_5 l1_5.length c1_5) := (blk_cell BK104.out 5).trans rfl
              have hcz49_6 : wc.cell? ⟨gb104, 6, none⟩ = some (.bool a1_6) := (blk_cell BK104.out 6).trans rfl
              have hcz49_7 : wc.cell? ⟨gb104, 7, none⟩ = some (.int .i64 a1_7) := (blk_cell BK104.out 7).trans rfl
              have hcz49_8 : wc.cell? ⟨gb104, 8, none⟩ = some (.slice A1_8 l1_8.length c1_8) := (blk_cell BK104.out 8).trans rfl
              have hfz49_0 := blk_frozen BK104.out 0
              have hfz49_1 := blk_frozen BK104.out 1
              have hfz49_2 := blk_frozen BK104.out 2
              have hfz49_3 := blk_frozen BK104.out 3
              have hfz49_4 := blk_frozen BK104.out 4
              have hfz49_5 := blk_frozen BK104.out 5
              have hfz49_6 := blk_frozen BK104.out 6
              have hfz49_7 := blk_frozen BK104.out 7
              have hfz49_8 := blk_frozen BK104.out 8
              obtain ⟨Ao50, co50, eo50⟩ := Kd.R_slice HO_8.out
              subst eo50
              go_wp2_with (first | ((with_reducible refine gate_callee (f := 126) rfl ?_); refine goesL_ (some 33) rfl rfl Try.func126 (by kernel_rfl) rfl #[.slice Ao50 t105.length co50, .agg #[.int .i64 a1_3, .int .i64 a1_4, .slice A1_5 l1_5.length c1_5]] rfl (by (try simp only [List.map_toArray, List.map_cons, List.map_nil]); first | done | rfl | (simp only [List.length_drop, List.length_take]; rfl)) ?_; (with_reducible refine (lpc_Residual.calls _ _ t105 a1_3 a1_4 _ _ l1_5 t114 t117 _ ?side1 ?side2 ?side3 ?side4 A35.out).mono ?_); (case side1 => repeat (first | exact (Kd.R_reads' HO_8.out).2.2 | (with_reducible refine Kd.C_alloc ?_ _) | (with_reducible refine Kd.C_drewN ?_ _) | (with_reducible refine Kd.C_drew ?_))); (case side2 => exact (Kd.R_reads' HO_8.out).2.1); (case side3 => repeat (first | exact (Kd.C_below HR1_5.out HB.out) | (with_reducible refine Kd.C_alloc ?_ _) | (with_reducible refine Kd.C_drewN ?_ _) | (with_reducible refine Kd.C_drew ?_))); (case side4 => exact HC1_5.out); rintro e w51 ⟨v115, rfl, ho0, hb⟩; refine ⟨_, rfl, ?_⟩; have n0_ := Aside0.mk (Kd.R_elder' (by (with_reducible repeat (first | apply Kd.R_alloc | apply Kd.R_drewN | apply Kd.R_drew)); exact HO_6.out) (Kd.R_base ho0) hb); have n1_ := Aside0.mk (Kd.R_elder' (by (with_reducible repeat (first | apply Kd.R_alloc | apply Kd.R_drewN | apply Kd.R_drew)); exact HO_8.out) (Kd.R_base ho0) hb); have n2_ := Aside0.mk (Kd.R_lower (Kd.R_new' (Kd.R_new' ho0 (Kd.R_lt (by (with_reducible repeat (first | apply Kd.R_alloc | apply Kd.R_drewN | apply Kd.R_drew)); exact HO_6.out))) (Kd.R_lt (by (with_reducible repeat (first | apply Kd.R_alloc | apply Kd.R_drewN | apply Kd.R_drew)); exact HO_8.out))) (below_size (by repeat (first | (with_reducible first | exact HB.out | apply below_alloc | apply pw_below_drewN | apply below_drew1 | refine below_set ?_ GE104.out) | exact HB.out)))); have n3_ := Aside0.mk (blk_below (g := gb104) (o := .cells #[.int .i64 a1_0, .int .i64 a1_1, .int .i64 a1_2, .int .i64 a1_3, .int .i64 a1_4, .slice A1_5 l1_5.length c1_5, .bool a1_6, .int .i64 a1_7, .slice A1_8 l1_8.length c1_8] 87 (0, 0)) (by (with_reducible repeat (first | refine blk_drewN ?_ _ | refine blk_drew ?_ | refine blk_alloc ?_ _)); exact BK104.out) hb); have n4_ := Aside0.mk (below_step (by repeat (first | (with_reducible first | exact HB.out | apply below_alloc | apply pw_below_drewN | apply below_drew1 | refine below_set ?_ GE104.out) | exact HB.out)) hb); clear HO_6; clear HO_8; clear BK104; clear HB; have HO_6 := n0_; have HO_8 := n1_; have HO116 := n2_; have BK104 := n3_; have HB := n4_; clear n0_ n1_ n2_ n3_ n4_; (try clear hb); (try clear hb2); (try clear hk); (try clear hi); (try clear ho0)))
              go_ret2
              exact ⟨_, by first | rfl | (simp [errW_none, errW_some] <;> rfl) | (simp [*, errW_none, errW_some] <;> rfl), by (with_reducible repeat (first | apply Kd.R_alloc | apply Kd.R_drewN | apply Kd.R_drew)); exact Kd.R_mono HO116.out (fun _ hk => trivial), by repeat (first | (with_reducible first | exact HB.out | apply below_alloc | apply pw_below_drewN | apply below_drew1 | refine below_set ?_ GE104.out) | exact HB.out)⟩
          · rw [if_neg c34] at H
            have c34b0 : (a1_0 == 3) = false := beq_eq_false_iff_ne.mpr c34
            have c34b1 : (a1_0 != 3) = true := bne_iff_ne.mpr c34
            by_cases c52 : 1 = 0
            · exact absurd c52 (by decide)
            · rw [if_neg c52] at H
              have c52b0 : (1 == 0) = false := beq_eq_false_iff_ne.mpr c52
              have c52b1 : (1 != 0) = true := bne_iff_ne.mpr c52
              simp only [Option.some.injEq, Prod.mk.injEq] at H
              obtain ⟨rfl, rfl⟩ := H
              go_wp2
              go_ret2
              exact ⟨_, by first | rfl | (simp [errW_none, errW_some] <;> rfl) | (simp [*, errW_none, errW_some] <;> rfl), by (with_reducible repeat (first | apply Kd.R_alloc | apply Kd.R_drewN | apply Kd.R_drew)); exact Kd.R_mono HO_6.out (fun _ hk => trivial), by repeat (first | (with_reducible first | exact HB.out | apply below_alloc | apply pw_below_drewN | apply below_drew1 | refine below_set ?_ GE104.out) | exact HB.out)⟩

/-! ### subframe_order: function 80 -/
def subframe_order.f (a0_0 : Int) (a0_1 : Int) (a0_2 : Int) (a0_3 : Int) (a0_4 : Int) (l0_5 : List Int) (a0_6 : Bool) (a0_7 : Int) (l0_8 : List (S172)) : Option (Int) := if a0_0 = 2 then (some a0_2) else (if a0_0 = 3 then (some (l0_5.length : Int)) else (some 0))
set_option maxHeartbeats 8000000 in
set_option maxRecDepth 100000 in
theorem subframe_order.calls (a0_0 : Int) (a0_1 : Int) (a0_2 : Int) (a0_3 : Int) (a0_4 : Int) (A0_5 : Option Addr) (c0_5 : Nat) (l0_5 : List Int) (a0_6 : Bool) (a0_7 : Int) (A0_8 : Option Addr) (c0_8 : Nat) (l0_8 : List (S172)) (r : Int) (w : World) (hr0_5 : Kd.C (Kd.int .i64) w A0_5 l0_5.length l0_5) (hc0_5 : l0_5.length ≤ c0_5) (hr0_8 : Kd.C k172 w A0_8 l0_8.length l0_8) (hc0_8 : l0_8.length ≤ c0_8) (h : subframe_order.f a0_0 a0_1 a0_2 a0_3 a0_4 l0_5 a0_6 a0_7 l0_8 = some r) :
    Calls Try.prog 80 #[.agg #[.int .i64 a0_0, .int .i64 a0_1, .int .i64 a0_2, .int .i64 a0_3, .int .i64 a0_4, .slice A0_5 l0_5.length c0_5, .bool a0_6, .int .i64 a0_7, .slice A0_8 l0_8.length c0_8]] w fun e w' => e = .returned (.int .i64 r) ∧ Below w.heap.size w w' := by
  have hu87 := Try.underlying87
  have HR0_5 := Aside0.mk hr0_5
  have HC0_5 := Aside0.mk hc0_5
  clear hr0_5 hc0_5
  have HR0_8 := Aside0.mk hr0_8
  have HC0_8 := Aside0.mk hc0_8
  clear hr0_8 hc0_8
  have HB := Aside0.mk (Below.refl w.heap.size w)
  have H : (if a0_0 = 2 then (some a0_2) else (if a0_0 = 3 then (some (l0_5.length : Int)) else (some 0))) = some r := h
  clear h
  by_cases c2 : a0_0 = 2
  · rw [if_pos c2] at H
    have c2b0 : (a0_0 == 2) = true := beq_iff_eq.mpr c2
    have c2b1 : (a0_0 != 2) = false := bne_eq_false_iff_eq.mpr c2
    clear c2
    obtain rfl := Option.some.inj H
    go_enter Try.func80, Try.ntmps80
    go_wp2_with (first | ((with_reducible refine gate_dst (N := 1) rfl ?_); refine box_event ?hg (N := 1) ?hd (cs := #[.int .i64 a0_0, .int .i64 a0_1, .int .i64 a0_2, .int .i64 a0_3, .int .i64 a0_4, .slice A0_5 l0_5.length c0_5, .bool a0_6, .int .i64 a0_7, .slice A0_8 l0_8.length c0_8]) (t := 87) ?hr ?_; (case hd => rfl); (case hg => rfl); (case hr => first | (go_simp; done) | (go_simp; rfl)); intro gb120 hg w3 hbox hb; have n0_ := Aside0.mk (below_step (by repeat (first | (with_reducible first | exact HB.out | apply below_alloc | apply pw_below_drewN | apply below_drew1) | exact HB.out)) hb); have n1_ := Aside0.mk (hbox); have n2_ := Aside0.mk ((by rw [hg]; exact (below_size (by repeat (first | (with_reducible first | exact HB.out | apply below_alloc | apply pw_below_drewN | apply below_drew1) | exact HB.out))) : w.heap.size ≤ gb120)); have n3_ := Aside0.mk ((by rw [hg]; exact (below_size (by repeat (first | (with_reducible first | exact HB.out | apply below_alloc | apply pw_below_drewN | apply below_drew1) | exact HB.out))) : w.heap.size ≤ gb120)); clear HB; have HB := n0_; have BK120 := n1_; have GW120 := n2_; have GE120 := n3_; clear n0_ n1_ n2_ n3_; clear hb hbox hg; have hcz4_0 : w3.cell? ⟨gb120, 0, none⟩ = some (.int .i64 a0_0) := (blk_cell BK120.out 0).trans rfl; have hcz4_1 : w3.cell? ⟨gb120, 1, none⟩ = some (.int .i64 a0_1) := (blk_cell BK120.out 1).trans rfl; have hcz4_2 : w3.cell? ⟨gb120, 2, none⟩ = some (.int .i64 a0_2) := (blk_cell BK120.out 2).trans rfl; have hcz4_3 : w3.cell? ⟨gb120, 3, none⟩ = some (.int .i64 a0_3) := (blk_cell BK120.out 3).trans rfl; have hcz4_4 : w3.cell? ⟨gb120, 4, none⟩ = some (.int .i64 a0_4) := (blk_cell BK120.out 4).trans rfl; have hcz4_5 : w3.cell? ⟨gb120, 5, none⟩ = some (.slice A0_5 l0_5.length c0_5) := (blk_cell BK120.out 5).trans rfl; have hcz4_6 : w3.cell? ⟨gb120, 6, none⟩ = some (.bool a0_6) := (blk_cell BK120.out 6).trans rfl; have hcz4_7 : w3.cell? ⟨gb120, 7, none⟩ = some (.int .i64 a0_7) := (blk_cell BK120.out 7).trans rfl; have hcz4_8 : w3.cell? ⟨gb120, 8, none⟩ = some (.slice A0_8 l0_8.length c0_8) := (blk_cell BK120.out 8).trans rfl; have hfz4_0 := blk_frozen BK120.out 0; have hfz4_1 := blk_frozen BK120.out 1; have hfz4_2 := blk_frozen BK120.out 2; have hfz4_3 := blk_frozen BK120.out 3; have hfz4_4 := blk_frozen BK120.out 4; have hfz4_5 := blk_frozen BK120.out 5; have hfz4_6 := blk_frozen BK120.out 6; have hfz4_7 := blk_frozen BK120.out 7; have hfz4_8 := blk_frozen BK120.out 8))
    go_ret
    exact ⟨by first | rfl | (simp [errW_none, errW_some] <;> rfl) | (simp [*, errW_none, errW_some] <;> rfl), by repeat (first | (with_reducible first | exact HB.out | apply below_alloc | apply pw_below_drewN | apply below_drew1 | refine below_set ?_ GE120.out) | exact HB.out)⟩
  · rw [if_neg c2] at H
    have c2b0 : (a0_0 == 2) = false := beq_eq_false_iff_ne.mpr c2
    have c2b1 : (a0_0 != 2) = true := bne_iff_ne.mpr c2
    by_cases c5 : a0_0 = 3
    · rw [if_pos c5] at H
      have c5b0 : (a0_0 == 3) = true := beq_iff_eq.mpr c5
      have c5b1 : (a0_0 != 3) = false := bne_eq_false_iff_eq.mpr c5
      clear c5
      obtain rfl := Option.some.inj H
      go_enter Try.func80, Try.ntmps80
      go_wp2_with (first | ((with_reducible refine gate_dst (N := 1) rfl ?_); refine box_event ?hg (N := 1) ?hd (cs := #[.int .i64 a0_0, .int .i64 a0_1, .int .i64 a0_2, .int .i64 a0_3, .int .i64 a0_4, .slice A0_5 l0_5.length c0_5, .bool a0_6, .int .i64 a0_7, .slice A0_8 l0_8.length c0_8]) (t := 87) ?hr ?_; (case hd => rfl); (case hg => rfl); (case hr => first | (go_simp; done) | (go_simp; rfl)); intro gb120 hg w6 hbox hb; have n0_ := Aside0.mk (below_step (by repeat (first | (with_reducible first | exact HB.out | apply below_alloc | apply pw_below_drewN | apply below_drew1) | exact HB.out)) hb); have n1_ := Aside0.mk (hbox); have n2_ := Aside0.mk ((by rw [hg]; exact (below_size (by repeat (first | (with_reducible first | exact HB.out | apply below_alloc | apply pw_below_drewN | apply below_drew1) | exact HB.out))) : w.heap.size ≤ gb120)); have n3_ := Aside0.mk ((by rw [hg]; exact (below_size (by repeat (first | (with_reducible first | exact HB.out | apply below_alloc | apply pw_below_drewN | apply below_drew1) | exact HB.out))) : w.heap.size ≤ gb120)); clear HB; have HB := n0_; have BK120 := n1_; have GW120 := n2_; have GE120 := n3_; clear n0_ n1_ n2_ n3_; clear hb hbox hg; have hcz7_0 : w6.cell? ⟨gb120, 0, none⟩ = some (.int .i64 a0_0) := (blk_cell BK120.out 0).trans rfl; have hcz7_1 : w6.cell? ⟨gb120, 1, none⟩ = some (.int .i64 a0_1) := (blk_cell BK120.out 1).trans rfl; have hcz7_2 : w6.cell? ⟨gb120, 2, none⟩ = some (.int .i64 a0_2) := (blk_cell BK120.out 2).trans rfl; have hcz7_3 : w6.cell? ⟨gb120, 3, none⟩ = some (.int .i64 a0_3) := (blk_cell BK120.out 3).trans rfl; have hcz7_4 : w6.cell? ⟨gb120, 4, none⟩ = some (.int .i64 a0_4) := (blk_cell BK120.out 4).trans rfl; have hcz7_5 : w6.cell? ⟨gb120, 5, none⟩ = some (.slice A0_5 l0_5.length c0_5) := (blk_cell BK120.out 5).trans rfl; have hcz7_6 : w6.cell? ⟨gb120, 6, none⟩ = some (.bool a0_6) := (blk_cell BK120.out 6).trans rfl; have hcz7_7 : w6.cell? ⟨gb120, 7, none⟩ = some (.int .i64 a0_7) := (blk_cell BK120.out 7).trans rfl; have hcz7_8 : w6.cell? ⟨gb120, 8, none⟩ = some (.slice A0_8 l0_8.length c0_8) := (blk_cell BK120.out 8).trans rfl; have hfz7_0 := blk_frozen BK120.out 0; have hfz7_1 := blk_frozen BK120.out 1; have hfz7_2 := blk_frozen BK120.out 2; have hfz7_3 := blk_frozen BK120.out 3; have hfz7_4 := blk_frozen BK120.out 4; have hfz7_5 := blk_frozen BK120.out 5; have hfz7_6 := blk_frozen BK120.out 6; have hfz7_7 := blk_frozen BK120.out 7; have hfz7_8 := blk_frozen BK120.out 8))
      go_ret
      exact ⟨by first | rfl | (simp [errW_none, errW_some] <;> rfl) | (simp [*, errW_none, errW_some] <;> rfl), by repeat (first | (with_reducible first | exact HB.out | apply below_alloc | apply pw_below_drewN | apply below_drew1 | refine below_set ?_ GE120.out) | exact HB.out)⟩
    · rw [if_neg c5] at H
      have c5b0 : (a0_0 == 3) = false := beq_eq_false_iff_ne.mpr c5
      have c5b1 : (a0_0 != 3) = true := bne_iff_ne.mpr c5
      obtain rfl := Option.some.inj H
      go_enter Try.func80, Try.ntmps80
      go_wp2_with (first | ((with_reducible refine gate_dst (N := 1) rfl ?_); refine box_event ?hg (N := 1) ?hd (cs := #[.int .i64 a0_0, .int .i64 a0_1, .int .i64 a0_2, .int .i64 a0_3, .int .i64 a0_4, .slice A0_5 l0_5.length c0_5, .bool a0_6, .int .i64 a0_7, .slice A0_8 l0_8.length c0_8]) (t := 87) ?hr ?_; (case hd => rfl); (case hg => rfl); (case hr => first | (go_simp; done) | (go_simp; rfl)); intro gb120 hg w8 hbox hb; have n0_ := Aside0.mk (below_step (by repeat (first | (with_reducible first | exact HB.out | apply below_alloc | apply pw_below_drewN | apply below_drew1) | exact HB.out)) hb); have n1_ := Aside0.mk (hbox); have n2_ := Aside0.mk ((by rw [hg]; exact (below_size (by repeat (first | (with_reducible first | exact HB.out | apply below_alloc | apply pw_below_drewN | apply below_drew1) | exact HB.out))) : w.heap.size ≤ gb120)); have n3_ := Aside0.mk ((by rw [hg]; exact (below_size (by repeat (first | (with_reducible first | exact HB.out | apply below_alloc | apply pw_below_drewN | apply below_drew1) | exact HB.out))) : w.heap.size ≤ gb120)); clear HB; have HB := n0_; have BK120 := n1_; have GW120 := n2_; have GE120 := n3_; clear n0_ n1_ n2_ n3_; clear hb hbox hg; have hcz9_0 : w8.cell? ⟨gb120, 0, none⟩ = some (.int .i64 a0_0) := (blk_cell BK120.out 0).trans rfl; have hcz9_1 : w8.cell? ⟨gb120, 1, none⟩ = some (.int .i64 a0_1) := (blk_cell BK120.out 1).trans rfl; have hcz9_2 : w8.cell? ⟨gb120, 2, none⟩ = some (.int .i64 a0_2) := (blk_cell BK120.out 2).trans rfl; have hcz9_3 : w8.cell? ⟨gb120, 3, none⟩ = some (.int .i64 a0_3) := (blk_cell BK120.out 3).trans rfl; have hcz9_4 : w8.cell? ⟨gb120, 4, none⟩ = some (.int .i64 a0_4) := (blk_cell BK120.out 4).trans rfl; have hcz9_5 : w8.cell? ⟨gb120, 5, none⟩ = some (.slice A0_5 l0_5.length c0_5) := (blk_cell BK120.out 5).trans rfl; have hcz9_6 : w8.cell? ⟨gb120, 6, none⟩ = some (.bool a0_6) := (blk_cell BK120.out 6).trans rfl; have hcz9_7 : w8.cell? ⟨gb120, 7, none⟩ = some (.int .i64 a0_7) := (blk_cell BK120.out 7).trans rfl; have hcz9_8 : w8.cell? ⟨gb120, 8, none⟩ = some (.slice A0_8 l0_8.length c0_8) := (blk_cell BK120.out 8).trans rfl; have hfz9_0 := blk_frozen BK120.out 0; have hfz9_1 := blk_frozen BK120.out 1; have hfz9_2 := blk_frozen BK120.out 2; have hfz9_3 := blk_frozen BK120.out 3; have hfz9_4 := blk_frozen BK120.out 4; have hfz9_5 := blk_frozen BK120.out 5; have hfz9_6 := blk_frozen BK120.out 6; have hfz9_7 := blk_frozen BK120.out 7; have hfz9_8 := blk_frozen BK120.out 8))
      go_ret
      exact ⟨by first | rfl | (simp [errW_none, errW_some] <;> rfl) | (simp [*, errW_none, errW_some] <;> rfl), by repeat (first | (with_reducible first | exact HB.out | apply below_alloc | apply pw_below_drewN | apply below_drew1 | refine below_set ?_ GE120.out) | exact HB.out)⟩

end Go.Proofs.Ytpeejdmbnlhjmaa.PSubframeLinear
