-- written by this session's program wip/reprint.sh (a turned copy of the kit's print): the session's own text
import Derived.Test.YtpeejdmbnlhjmaaPSubframeLinearx0
import Derived.Test.YtpeejdmbnlhjmaaPSubframeLinearx1
import Derived.Test.YtpeejdmbnlhjmaaPSubframeLinearx2
import Derived.Test.YtpeejdmbnlhjmaaPSubframeLinearx5
namespace Go.Proofs.Ytpeejdmbnlhjmaa.PSubframeLinear
open Go.RowKit Go.Proofs.YtpeejdmbnlhjmaaW.PrintWords Go.Proofs.YtpeejdmbnlhjmaaW.PrintLast Go.Proofs.YtpeejdmbnlhjmaaW.PrintMore Go.Proofs.Ytpeejdmbnlhjmaa.H
attribute [local go_sem] max2_int min2_int max_two min_two max_three min_three max_four min_four   -- for this text's walks alone
set_option linter.unusedVariables false
set_option linter.unusedSimpArgs false

/-! ### subframe_Bits: function 46 -/
def subframe_Bits.j0 : Nat → List Int → Int → Int → Int → Int → Int → Int → List Int → Bool → Int → List (S172) → Option (Int × Int)
  | 0, _, _, _, _, _, _, _, _, _, _, _ => none
  | k + 1, x9, x11, x167000, x167001, x167002, x167003, x167004, x167005, x167006, x167007, x167008 => (subframe_order.f x167000 x167001 x167002 x167003 x167004 x167005 x167006 x167007 x167008).bind fun t180 => ((parts_Bits.f k x9 t180 x167006 x167007 x167008).bind fun t181 => (if t181 < 0 then (some (0, 1)) else (some (wrap64 (x11 + t181), 0))))
def subframe_Bits.f (k : Nat) (l0 : List Int) (a1_0 : Int) (a1_1 : Int) (a1_2 : Int) (a1_3 : Int) (a1_4 : Int) (l1_5 : List Int) (a1_6 : Bool) (a1_7 : Int) (l1_8 : List (S172)) (a2 : Int) : Option (Int × Int) := (subframe_odd.f k l0 a1_0 a1_1 a1_2 a1_3 a1_4 l1_5 a1_6 a1_7 l1_8 a2).bind fun t167 => (if t167 = 0 then ((subframe_Rest.f k l0 a1_0 a1_1 a1_2 a1_3 a1_4 l1_5 a1_6 a1_7 l1_8).bind fun bt168 => (if a1_0 = 0 then ((slices_Clone_int_int.f l0).bind fun t174 => ((slices_Compact_int_int.f t174).bind fun t177 => (if (t177.length : Int) > 1 then (some (0, 5)) else (some (wrap64 ((wrap64 (8 + a1_1)) + (wrap64 (a2 - a1_1))), 0))))) else (if a1_0 = 1 then (some (wrap64 ((wrap64 (8 + a1_1)) + (wrap64 ((wrap64 (a2 - a1_1)) * (l0.length : Int)))), 0)) else (if a1_0 = 3 then (if bt168.2 = 0 then ((subframe_order.f a1_0 a1_1 a1_2 a1_3 a1_4 l1_5 a1_6 a1_7 l1_8).bind fun t172 => (subframe_Bits.j0 k bt168.1 (wrap64 ((wrap64 ((wrap64 (8 + a1_1)) + (wrap64 (9 + (wrap64 (a1_4 * (l1_5.length : Int))))))) + (wrap64 ((wrap64 (a2 - a1_1)) * t172)))) a1_0 a1_1 a1_2 a1_3 a1_4 l1_5 a1_6 a1_7 l1_8)) else (some (0, bt168.2))) else (if a1_0 = 2 then (if bt168.2 = 0 then ((subframe_order.f a1_0 a1_1 a1_2 a1_3 a1_4 l1_5 a1_6 a1_7 l1_8).bind fun t173 => (subframe_Bits.j0 k bt168.1 (wrap64 ((wrap64 (8 + a1_1)) + (wrap64 ((wrap64 (a2 - a1_1)) * t173)))) a1_0 a1_1 a1_2 a1_3 a1_4 l1_5 a1_6 a1_7 l1_8)) else (some (0, bt168.2))) else (subframe_Bits.j0 k bt168.1 (wrap64 (8 + a1_1)) a1_0 a1_1 a1_2 a1_3 a1_4 l1_5 a1_6 a1_7 l1_8)))))) else (some (0, t167)))
theorem subframe_Bits.mono_l : ∀ k, (∀ y0 y1 y2 y3 y4 y5 y6 y7 y8 y9 y10, LeO (subframe_Bits.j0 k y0 y1 y2 y3 y4 y5 y6 y7 y8 y9 y10) (subframe_Bits.j0 (k + 1) y0 y1 y2 y3 y4 y5 y6 y7 y8 y9 y10))
  | 0 => fun _ _ _ _ _ _ _ _ _ _ _ r h => by simp [subframe_Bits.j0] at h
  | k + 1 => by
    have ih0 := subframe_Bits.mono_l k
    · intro y0 y1 y2 y3 y4 y5 y6 y7 y8 y9 y10
      unfold subframe_Bits.j0
      repeat' first
      | (with_reducible exact ih0 _ _ _ _ _ _ _ _ _ _ _)
      | (with_reducible exact parts_Bits.mono _ _ _ _ _ _)
      | (with_reducible exact subframe_Rest.mono _ _ _ _ _ _ _ _ _ _ _)
      | (with_reducible exact subframe_odd.mono _ _ _ _ _ _ _ _ _ _ _ _)
      | (with_reducible exact LeO.refl _)
      | (with_reducible exact LeO.none _)
      | (with_reducible refine LeO.ite ?_ ?_)
      | (with_reducible refine LeO.bind ?_ (fun _ => ?_))
      | exact ih0 _ _ _ _ _ _ _ _ _ _ _
      | exact parts_Bits.mono _ _ _ _ _ _
      | exact subframe_Rest.mono _ _ _ _ _ _ _ _ _ _ _
      | exact subframe_odd.mono _ _ _ _ _ _ _ _ _ _ _ _
      | exact LeO.none _
      | refine LeO.ite ?_ ?_
      | refine LeO.bind ?_ (fun _ => ?_)
theorem subframe_Bits.mono : ∀ a0 a1 a2 a3 a4 a5 a6 a7 a8 a9 a10 k, LeO (subframe_Bits.f k a0 a1 a2 a3 a4 a5 a6 a7 a8 a9 a10) (subframe_Bits.f (k + 1) a0 a1 a2 a3 a4 a5 a6 a7 a8 a9 a10) := by
  intro a0 a1 a2 a3 a4 a5 a6 a7 a8 a9 a10 k
  have ih0 := subframe_Bits.mono_l k
  unfold subframe_Bits.f
  repeat' first
      | (with_reducible exact ih0 _ _ _ _ _ _ _ _ _ _ _)
      | (with_reducible exact parts_Bits.mono _ _ _ _ _ _)
      | (with_reducible exact subframe_Rest.mono _ _ _ _ _ _ _ _ _ _ _)
      | (with_reducible exact subframe_odd.mono _ _ _ _ _ _ _ _ _ _ _ _)
      | (with_reducible exact LeO.refl _)
      | (with_reducible exact LeO.none _)
      | (with_reducible refine LeO.ite ?_ ?_)
      | (with_reducible refine LeO.bind ?_ (fun _ => ?_))
      | exact ih0 _ _ _ _ _ _ _ _ _ _ _
      | exact parts_Bits.mono _ _ _ _ _ _
      | exact subframe_Rest.mono _ _ _ _ _ _ _ _ _ _ _
      | exact subframe_odd.mono _ _ _ _ _ _ _ _ _ _ _ _
      | exact LeO.none _
      | refine LeO.ite ?_ ?_
      | refine LeO.bind ?_ (fun _ => ?_)
def subframe_Bits.T5 : Bool × List (List Nat × List Nat) := (true, [([], []), ([0], [0]), ([1], [1]), ([], []), ([], []), ([4], [4]), ([3, 5], [3, 5]), ([2, 0, 1, 2], [2]), ([6, 7, 0, 1, 2, 3, 4, 5, 6, 7], [6])])
def subframe_Bits.B5 : List Nat := [0, 1, 3, 0, 0, 16, 56, 7, 255]
theorem subframe_Bits.tab5 : rtab .any (opsOf Try.f46 5) = subframe_Bits.T5 := by kernel_rfl
theorem subframe_Bits.bits5 : waitsOk subframe_Bits.T5.2 subframe_Bits.B5 = true := by kernel_rfl
set_option maxHeartbeats 8000000 in
set_option maxRecDepth 100000 in
theorem subframe_Bits.calls (k : Nat) (A0 : Option Addr) (c0 : Nat) (l0 : List Int) (a1_0 : Int) (a1_1 : Int) (a1_2 : Int) (a1_3 : Int) (a1_4 : Int) (A1_5 : Option Addr) (c1_5 : Nat) (l1_5 : List Int) (a1_6 : Bool) (a1_7 : Int) (A1_8 : Option Addr) (c1_8 : Nat) (l1_8 : List (S172)) (a2 : Int) (r1 : Int) (r2 : Int) (w : World) (hr0 : Kd.C (Kd.int .i64) w A0 l0.length l0) (hc0 : l0.length ≤ c0) (hr1_5 : Kd.C (Kd.int .i64) w A1_5 l1_5.length l1_5) (hc1_5 : l1_5.length ≤ c1_5) (hr1_8 : Kd.C k172 w A1_8 l1_8.length l1_8) (hc1_8 : l1_8.length ≤ c1_8) (h : subframe_Bits.f k l0 a1_0 a1_1 a1_2 a1_3 a1_4 l1_5 a1_6 a1_7 l1_8 a2 = some (r1, r2)) :
    Calls Try.prog 46 #[.slice A0 l0.length c0, .agg #[.int .i64 a1_0, .int .i64 a1_1, .int .i64 a1_2, .int .i64 a1_3, .int .i64 a1_4, .slice A1_5 l1_5.length c1_5, .bool a1_6, .int .i64 a1_7, .slice A1_8 l1_8.length c1_8], .int .i64 a2] w fun e w' => e = .returned (.tuple #[.int .i64 r1, .int .i64 r2]) ∧ Below w.heap.size w w' := by
  have hu87 := Try.underlying87
  have hu85 := Try.underlying85
  have HR0 := Aside0.mk hr0
  have HC0 := Aside0.mk hc0
  clear hr0 hc0
  have HR1_5 := Aside0.mk hr1_5
  have HC1_5 := Aside0.mk hc1_5
  clear hr1_5 hc1_5
  have HR1_8 := Aside0.mk hr1_8
  have HC1_8 := Aside0.mk hc1_8
  clear hr1_8 hc1_8
  have HB := Aside0.mk (Below.refl w.heap.size w)
  have H : ((subframe_odd.f k l0 a1_0 a1_1 a1_2 a1_3 a1_4 l1_5 a1_6 a1_7 l1_8 a2).bind fun t167 => (if t167 = 0 then ((subframe_Rest.f k l0 a1_0 a1_1 a1_2 a1_3 a1_4 l1_5 a1_6 a1_7 l1_8).bind fun bt168 => (if a1_0 = 0 then ((slices_Clone_int_int.f l0).bind fun t174 => ((slices_Compact_int_int.f t174).bind fun t177 => (if (t177.length : Int) > 1 then (some (0, 5)) else (some (wrap64 ((wrap64 (8 + a1_1)) + (wrap64 (a2 - a1_1))), 0))))) else (if a1_0 = 1 then (some (wrap64 ((wrap64 (8 + a1_1)) + (wrap64 ((wrap64 (a2 - a1_1)) * (l0.length : Int)))), 0)) else (if a1_0 = 3 then (if bt168.2 = 0 then ((subframe_order.f a1_0 a1_1 a1_2 a1_3 a1_4 l1_5 a1_6 a1_7 l1_8).bind fun t172 => (subframe_Bits.j0 k bt168.1 (wrap64 ((wrap64 ((wrap64 (8 + a1_1)) + (wrap64 (9 + (wrap64 (a1_4 * (l1_5.length : Int))))))) + (wrap64 ((wrap64 (a2 - a1_1)) * t172)))) a1_0 a1_1 a1_2 a1_3 a1_4 l1_5 a1_6 a1_7 l1_8)) else (some (0, bt168.2))) else (if a1_0 = 2 then (if bt168.2 = 0 then ((subframe_order.f a1_0 a1_1 a1_2 a1_3 a1_4 l1_5 a1_6 a1_7 l1_8).bind fun t173 => (subframe_Bits.j0 k bt168.1 (wrap64 ((wrap64 (8 + a1_1)) + (wrap64 ((wrap64 (a2 - a1_1)) * t173)))) a1_0 a1_1 a1_2 a1_3 a1_4 l1_5 a1_6 a1_7 l1_8)) else (some (0, bt168.2))) else (subframe_Bits.j0 k bt168.1 (wrap64 (8 + a1_1)) a1_0 a1_1 a1_2 a1_3 a1_4 l1_5 a1_6 a1_7 l1_8)))))) else (some (0, t167)))) = some (r1, r2) := h
  clear h
  replace H := Option.bind_eq_some_iff.mp H
  obtain ⟨t167, A40, H⟩ := H
  replace H : (if t167 = 0 then ((subframe_Rest.f k l0 a1_0 a1_1 a1_2 a1_3 a1_4 l1_5 a1_6 a1_7 l1_8).bind fun bt168 => (if a1_0 = 0 then ((slices_Clone_int_int.f l0).bind fun t174 => ((slices_Compact_int_int.f t174).bind fun t177 => (if (t177.length : Int) > 1 then (some (0, 5)) else (some (wrap64 ((wrap64 (8 + a1_1)) + (wrap64 (a2 - a1_1))), 0))))) else (if a1_0 = 1 then (some (wrap64 ((wrap64 (8 + a1_1)) + (wrap64 ((wrap64 (a2 - a1_1)) * (l0.length : Int)))), 0)) else (if a1_0 = 3 then (if bt168.2 = 0 then ((subframe_order.f a1_0 a1_1 a1_2 a1_3 a1_4 l1_5 a1_6 a1_7 l1_8).bind fun t172 => (subframe_Bits.j0 k bt168.1 (wrap64 ((wrap64 ((wrap64 (8 + a1_1)) + (wrap64 (9 + (wrap64 (a1_4 * (l1_5.length : Int))))))) + (wrap64 ((wrap64 (a2 - a1_1)) * t172)))) a1_0 a1_1 a1_2 a1_3 a1_4 l1_5 a1_6 a1_7 l1_8)) else (some (0, bt168.2))) else (if a1_0 = 2 then (if bt168.2 = 0 then ((subframe_order.f a1_0 a1_1 a1_2 a1_3 a1_4 l1_5 a1_6 a1_7 l1_8).bind fun t173 => (subframe_Bits.j0 k bt168.1 (wrap64 ((wrap64 (8 + a1_1)) + (wrap64 ((wrap64 (a2 - a1_1)) * t173)))) a1_0 a1_1 a1_2 a1_3 a1_4 l1_5 a1_6 a1_7 l1_8)) else (some (0, bt168.2))) else (subframe_Bits.j0 k bt168.1 (wrap64 (8 + a1_1)) a1_0 a1_1 a1_2 a1_3 a1_4 l1_5 a1_6 a1_7 l1_8)))))) else (some (0, t167))) = some (r1, r2) := H
  have A4 := Aside0.mk A40
  clear A40
  by_cases c5 : t167 = 0
  · rw [if_pos c5] at H
    have c5b0 : (t167 == 0) = true := beq_iff_eq.mpr c5
    have c5b1 : (t167 != 0) = false := bne_eq_false_iff_eq.mpr c5
    clear c5
    replace H := Option.bind_eq_some_iff.mp H
    obtain ⟨⟨t168, t171⟩, A60, H⟩ := H
    replace H : (if a1_0 = 0 then ((slices_Clone_int_int.f l0).bind fun t174 => ((slices_Compact_int_int.f t174).bind fun t177 => (if (t177.length : Int) > 1 then (some (0, 5)) else (some (wrap64 ((wrap64 (8 + a1_1)) + (wrap64 (a2 - a1_1))), 0))))) else (if a1_0 = 1 then (some (wrap64 ((wrap64 (8 + a1_1)) + (wrap64 ((wrap64 (a2 - a1_1)) * (l0.length : Int)))), 0)) else (if a1_0 = 3 then (if t171 = 0 then ((subframe_order.f a1_0 a1_1 a1_2 a1_3 a1_4 l1_5 a1_6 a1_7 l1_8).bind fun t172 => (subframe_Bits.j0 k t168 (wrap64 ((wrap64 ((wrap64 (8 + a1_1)) + (wrap64 (9 + (wrap64 (a1_4 * (l1_5.length : Int))))))) + (wrap64 ((wrap64 (a2 - a1_1)) * t172)))) a1_0 a1_1 a1_2 a1_3 a1_4 l1_5 a1_6 a1_7 l1_8)) else (some (0, t171))) else (if a1_0 = 2 then (if t171 = 0 then ((subframe_order.f a1_0 a1_1 a1_2 a1_3 a1_4 l1_5 a1_6 a1_7 l1_8).bind fun t173 => (subframe_Bits.j0 k t168 (wrap64 ((wrap64 (8 + a1_1)) + (wrap64 ((wrap64 (a2 - a1_1)) * t173)))) a1_0 a1_1 a1_2 a1_3 a1_4 l1_5 a1_6 a1_7 l1_8)) else (some (0, t171))) else (subframe_Bits.j0 k t168 (wrap64 (8 + a1_1)) a1_0 a1_1 a1_2 a1_3 a1_4 l1_5 a1_6 a1_7 l1_8))))) = some (r1, r2) := H
    have A6 := Aside0.mk A60
    clear A60
    have HC7 := Aside0.mk H
    clear H
    go_enter Try.func46, Try.ntmps46
    try go_wp2_with (first | ((with_reducible refine gate_dst (N := 4) rfl ?_); refine box_event ?hg (N := 4) ?hd (cs := #[.int .i64 a1_0, .int .i64 a1_1, .int .i64 a1_2, .int .i64 a1_3, .int .i64 a1_4, .slice A1_5 l1_5.length c1_5, .bool a1_6, .int .i64 a1_7, .slice A1_8 l1_8.length c1_8]) (t := 87) ?hr ?_; (case hd => rfl); (case hg => rfl); (case hr => first | (go_simp; done) | (go_simp; rfl)); intro gb166 hg w8 hbox hb; have n0_ := Aside0.mk (below_step (by repeat (first | (with_reducible first | exact HB.out | apply below_alloc | apply pw_below_drewN | apply below_drew1) | exact HB.out)) hb); have n1_ := Aside0.mk (hbox); have n2_ := Aside0.mk ((by rw [hg]; exact (below_size (by repeat (first | (with_reducible first | exact HB.out | apply below_alloc | apply pw_below_drewN | apply below_drew1) | exact HB.out))) : w.heap.size ≤ gb166)); have n3_ := Aside0.mk ((by rw [hg]; exact (below_size (by repeat (first | (with_reducible first | exact HB.out | apply below_alloc | apply pw_below_drewN | apply below_drew1) | exact HB.out))) : w.heap.size ≤ gb166)); clear HB; have HB := n0_; have BK166 := n1_; have GW166 := n2_; have GE166 := n3_; clear n0_ n1_ n2_ n3_; clear hb hbox hg; have hcz9_0 : w8.cell? ⟨gb166, 0, none⟩ = some (.int .i64 a1_0) := (blk_cell BK166.out 0).trans rfl; have hcz9_1 : w8.cell? ⟨gb166, 1, none⟩ = some (.int .i64 a1_1) := (blk_cell BK166.out 1).trans rfl; have hcz9_2 : w8.cell? ⟨gb166, 2, none⟩ = some (.int .i64 a1_2) := (blk_cell BK166.out 2).trans rfl; have hcz9_3 : w8.cell? ⟨gb166, 3, none⟩ = some (.int .i64 a1_3) := (blk_cell BK166.out 3).trans rfl; have hcz9_4 : w8.cell? ⟨gb166, 4, none⟩ = some (.int .i64 a1_4) := (blk_cell BK166.out 4).trans rfl; have hcz9_5 : w8.cell? ⟨gb166, 5, none⟩ = some (.slice A1_5 l1_5.length c1_5) := (blk_cell BK166.out 5).trans rfl; have hcz9_6 : w8.cell? ⟨gb166, 6, none⟩ = some (.bool a1_6) := (blk_cell BK166.out 6).trans rfl; have hcz9_7 : w8.cell? ⟨gb166, 7, none⟩ = some (.int .i64 a1_7) := (blk_cell BK166.out 7).trans rfl; have hcz9_8 : w8.cell? ⟨gb166, 8, none⟩ = some (.slice A1_8 l1_8.length c1_8) := (blk_cell BK166.out 8).trans rfl; have hfz9_0 := blk_frozen BK166.out 0; have hfz9_1 := blk_frozen BK166.out 1; have hfz9_2 := blk_frozen BK166.out 2; have hfz9_3 := blk_frozen BK166.out 3; have hfz9_4 := blk_frozen BK166.out 4; have hfz9_5 := blk_frozen BK166.out 5; have hfz9_6 := blk_frozen BK166.out 6; have hfz9_7 := blk_frozen BK166.out 7; have hfz9_8 := blk_frozen BK166.out 8) | ((with_reducible refine gate_callee (f := 76) rfl ?_); refine goesL_ (some 17) rfl rfl Try.func76 (by kernel_rfl) rfl #[.slice A0 l0.length c0, .agg #[.int .i64 a1_0, .int .i64 a1_1, .int .i64 a1_2, .int .i64 a1_3, .int .i64 a1_4, .slice A1_5 l1_5.length c1_5, .bool a1_6, .int .i64 a1_7, .slice A1_8 l1_8.length c1_8], .int .i64 a2] rfl (by (try simp only [List.map_toArray, List.map_cons, List.map_nil]); first | done | rfl | (simp only [List.length_drop, List.length_take]; rfl)) ?_; (with_reducible refine (subframe_odd.calls k _ _ l0 a1_0 a1_1 a1_2 a1_3 a1_4 _ _ l1_5 a1_6 a1_7 _ _ l1_8 a2 t167 _ ?side1 ?side2 ?side3 ?side4 ?side5 ?side6 A4.out).mono ?_); (case side1 => repeat (first | exact (Kd.C_below HR0.out HB.out) | (with_reducible refine Kd.C_alloc ?_ _) | (with_reducible refine Kd.C_drewN ?_ _) | (with_reducible refine Kd.C_drew ?_))); (case side2 => exact HC0.out); (case side3 => repeat (first | exact (Kd.C_below HR1_5.out HB.out) | (with_reducible refine Kd.C_alloc ?_ _) | (with_reducible refine Kd.C_drewN ?_ _) | (with_reducible refine Kd.C_drew ?_))); (case side4 => exact HC1_5.out); (case side5 => repeat (first | exact (Kd.C_below HR1_8.out HB.out) | (with_reducible refine Kd.C_alloc ?_ _) | (with_reducible refine Kd.C_drewN ?_ _) | (with_reducible refine Kd.C_drew ?_))); (case side6 => exact HC1_8.out); rintro e w10 ⟨rfl, hb⟩; refine ⟨_, rfl, ?_⟩; have n0_ := Aside0.mk (blk_below (g := gb166) (o := .cells #[.int .i64 a1_0, .int .i64 a1_1, .int .i64 a1_2, .int .i64 a1_3, .int .i64 a1_4, .slice A1_5 l1_5.length c1_5, .bool a1_6, .int .i64 a1_7, .slice A1_8 l1_8.length c1_8] 87 (0, 0)) (by (with_reducible repeat (first | refine blk_drewN ?_ _ | refine blk_drew ?_ | refine blk_alloc ?_ _)); exact BK166.out) hb); have n1_ := Aside0.mk (below_step (by repeat (first | (with_reducible first | exact HB.out | apply below_alloc | apply pw_below_drewN | apply below_drew1 | refine below_set ?_ GE166.out) | exact HB.out)) hb); clear BK166; clear HB; have BK166 := n0_; have HB := n1_; clear n0_ n1_; (try clear hb); (try clear hb2); (try clear hk); (try clear hi); have hcz11_0 : w10.cell? ⟨gb166, 0, none⟩ = some (.int .i64 a1_0) := (blk_cell BK166.out 0).trans rfl; have hcz11_1 : w10.cell? ⟨gb166, 1, none⟩ = some (.int .i64 a1_1) := (blk_cell BK166.out 1).trans rfl; have hcz11_2 : w10.cell? ⟨gb166, 2, none⟩ = some (.int .i64 a1_2) := (blk_cell BK166.out 2).trans rfl; have hcz11_3 : w10.cell? ⟨gb166, 3, none⟩ = some (.int .i64 a1_3) := (blk_cell BK166.out 3).trans rfl; have hcz11_4 : w10.cell? ⟨gb166, 4, none⟩ = some (.int .i64 a1_4) := (blk_cell BK166.out 4).trans rfl; have hcz11_5 : w10.cell? ⟨gb166, 5, none⟩ = some (.slice A1_5 l1_5.length c1_5) := (blk_cell BK166.out 5).trans rfl; have hcz11_6 : w10.cell? ⟨gb166, 6, none⟩ = some (.bool a1_6) := (blk_cell BK166.out 6).trans rfl; have hcz11_7 : w10.cell? ⟨gb166, 7, none⟩ = some (.int .i64 a1_7) := (blk_cell BK166.out 7).trans rfl; have hcz11_8 : w10.cell? ⟨gb166, 8, none⟩ = some (.slice A1_8 l1_8.length c1_8) := (blk_cell BK166.out 8).trans rfl; have hfz11_0 := blk_frozen BK166.out 0; have hfz11_1 := blk_frozen BK166.out 1; have hfz11_2 := blk_frozen BK166.out 2; have hfz11_3 := blk_frozen BK166.out 3; have hfz11_4 := blk_frozen BK166.out 4; have hfz11_5 := blk_frozen BK166.out 5; have hfz11_6 := blk_frozen BK166.out 6; have hfz11_7 := blk_frozen BK166.out 7; have hfz11_8 := blk_frozen BK166.out 8) | ((with_reducible refine gate_callee (f := 77) rfl ?_); refine goesL_ (some 24) rfl rfl Try.func77 (by kernel_rfl) rfl #[.slice A0 l0.length c0, .agg #[.int .i64 a1_0, .int .i64 a1_1, .int .i64 a1_2, .int .i64 a1_3, .int .i64 a1_4, .slice A1_5 l1_5.length c1_5, .bool a1_6, .int .i64 a1_7, .slice A1_8 l1_8.length c1_8]] rfl (by (try simp only [List.map_toArray, List.map_cons, List.map_nil]); first | done | rfl | (simp only [List.length_drop, List.length_take]; rfl)) ?_; (with_reducible refine (subframe_Rest.calls k _ _ l0 a1_0 a1_1 a1_2 a1_3 a1_4 _ _ l1_5 a1_6 a1_7 _ _ l1_8 t168 t171 _ ?side1 ?side2 ?side3 ?side4 ?side5 ?side6 A6.out).mono ?_); (case side1 => repeat (first | exact (Kd.C_below HR0.out HB.out) | (with_reducible refine Kd.C_alloc ?_ _) | (with_reducible refine Kd.C_drewN ?_ _) | (with_reducible refine Kd.C_drew ?_))); (case side2 => exact HC0.out); (case side3 => repeat (first | exact (Kd.C_below HR1_5.out HB.out) | (with_reducible refine Kd.C_alloc ?_ _) | (with_reducible refine Kd.C_drewN ?_ _) | (with_reducible refine Kd.C_drew ?_))); (case side4 => exact HC1_5.out); (case side5 => repeat (first | exact (Kd.C_below HR1_8.out HB.out) | (with_reducible refine Kd.C_alloc ?_ _) | (with_reducible refine Kd.C_drewN ?_ _) | (with_reducible refine Kd.C_drew ?_))); (case side6 => exact HC1_8.out); rintro e w12 ⟨v169, rfl, ho0, hb⟩; refine ⟨_, rfl, ?_⟩; have n0_ := Aside0.mk (Kd.R_lower ho0 (below_size (by repeat (first | (with_reducible first | exact HB.out | apply below_alloc | apply pw_below_drewN | apply below_drew1 | refine below_set ?_ GE166.out) | exact HB.out)))); have n1_ := Aside0.mk (blk_below (g := gb166) (o := .cells #[.int .i64 a1_0, .int .i64 a1_1, .int .i64 a1_2, .int .i64 a1_3, .int .i64 a1_4, .slice A1_5 l1_5.length c1_5, .bool a1_6, .int .i64 a1_7, .slice A1_8 l1_8.length c1_8] 87 (0, 0)) (by (with_reducible repeat (first | refine blk_drewN ?_ _ | refine blk_drew ?_ | refine blk_alloc ?_ _)); exact BK166.out) hb); have n2_ := Aside0.mk (below_step (by repeat (first | (with_reducible first | exact HB.out | apply below_alloc | apply pw_below_drewN | apply below_drew1 | refine below_set ?_ GE166.out) | exact HB.out)) hb); clear BK166; clear HB; have HO170 := n0_; have BK166 := n1_; have HB := n2_; clear n0_ n1_ n2_; (try clear hb); (try clear hb2); (try clear hk); (try clear hi); (try clear ho0)))
    have n0_ := Aside0.mk (Kd.R_drew HO170.out)
    have n1_ := Aside0.mk (blk_drew BK166.out)
    have n2_ := Aside0.mk (below_drew1 HB.out)
    clear HO170
    clear BK166
    clear HB
    have HO170 := n0_
    have BK166 := n1_
    have HB := n2_
    clear n0_ n1_ n2_
    refine start_ (n := 9) (S := fun w' => w'.cell? ⟨gb166, 0, none⟩ = some (.int .i64 a1_0) ∧ w'.cell? ⟨gb166, 1, none⟩ = some (.int .i64 a1_1) ∧ w'.cell? ⟨gb166, 2, none⟩ = some (.int .i64 a1_2) ∧ w'.cell? ⟨gb166, 3, none⟩ = some (.int .i64 a1_3) ∧ w'.cell? ⟨gb166, 4, none⟩ = some (.int .i64 a1_4) ∧ w'.cell? ⟨gb166, 5, none⟩ = some (.slice A1_5 l1_5.length c1_5) ∧ w'.cell? ⟨gb166, 6, none⟩ = some (.bool a1_6) ∧ w'.cell? ⟨gb166, 7, none⟩ = some (.int .i64 a1_7) ∧ w'.cell? ⟨gb166, 8, none⟩ = some (.slice A1_8 l1_8.length c1_8)) (ds := []) #[false, false, false, false, false, false, false, false, false] (by kernel_rfl) rfl rfl ⟨(blk_cell BK166.out 0).trans rfl, (blk_cell BK166.out 1).trans rfl, (blk_cell BK166.out 2).trans rfl, (blk_cell BK166.out 3).trans rfl, (blk_cell BK166.out 4).trans rfl, (blk_cell BK166.out 5).trans rfl, (blk_cell BK166.out 6).trans rfl, (blk_cell BK166.out 7).trans rfl, (blk_cell BK166.out 8).trans rfl⟩ (fun hHeld => ?_); refine with_tabW subframe_Bits.tab5 subframe_Bits.bits5 (fun HT_ HW_ => ?_)
    generalize w12.drew = w13 at HO170 BK166 HB hHeld ⊢
    refine pure_ (i := 0) (N := some 27) (v := ?_) (a' := ?_) #[true, false, false, false, false, false, false, false, false] rfl rfl (any_of HT_.out (by kernel_rfl)) (fun _ _ _ h => h) (Or.inl ⟨by rfl, ?_⟩) ?_ ?_
    rotate_left
    · intro w'
      go_simp
      with_reducible rfl
    rotate_left
    · simp only [Act.put, List.setIfInBounds_toArray, List.set_cons_zero, List.set_cons_succ, i64_w, i32_w]
      rfl
    refine pure_ (i := 3) (N := some 30) (v := ?_) (a' := ?_) #[true, false, false, true, false, false, false, false, false] rfl rfl (any_of HT_.out (by kernel_rfl)) (fun _ _ _ h => h) (Or.inl ⟨by rfl, ?_⟩) ?_ ?_
    rotate_left
    · intro w'
      go_simp
      with_reducible rfl
    rotate_left
    · simp only [Act.put, List.setIfInBounds_toArray, List.set_cons_zero, List.set_cons_succ, i64_w, i32_w]
      rfl
    refine pure_ (i := 4) (N := some 31) (v := ?_) (a' := ?_) #[true, false, false, true, true, false, false, false, false] rfl rfl (any_of HT_.out (by kernel_rfl)) (fun _ _ _ h => h) (Or.inl ⟨by rfl, ?_⟩) ?_ ?_
    rotate_left
    · intro w'
      go_simp
      with_reducible rfl
    rotate_left
    · simp only [Act.put, List.setIfInBounds_toArray, List.set_cons_zero, List.set_cons_succ, i64_w, i32_w]
      rfl
    refine take_ (i := 1) (N := some 28) (v := ?_) (a' := ?_) #[true, true, false, true, true, false, false, false, false] rfl rfl (take_ofW HT_.out HW_.out (by kernel_rfl)) (fun _ _ _ h => h) (Or.inl ⟨by rfl, ?_⟩) hHeld ?_ ?_
    rotate_left
    · rintro w' ⟨s0, s1, s2, s3, s4, s5, s6, s7, s8⟩
      go_simp
      with_reducible rfl
    rotate_left
    · simp only [Act.put, List.setIfInBounds_toArray, List.set_cons_zero, List.set_cons_succ, i64_w, i32_w]
      rfl
    refine pure_ (i := 2) (N := some 29) (v := ?_) (a' := ?_) #[true, true, true, true, true, false, false, false, false] rfl rfl (any_of HT_.out (by kernel_rfl)) (fun _ _ _ h => h) (Or.inl ⟨by rfl, ?_⟩) ?_ ?_
    rotate_left
    · intro w'
      go_simp
      with_reducible rfl
    rotate_left
    · simp only [Act.put, List.setIfInBounds_toArray, List.set_cons_zero, List.set_cons_succ, i64_w, i32_w]
      rfl
    refine pure_ (i := 7) (N := some 11) (v := ?_) (a' := ?_) #[true, true, true, true, true, false, false, true, false] rfl rfl (any_of HT_.out (by kernel_rfl)) (fun _ _ _ h => h) (Or.inl ⟨by rfl, ?_⟩) ?_ ?_
    rotate_left
    · intro w'
      go_simp
      with_reducible rfl
    rotate_left
    · simp only [Act.put, List.setIfInBounds_toArray, List.set_cons_zero, List.set_cons_succ, i64_w, i32_w]
      rfl
    refine take_ (i := 5) (N := some 32) (v := ?_) (a' := ?_) #[true, true, true, true, true, true, false, true, false] rfl rfl (take_ofW HT_.out HW_.out (by kernel_rfl)) (fun _ _ _ h => h) (Or.inl ⟨by rfl, ?_⟩) hHeld ?_ ?_
    rotate_left
    · rintro w' ⟨s0, s1, s2, s3, s4, s5, s6, s7, s8⟩
      go_simp
      with_reducible rfl
    rotate_left
    · simp only [Act.put, List.setIfInBounds_toArray, List.set_cons_zero, List.set_cons_succ, i64_w, i32_w]
      rfl
    refine pure_ (i := 6) (N := some 33) (v := ?_) (a' := ?_) #[true, true, true, true, true, true, true, true, false] rfl rfl (any_of HT_.out (by kernel_rfl)) (fun _ _ _ h => h) (Or.inl ⟨by rfl, ?_⟩) ?_ ?_
    rotate_left
    · intro w'
      go_simp
      with_reducible rfl
    rotate_left
    · simp only [Act.put, List.setIfInBounds_toArray, List.set_cons_zero, List.set_cons_succ, i64_w, i32_w]
      rfl
    refine pure_ (i := 8) (N := some 12) (v := ?_) (a' := ?_) #[true, true, true, true, true, true, true, true, true] rfl rfl (any_of HT_.out (by kernel_rfl)) (fun _ _ _ h => h) (Or.inl ⟨by rfl, ?_⟩) ?_ ?_
    rotate_left
    · intro w'
      go_simp
      with_reducible rfl
    rotate_left
    · simp only [Act.put, List.setIfInBounds_toArray, List.set_cons_zero, List.set_cons_succ, i64_w, i32_w]
      rfl
    refine done_ (done_of HT_.out (by kernel_rfl)) ?_
    have hcz14_0 : w13.cell? ⟨gb166, 0, none⟩ = some (.int .i64 a1_0) := (blk_cell BK166.out 0).trans rfl
    have hcz14_1 : w13.cell? ⟨gb166, 1, none⟩ = some (.int .i64 a1_1) := (blk_cell BK166.out 1).trans rfl
    have hcz14_2 : w13.cell? ⟨gb166, 2, none⟩ = some (.int .i64 a1_2) := (blk_cell BK166.out 2).trans rfl
    have hcz14_3 : w13.cell? ⟨gb166, 3, none⟩ = some (.int .i64 a1_3) := (blk_cell BK166.out 3).trans rfl
    have hcz14_4 : w13.cell? ⟨gb166, 4, none⟩ = some (.int .i64 a1_4) := (blk_cell BK166.out 4).trans rfl
    have hcz14_5 : w13.cell? ⟨gb166, 5, none⟩ = some (.slice A1_5 l1_5.length c1_5) := (blk_cell BK166.out 5).trans rfl
    have hcz14_6 : w13.cell? ⟨gb166, 6, none⟩ = some (.bool a1_6) := (blk_cell BK166.out 6).trans rfl
    have hcz14_7 : w13.cell? ⟨gb166, 7, none⟩ = some (.int .i64 a1_7) := (blk_cell BK166.out 7).trans rfl
    have hcz14_8 : w13.cell? ⟨gb166, 8, none⟩ = some (.slice A1_8 l1_8.length c1_8) := (blk_cell BK166.out 8).trans rfl
    have hfz14_0 := blk_frozen BK166.out 0
    have hfz14_1 := blk_frozen BK166.out 1
    have hfz14_2 := blk_frozen BK166.out 2
    have hfz14_3 := blk_frozen BK166.out 3
    have hfz14_4 := blk_frozen BK166.out 4
    have hfz14_5 := blk_frozen BK166.out 5
    have hfz14_6 := blk_frozen BK166.out 6
    have hfz14_7 := blk_frozen BK166.out 7
    have hfz14_8 := blk_frozen BK166.out 8
    go_upto_block 0 with (fail)
    go_cut [11] (fun v11 wc => ∃ (kq : Nat) (x11_6 : Int), v11 = .int .i64 x11_6 ∧ Aside0 (subframe_Bits.j0 kq t168 x11_6 a1_0 a1_1 a1_2 a1_3 a1_4 l1_5 a1_6 a1_7 l1_8 = some (r1, r2)) ∧ Aside0 (kq ≤ k) ∧ Aside0 (Kd.R (Kd.int .i64) 3 wc w.heap.size (fun _ => True) v169 t168) ∧ Aside0 (wc.heap[gb166]? = some (.cells #[.int .i64 a1_0, .int .i64 a1_1, .int .i64 a1_2, .int .i64 a1_3, .int .i64 a1_4, (.slice A1_5 l1_5.length c1_5), .bool a1_6, .int .i64 a1_7, (.slice A1_8 l1_8.length c1_8)] 87 (0, 0))) ∧ Aside0 (Below w.heap.size w wc))
    case first =>
      have H := HC7.out
      clear HC7
      by_cases c15 : a1_0 = 0
      · rw [if_pos c15] at H
        have c15b0 : (a1_0 == 0) = true := beq_iff_eq.mpr c15
        have c15b1 : (a1_0 != 0) = false := bne_eq_false_iff_eq.mpr c15
        clear c15
        (first | rw [c15b0] | (simp only [i64_w, i32_w]; rw [c15b0]) | skip)
        replace H := Option.bind_eq_some_iff.mp H
        obtain ⟨t174, A160, H⟩ := H
        replace H : ((slices_Compact_int_int.f t174).bind fun t177 => (if (t177.length : Int) > 1 then (some (0, 5)) else (some (wrap64 ((wrap64 (8 + a1_1)) + (wrap64 (a2 - a1_1))), 0)))) = some (r1, r2) := H
        have A16 := Aside0.mk A160
        clear A160
        replace H := Option.bind_eq_some_iff.mp H
        obtain ⟨t177, A170, H⟩ := H
        replace H : (if (t177.length : Int) > 1 then (some (0, 5)) else (some (wrap64 ((wrap64 (8 + a1_1)) + (wrap64 (a2 - a1_1))), 0))) = some (r1, r2) := H
        have A17 := Aside0.mk A170
        clear A170
        by_cases c18 : (t177.length : Int) > 1
        · rw [if_pos c18] at H
          have c18b0 : decide (1 < (t177.length : Int)) = true := decide_eq_true c18
          have c18b1 : decide (1 < t177.length) = true := decide_eq_true (by omega)
          clear c18
          simp only [Option.some.injEq, Prod.mk.injEq] at H
          obtain ⟨rfl, rfl⟩ := H
          go_wp2_with (first | ((with_reducible refine gate_callee (f := 79) rfl ?_); refine goesL_ (some 45) rfl rfl Try.func79 (by kernel_rfl) rfl #[.slice A0 l0.length c0] rfl (by (try simp only [List.map_toArray, List.map_cons, List.map_nil]); first | done | rfl | (simp only [List.length_drop, List.length_take]; rfl)) ?_; (with_reducible refine (slices_Clone_int_int.calls _ _ l0 t174 _ ?side1 ?side2 A16.out).mono ?_); (case side1 => repeat (first | exact (Kd.C_below HR0.out HB.out) | (with_reducible refine Kd.C_alloc ?_ _) | (with_reducible refine Kd.C_drewN ?_ _) | (with_reducible refine Kd.C_drew ?_))); (case side2 => exact HC0.out); rintro e w19 ⟨v175, rfl, ho0, hb⟩; refine ⟨_, rfl, ?_⟩; have n0_ := Aside0.mk (Kd.R_elder' (by (with_reducible repeat (first | apply Kd.R_alloc | apply Kd.R_drewN | apply Kd.R_drew)); exact HO170.out) (Kd.R_base ho0) hb); have n1_ := Aside0.mk (Kd.R_lower (Kd.R_new' ho0 (Kd.R_lt (by (with_reducible repeat (first | apply Kd.R_alloc | apply Kd.R_drewN | apply Kd.R_drew)); exact HO170.out))) (below_size (by repeat (first | (with_reducible first | exact HB.out | apply below_alloc | apply pw_below_drewN | apply below_drew1 | refine below_set ?_ GE166.out) | exact HB.out)))); have n2_ := Aside0.mk (blk_below (g := gb166) (o := .cells #[.int .i64 a1_0, .int .i64 a1_1, .int .i64 a1_2, .int .i64 a1_3, .int .i64 a1_4, .slice A1_5 l1_5.length c1_5, .bool a1_6, .int .i64 a1_7, .slice A1_8 l1_8.length c1_8] 87 (0, 0)) (by (with_reducible repeat (first | refine blk_drewN ?_ _ | refine blk_drew ?_ | refine blk_alloc ?_ _)); exact BK166.out) hb); have n3_ := Aside0.mk (below_step (by repeat (first | (with_reducible first | exact HB.out | apply below_alloc | apply pw_below_drewN | apply below_drew1 | refine below_set ?_ GE166.out) | exact HB.out)) hb); clear HO170; clear BK166; clear HB; have HO170 := n0_; have HO176 := n1_; have BK166 := n2_; have HB := n3_; clear n0_ n1_ n2_ n3_; (try clear hb); (try clear hb2); (try clear hk); (try clear hi); (try clear ho0); obtain ⟨Ao20, co20, eo20⟩ := Kd.R_slice HO176.out; subst eo20) | ((with_reducible refine gate_callee (f := 78) rfl ?_); refine goesL_ (some 46) rfl rfl Try.func78 (by kernel_rfl) rfl #[.slice Ao20 t174.length co20] rfl (by (try simp only [List.map_toArray, List.map_cons, List.map_nil]); first | done | rfl | (simp only [List.length_drop, List.length_take]; rfl)) ?_; (with_reducible refine (slices_Compact_int_int.calls _ _ t174 t177 _ ?side1 ?side2 A17.out).mono ?_); (case side1 => repeat (first | exact (Kd.R_reads' HO176.out).2.2 | (with_reducible refine Kd.C_alloc ?_ _) | (with_reducible refine Kd.C_drewN ?_ _) | (with_reducible refine Kd.C_drew ?_))); (case side2 => exact (Kd.R_reads' HO176.out).2.1); rintro e w21 ⟨v178, rfl, ho0, hb⟩; refine ⟨_, rfl, ?_⟩; have n0_ := Aside0.mk (Kd.R_elder' (by (with_reducible repeat (first | apply Kd.R_alloc | apply Kd.R_drewN | apply Kd.R_drew)); exact HO170.out) (Kd.R_base ho0) hb); have n1_ := Aside0.mk (Kd.R_elder' (by (with_reducible repeat (first | apply Kd.R_alloc | apply Kd.R_drewN | apply Kd.R_drew)); exact HO176.out) (Kd.R_base ho0) hb); have n2_ := Aside0.mk (Kd.R_lower (Kd.R_new' (Kd.R_new' ho0 (Kd.R_lt (by (with_reducible repeat (first | apply Kd.R_alloc | apply Kd.R_drewN | apply Kd.R_drew)); exact HO170.out))) (Kd.R_lt (by (with_reducible repeat (first | apply Kd.R_alloc | apply Kd.R_drewN | apply Kd.R_drew)); exact HO176.out))) (below_size (by repeat (first | (with_reducible first | exact HB.out | apply below_alloc | apply pw_below_drewN | apply below_drew1 | refine below_set ?_ GE166.out) | exact HB.out)))); have n3_ := Aside0.mk (blk_below (g := gb166) (o := .cells #[.int .i64 a1_0, .int .i64 a1_1, .int .i64 a1_2, .int .i64 a1_3, .int .i64 a1_4, .slice A1_5 l1_5.length c1_5, .bool a1_6, .int .i64 a1_7, .slice A1_8 l1_8.length c1_8] 87 (0, 0)) (by (with_reducible repeat (first | refine blk_drewN ?_ _ | refine blk_drew ?_ | refine blk_alloc ?_ _)); exact BK166.out) hb); have n4_ := Aside0.mk (below_step (by repeat (first | (with_reducible first | exact HB.out | apply below_alloc | apply pw_below_drewN | apply below_drew1 | refine below_set ?_ GE166.out) | exact HB.out)) hb); clear HO170; clear HO176; clear BK166; clear HB; have HO170 := n0_; have HO176 := n1_; have HO179 := n2_; have BK166 := n3_; have HB := n4_; clear n0_ n1_ n2_ n3_ n4_; (try clear hb); (try clear hb2); (try clear hk); (try clear hi); (try clear ho0); obtain ⟨Ao22, co22, eo22⟩ := Kd.R_slice HO179.out; subst eo22))
          go_ret2
          exact ⟨by first | rfl | (simp [errW_none, errW_some] <;> rfl) | (simp [*, errW_none, errW_some] <;> rfl), by repeat (first | (with_reducible first | exact HB.out | apply below_alloc | apply pw_below_drewN | apply below_drew1 | refine below_set ?_ GE166.out) | exact HB.out)⟩
        · rw [if_neg c18] at H
          have c18b0 : decide (1 < (t177.length : Int)) = false := decide_eq_false c18
          have c18b1 : decide (1 < t177.length) = false := decide_eq_false (by omega)
          clear c18
          simp only [Option.some.injEq, Prod.mk.injEq] at H
          obtain ⟨rfl, rfl⟩ := H
          go_wp2_with (first | ((with_reducible refine gate_callee (f := 79) rfl ?_); refine goesL_ (some 45) rfl rfl Try.func79 (by kernel_rfl) rfl #[.slice A0 l0.length c0] rfl (by (try simp only [List.map_toArray, List.map_cons, List.map_nil]); first | done | rfl | (simp only [List.length_drop, List.length_take]; rfl)) ?_; (with_reducible refine (slices_Clone_int_int.calls _ _ l0 t174 _ ?side1 ?side2 A16.out).mono ?_); (case side1 => repeat (first | exact (Kd.C_below HR0.out HB.out) | (with_reducible refine Kd.C_alloc ?_ _) | (with_reducible refine Kd.C_drewN ?_ _) | (with_reducible refine Kd.C_drew ?_))); (case side2 => exact HC0.out); rintro e w23 ⟨v175, rfl, ho0, hb⟩; refine ⟨_, rfl, ?_⟩; have n0_ := Aside0.mk (Kd.R_elder' (by (with_reducible repeat (first | apply Kd.R_alloc | apply Kd.R_drewN | apply Kd.R_drew)); exact HO170.out) (Kd.R_base ho0) hb); have n1_ := Aside0.mk (Kd.R_lower (Kd.R_new' ho0 (Kd.R_lt (by (with_reducible repeat (first | apply Kd.R_alloc | apply Kd.R_drewN | apply Kd.R_drew)); exact HO170.out))) (below_size (by repeat (first | (with_reducible first | exact HB.out | apply below_alloc | apply pw_below_drewN | apply below_drew1 | refine below_set ?_ GE166.out) | exact HB.out)))); have n2_ := Aside0.mk (blk_below (g := gb166) (o := .cells #[.int .i64 a1_0, .int .i64 a1_1, .int .i64 a1_2, .int .i64 a1_3, .int .i64 a1_4, .slice A1_5 l1_5.length c1_5, .bool a1_6, .int .i64 a1_7, .slice A1_8 l1_8.length c1_8] 87 (0, 0)) (by (with_reducible repeat (first | refine blk_drewN ?_ _ | refine blk_drew ?_ | refine blk_alloc ?_ _)); exact BK166.out) hb); have n3_ := Aside0.mk (below_step (by repeat (first | (with_reducible first | exact HB.out | apply below_alloc | apply pw_below_drewN | apply below_drew1 | refine below_set ?_ GE166.out) | exact HB.out)) hb); clear HO170; clear BK166; clear HB; have HO170 := n0_; have HO176 := n1_; have BK166 := n2_; have HB := n3_; clear n0_ n1_ n2_ n3_; (try clear hb); (try clear hb2); (try clear hk); (try clear hi); (try clear ho0); obtain ⟨Ao24, co24, eo24⟩ := Kd.R_slice HO176.out; subst eo24) | ((with_reducible refine gate_callee (f := 78) rfl ?_); refine goesL_ (some 46) rfl rfl Try.func78 (by kernel_rfl) rfl #[.slice Ao24 t174.length co24] rfl (by (try simp only [List.map_toArray, List.map_cons, List.map_nil]); first | done | rfl | (simp only [List.length_drop, List.length_take]; rfl)) ?_; (with_reducible refine (slices_Compact_int_int.calls _ _ t174 t177 _ ?side1 ?side2 A17.out).mono ?_); (case side1 => repeat (first | exact (Kd.R_reads' HO176.out).2.2 | (with_reducible refine Kd.C_alloc ?_ _) | (with_reducible refine Kd.C_drewN ?_ _) | (with_reducible refine Kd.C_drew ?_))); (case side2 => exact (Kd.R_reads' HO176.out).2.1); rintro e w25 ⟨v178, rfl, ho0, hb⟩; refine ⟨_, rfl, ?_⟩; have n0_ := Aside0.mk (Kd.R_elder' (by (with_reducible repeat (first | apply Kd.R_alloc | apply Kd.R_drewN | apply Kd.R_drew)); exact HO170.out) (Kd.R_base ho0) hb); have n1_ := Aside0.mk (Kd.R_elder' (by (with_reducible repeat (first | apply Kd.R_alloc | apply Kd.R_drewN | apply Kd.R_drew)); exact HO176.out) (Kd.R_base ho0) hb); have n2_ := Aside0.mk (Kd.R_lower (Kd.R_new' (Kd.R_new' ho0 (Kd.R_lt (by (with_reducible repeat (first | apply Kd.R_alloc | apply Kd.R_drewN | apply Kd.R_drew)); exact HO170.out))) (Kd.R_lt (by (with_reducible repeat (first | apply Kd.R_alloc | apply Kd.R_drewN | apply Kd.R_drew)); exact HO176.out))) (below_size (by repeat (first | (with_reducible first | exact HB.out | apply below_alloc | apply pw_below_drewN | apply below_drew1 | refine below_set ?_ GE166.out) | exact HB.out)))); have n3_ := Aside0.mk (blk_below (g := gb166) (o := .cells #[.int .i64 a1_0, .int .i64 a1_1, .int .i64 a1_2, .int .i64 a1_3, .int .i64 a1_4, .slice A1_5 l1_5.length c1_5, .bool a1_6, .int .i64 a1_7, .slice A1_8 l1_8.length c1_8] 87 (0, 0)) (by (with_reducible repeat (first | refine blk_drewN ?_ _ | refine blk_drew ?_ | refine blk_alloc ?_ _)); exact BK166.out) hb); have n4_ := Aside0.mk (below_step (by repeat (first | (with_reducible first | exact HB.out | apply below_alloc | apply pw_below_drewN | apply below_drew1 | refine below_set ?_ GE166.out) | exact HB.out)) hb); clear HO170; clear HO176; clear BK166; clear HB; have HO170 := n0_; have HO176 := n1_; have HO179 := n2_; have BK166 := n3_; have HB := n4_; clear n0_ n1_ n2_ n3_ n4_; (try clear hb); (try clear hb2); (try clear hk); (try clear hi); (try clear ho0); obtain ⟨Ao26, co26, eo26⟩ := Kd.R_slice HO179.out; subst eo26))
          go_ret2
          exact ⟨by first | rfl | (simp [errW_none, errW_some] <;> rfl) | (simp [*, errW_none, errW_some] <;> rfl), by repeat (first | (with_reducible first | exact HB.out | apply below_alloc | apply pw_below_drewN | apply below_drew1 | refine below_set ?_ GE166.out) | exact HB.out)⟩
      · rw [if_neg c15] at H
        have c15b0 : (a1_0 == 0) = false := beq_eq_false_iff_ne.mpr c15
        have c15b1 : (a1_0 != 0) = true := bne_iff_ne.mpr c15
        (first | rw [c15b0] | (simp only [i64_w, i32_w]; rw [c15b0]) | skip)
        by_cases c27 : a1_0 = 1
        · rw [if_pos c27] at H
          have c27b0 : (a1_0 == 1) = true := beq_iff_eq.mpr c27
          have c27b1 : (a1_0 != 1) = false := bne_eq_false_iff_eq.mpr c27
          clear c27
          simp only [Option.some.injEq, Prod.mk.injEq] at H
          obtain ⟨rfl, rfl⟩ := H
          go_wp2
          go_ret2
          exact ⟨by first | rfl | (simp [errW_none, errW_some] <;> rfl) | (simp [*, errW_none, errW_some] <;> rfl), by repeat (first | (with_reducible first | exact HB.out | apply below_alloc | apply pw_below_drewN | apply below_drew1 | refine below_set ?_ GE166.out) | exact HB.out)⟩
        · rw [if_neg c27] at H
          have c27b0 : (a1_0 == 1) = false := beq_eq_false_iff_ne.mpr c27
          have c27b1 : (a1_0 != 1) = true := bne_iff_ne.mpr c27
          by_cases c28 : a1_0 = 3
          · rw [if_pos c28] at H
            have c28b0 : (a1_0 == 3) = true := beq_iff_eq.mpr c28
            have c28b1 : (a1_0 != 3) = false := bne_eq_false_iff_eq.mpr c28
            clear c28
            by_cases c29 : t171 = 0
            · rw [if_pos c29] at H
              have c29b0 : (t171 == 0) = true := beq_iff_eq.mpr c29
              have c29b1 : (t171 != 0) = false := bne_eq_false_iff_eq.mpr c29
              clear c29
              replace H := Option.bind_eq_some_iff.mp H
              obtain ⟨t172, A300, H⟩ := H
              replace H : (subframe_Bits.j0 k t168 (wrap64 ((wrap64 ((wrap64 (8 + a1_1)) + (wrap64 (9 + (wrap64 (a1_4 * (l1_5.length : Int))))))) + (wrap64 ((wrap64 (a2 - a1_1)) * t172)))) a1_0 a1_1 a1_2 a1_3 a1_4 l1_5 a1_6 a1_7 l1_8) = some (r1, r2) := H
              have A30 := Aside0.mk A300
              clear A300
              have H' := Aside0.mk H
              clear H
              have hcz31_0 : w13.cell? ⟨gb166, 0, none⟩ = some (.int .i64 a1_0) := (blk_cell BK166.out 0).trans rfl
              have hcz31_1 : w13.cell? ⟨gb166, 1, none⟩ = some (.int .i64 a1_1) := (blk_cell BK166.out 1).trans rfl
              have hcz31_2 : w13.cell? ⟨gb166, 2, none⟩ = some (.int .i64 a1_2) := (blk_cell BK166.out 2).trans rfl
              have hcz31_3 : w13.cell? ⟨gb166, 3, none⟩ = some (.int .i64 a1_3) := (blk_cell BK166.out 3).trans rfl
              have hcz31_4 : w13.cell? ⟨gb166, 4, none⟩ = some (.int .i64 a1_4) := (blk_cell BK166.out 4).trans rfl
              have hcz31_5 : w13.cell? ⟨gb166, 5, none⟩ = some (.slice A1_5 l1_5.length c1_5) := (blk_cell BK166.out 5).trans rfl
              have hcz31_6 : w13.cell? ⟨gb166, 6, none⟩ = some (.bool a1_6) := (blk_cell BK166.out 6).trans rfl
              have hcz31_7 : w13.cell? ⟨gb166, 7, none⟩ = some (.int .i64 a1_7) := (blk_cell BK166.out 7).trans rfl
              have hcz31_8 : w13.cell? ⟨gb166, 8, none⟩ = some (.slice A1_8 l1_8.length c1_8) := (blk_cell BK166.out 8).trans rfl
              have hfz31_0 := blk_frozen BK166.out 0
              have hfz31_1 := blk_frozen BK166.out 1
              have hfz31_2 := blk_frozen BK166.out 2
              have hfz31_3 := blk_frozen BK166.out 3
              have hfz31_4 := blk_frozen BK166.out 4
              have hfz31_5 := blk_frozen BK166.out 5
              have hfz31_6 := blk_frozen BK166.out 6
              have hfz31_7 := blk_frozen BK166.out 7
              have hfz31_8 := blk_frozen BK166.out 8
              go_wp2_with (first | ((with_reducible refine gate_callee (f := 80) rfl ?_); refine goesL_ (some 75) rfl rfl Try.func80 (by kernel_rfl) rfl #[.agg #[.int .i64 a1_0, .int .i64 a1_1, .int .i64 a1_2, .int .i64 a1_3, .int .i64 a1_4, .slice A1_5 l1_5.length c1_5, .bool a1_6, .int .i64 a1_7, .slice A1_8 l1_8.length c1_8]] rfl (by (try simp only [List.map_toArray, List.map_cons, List.map_nil]); first | done | rfl | (simp only [List.length_drop, List.length_take]; rfl)) ?_; (with_reducible refine (subframe_order.calls a1_0 a1_1 a1_2 a1_3 a1_4 _ _ l1_5 a1_6 a1_7 _ _ l1_8 t172 _ ?side1 ?side2 ?side3 ?side4 A30.out).mono ?_); (case side1 => repeat (first | exact (Kd.C_below HR1_5.out HB.out) | (with_reducible refine Kd.C_alloc ?_ _) | (with_reducible refine Kd.C_drewN ?_ _) | (with_reducible refine Kd.C_drew ?_))); (case side2 => exact HC1_5.out); (case side3 => repeat (first | exact (Kd.C_below HR1_8.out HB.out) | (with_reducible refine Kd.C_alloc ?_ _) | (with_reducible refine Kd.C_drewN ?_ _) | (with_reducible refine Kd.C_drew ?_))); (case side4 => exact HC1_8.out); rintro e w32 ⟨rfl, hb⟩; refine ⟨_, rfl, ?_⟩; have n0_ := Aside0.mk (Kd.R_below (by (with_reducible repeat (first | apply Kd.R_alloc | apply Kd.R_drewN | apply Kd.R_drew)); exact HO170.out) hb); have n1_ := Aside0.mk (blk_below (g := gb166) (o := .cells #[.int .i64 a1_0, .int .i64 a1_1, .int .i64 a1_2, .int .i64 a1_3, .int .i64 a1_4, .slice A1_5 l1_5.length c1_5, .bool a1_6, .int .i64 a1_7, .slice A1_8 l1_8.length c1_8] 87 (0, 0)) (by (with_reducible repeat (first | refine blk_drewN ?_ _ | refine blk_drew ?_ | refine blk_alloc ?_ _)); exact BK166.out) hb); have n2_ := Aside0.mk (below_step (by repeat (first | (with_reducible first | exact HB.out | apply below_alloc | apply pw_below_drewN | apply below_drew1 | refine below_set ?_ GE166.out) | exact HB.out)) hb); clear HO170; clear BK166; clear HB; have HO170 := n0_; have BK166 := n1_; have HB := n2_; clear n0_ n1_ n2_; (try clear hb); (try clear hb2); (try clear hk); (try clear hi)))
              go_meet
              case rel => exact ⟨_, (wrap64 ((wrap64 ((wrap64 (8 + a1_1)) + (wrap64 (9 + (wrap64 (a1_4 * (l1_5.length : Int))))))) + (wrap64 ((wrap64 (a2 - a1_1)) * t172)))), (by first | rfl | (simp; done) | (simp [*]; done)), H', ⟨by first | omega | exact Nat.le_refl _⟩, ⟨by (with_reducible repeat (first | apply Kd.R_alloc | apply Kd.R_drewN | apply Kd.R_drew)); exact HO170.out⟩, ⟨by (with_reducible repeat (first | refine blk_drewN ?_ _ | refine blk_drew ?_ | refine blk_alloc ?_ _)); exact BK166.out⟩, ⟨by repeat (first | (with_reducible first | exact HB.out | apply below_alloc | apply pw_below_drewN | apply below_drew1 | refine below_set ?_ GE166.out) | exact HB.out)⟩⟩
            · rw [if_neg c29] at H
              have c29b0 : (t171 == 0) = false := beq_eq_false_iff_ne.mpr c29
              have c29b1 : (t171 != 0) = true := bne_iff_ne.mpr c29
              simp only [Option.some.injEq, Prod.mk.injEq] at H
              obtain ⟨rfl, rfl⟩ := H
              have hcz33_0 : w13.cell? ⟨gb166, 0, none⟩ = some (.int .i64 a1_0) := (blk_cell BK166.out 0).trans rfl
              have hcz33_1 : w13.cell? ⟨gb166, 1, none⟩ = some (.int .i64 a1_1) := (blk_cell BK166.out 1).trans rfl
              have hcz33_2 : w13.cell? ⟨gb166, 2, none⟩ = some (.int .i64 a1_2) := (blk_cell BK166.out 2).trans rfl
              have hcz33_3 : w13.cell? ⟨gb166, 3, none⟩ = some (.int .i64 a1_3) := (blk_cell BK166.out 3).trans rfl
              have hcz33_4 : w13.cell? ⟨gb166, 4, none⟩ = some (.int .i64 a1_4) := (blk_cell BK166.out 4).trans rfl
              have hcz33_5 : w13.cell? ⟨gb166, 5, none⟩ = some (.slice A1_5 l1_5.length c1_5) := (blk_cell BK166.out 5).trans rfl
              have hcz33_6 : w13.cell? ⟨gb166, 6, none⟩ = some (.bool a1_6) := (blk_cell BK166.out 6).trans rfl
              have hcz33_7 : w13.cell? ⟨gb166, 7, none⟩ = some (.int .i64 a1_7) := (blk_cell BK166.out 7).trans rfl
              have hcz33_8 : w13.cell? ⟨gb166, 8, none⟩ = some (.slice A1_8 l1_8.length c1_8) := (blk_cell BK166.out 8).trans rfl
              have hfz33_0 := blk_frozen BK166.out 0
              have hfz33_1 := blk_frozen BK166.out 1
              have hfz33_2 := blk_frozen BK166.out 2
              have hfz33_3 := blk_frozen BK166.out 3
              have hfz33_4 := blk_frozen BK166.out 4
              have hfz33_5 := blk_frozen BK166.out 5
              have hfz33_6 := blk_frozen BK166.out 6
              have hfz33_7 := blk_frozen BK166.out 7
              have hfz33_8 := blk_frozen BK166.out 8
              go_wp2
              go_ret2
              exact ⟨by first | rfl | (simp [errW_none, errW_some] <;> rfl) | (simp [*, errW_none, errW_some] <;> rfl), by repeat (first | (with_reducible first | exact HB.out | apply below_alloc | apply pw_below_drewN | apply below_drew1 | refine below_set ?_ GE166.out) | exact HB.out)⟩
          · rw [if_neg c28] at H
            have c28b0 : (a1_0 == 3) = false := beq_eq_false_iff_ne.mpr c28
            have c28b1 : (a1_0 != 3) = true := bne_iff_ne.mpr c28
            by_cases c34 : a1_0 = 2
            · rw [if_pos c34] at H
              have c34b0 : (a1_0 == 2) = true := beq_iff_eq.mpr c34
              have c34b1 : (a1_0 != 2) = false := bne_eq_false_iff_eq.mpr c34
              clear c34
              by_cases c35 : t171 = 0
              · rw [if_pos c35] at H
                have c35b0 : (t171 == 0) = true := beq_iff_eq.mpr c35
                have c35b1 : (t171 != 0) = false := bne_eq_false_iff_eq.mpr c35
                clear c35
                replace H := Option.bind_eq_some_iff.mp H
                obtain ⟨t173, A360, H⟩ := H
                replace H : (subframe_Bits.j0 k t168 (wrap64 ((wrap64 (8 + a1_1)) + (wrap64 ((wrap64 (a2 - a1_1)) * t173)))) a1_0 a1_1 a1_2 a1_3 a1_4 l1_5 a1_6 a1_7 l1_8) = some (r1, r2) := H
                have A36 := Aside0.mk A360
                clear A360
                have H' := Aside0.mk H
                clear H
                have hcz37_0 : w13.cell? ⟨gb166, 0, none⟩ = some (.int .i64 a1_0) := (blk_cell BK166.out 0).trans rfl
                have hcz37_1 : w13.cell? ⟨gb166, 1, none⟩ = some (.int .i64 a1_1) := (blk_cell BK166.out 1).trans rfl
                have hcz37_2 : w13.cell? ⟨gb166, 2, none⟩ = some (.int .i64 a1_2) := (blk_cell BK166.out 2).trans rfl
                have hcz37_3 : w13.cell? ⟨gb166, 3, none⟩ = some (.int .i64 a1_3) := (blk_cell BK166.out 3).trans rfl
                have hcz37_4 : w13.cell? ⟨gb166, 4, none⟩ = some (.int .i64 a1_4) := (blk_cell BK166.out 4).trans rfl
                have hcz37_5 : w13.cell? ⟨gb166, 5, none⟩ = some (.slice A1_5 l1_5.length c1_5) := (blk_cell BK166.out 5).trans rfl
                have hcz37_6 : w13.cell? ⟨gb166, 6, none⟩ = some (.bool a1_6) := (blk_cell BK166.out 6).trans rfl
                have hcz37_7 : w13.cell? ⟨gb166, 7, none⟩ = some (.int .i64 a1_7) := (blk_cell BK166.out 7).trans rfl
                have hcz37_8 : w13.cell? ⟨gb166, 8, none⟩ = some (.slice A1_8 l1_8.length c1_8) := (blk_cell BK166.out 8).trans rfl
                have hfz37_0 := blk_frozen BK166.out 0
                have hfz37_1 := blk_frozen BK166.out 1
                have hfz37_2 := blk_frozen BK166.out 2
                have hfz37_3 := blk_frozen BK166.out 3
                have hfz37_4 := blk_frozen BK166.out 4
                have hfz37_5 := blk_frozen BK166.out 5
                have hfz37_6 := blk_frozen BK166.out 6
                have hfz37_7 := blk_frozen BK166.out 7
                have hfz37_8 := blk_frozen BK166.out 8
                go_wp2_with (first | ((with_reducible refine gate_callee (f := 80) rfl ?_); refine goesL_ (some 75) rfl rfl Try.func80 (by kernel_rfl) rfl #[.agg #[.int .i64 a1_0, .int .i64 a1_1, .int .i64 a1_2, .int .i64 a1_3, .int .i64 a1_4, .slice A1_5 l1_5.length c1_5, .bool a1_6, .int .i64 a1_7, .slice A1_8 l1_8.length c1_8]] rfl (by (try simp only [List.map_toArray, List.map_cons, List.map_nil]); first | done | rfl | (simp only [List.length_drop, List.length_take]; rfl)) ?_; (with_reducible refine (subframe_order.calls a1_0 a1_1 a1_2 a1_3 a1_4 _ _ l1_5 a1_6 a1_7 _ _ l1_8 t173 _ ?side1 ?side2 ?side3 ?side4 A36.out).mono ?_); (case side1 => repeat (first | exact (Kd.C_below HR1_5.out HB.out) | (with_reducible refine Kd.C_alloc ?_ _) | (with_reducible refine Kd.C_drewN ?_ _) | (with_reducible refine Kd.C_drew ?_))); (case side2 => exact HC1_5.out); (case side3 => repeat (first | exact (Kd.C_below HR1_8.out HB.out) | (with_reducible refine Kd.C_alloc ?_ _) | (with_reducible refine Kd.C_drewN ?_ _) | (with_reducible refine Kd.C_drew ?_))); (case side4 => exact HC1_8.out); rintro e w38 ⟨rfl, hb⟩; refine ⟨_, rfl, ?_⟩; have n0_ := Aside0.mk (Kd.R_below (by (with_reducible repeat (first | apply Kd.R_alloc | apply Kd.R_drewN | apply Kd.R_drew)); exact HO170.out) hb); have n1_ := Aside0.mk (blk_below (g := gb166) (o := .cells #[.int .i64 a1_0, .int .i64 a1_1, .int .i64 a1_2, .int .i64 a1_3, .int .i64 a1_4, .slice A1_5 l1_5.length c1_5, .bool a1_6, .int .i64 a1_7, .slice A1_8 l1_8.length c1_8] 87 (0, 0)) (by (with_reducible repeat (first | refine blk_drewN ?_ _ | refine blk_drew ?_ | refine blk_alloc ?_ _)); exact BK166.out) hb); have n2_ := Aside0.mk (below_step (by repeat (first | (with_reducible first | exact HB.out | apply below_alloc | apply pw_below_drewN | apply below_drew1 | refine below_set ?_ GE166.out) | exact HB.out)) hb); clear HO170; clear BK166; clear HB; have HO170 := n0_; have BK166 := n1_; have HB := n2_; clear n0_ n1_ n2_; (try clear hb); (try clear hb2); (try clear hk); (try clear hi)))
                go_meet
                case rel => exact ⟨_, (wrap64 ((wrap64 (8 + a1_1)) + (wrap64 ((wrap64 (a2 - a1_1)) * t173)))), (by first | rfl | (simp; done) | (simp [*]; done)), H', ⟨by first | omega | exact Nat.le_refl _⟩, ⟨by (with_reducible repeat (first | apply Kd.R_alloc | apply Kd.R_drewN | apply Kd.R_drew)); exact HO170.out⟩, ⟨by (with_reducible repeat (first | refine blk_drewN ?_ _ | refine blk_drew ?_ | refine blk_alloc ?_ _)); exact BK166.out⟩, ⟨by repeat (first | (with_reducible first | exact HB.out | apply below_alloc | apply pw_below_drewN | apply below_drew1 | refine below_set ?_ GE166.out) | exact HB.out)⟩⟩
              · rw [if_neg c35] at H
                have c35b0 : (t171 == 0) = false := beq_eq_false_iff_ne.mpr c35
                have c35b1 : (t171 != 0) = true := bne_iff_ne.mpr c35
                simp only [Option.some.injEq, Prod.mk.injEq] at H
                obtain ⟨rfl, rfl⟩ := H
                go_wp2
                go_ret2
                exact ⟨by first | rfl | (simp [errW_none, errW_some] <;> rfl) | (simp [*, errW_none, errW_some] <;> rfl), by repeat (first | (with_reducible first | exact HB.out | apply below_alloc | apply pw_below_drewN | apply below_drew1 | refine below_set ?_ GE166.out) | exact HB.out)⟩
            · rw [if_neg c34] at H
              have c34b0 : (a1_0 == 2) = false := beq_eq_false_iff_ne.mpr c34
              have c34b1 : (a1_0 != 2) = true := bne_iff_ne.mpr c34
              have H' := Aside0.mk H
              clear H
              go_wp2
              go_meet
              case rel => exact ⟨_, (wrap64 (8 + a1_1)), (by first | rfl | (simp; done) | (simp [*]; done)), H', ⟨by first | omega | exact Nat.le_refl _⟩, ⟨by (with_reducible repeat (first | apply Kd.R_alloc | apply Kd.R_drewN | apply Kd.R_drew)); exact HO170.out⟩, ⟨by (with_reducible repeat (first | refine blk_drewN ?_ _ | refine blk_drew ?_ | refine blk_alloc ?_ _)); exact BK166.out⟩, ⟨by repeat (first | (with_reducible first | exact HB.out | apply below_alloc | apply pw_below_drewN | apply below_drew1 | refine below_set ?_ GE166.out) | exact HB.out)⟩⟩
    case rest =>
      clear HC7
      try clear c1
      try clear c2
      try clear p2
      try clear c3
      try clear c4
      try clear c5
      try clear c5b0
      try clear c5b1
      try clear p6
      try clear c7
      try clear c8
      try clear c15
      try clear c15b0
      try clear c15b1
      try clear c18
      try clear c18b0
      try clear c18b1
      try clear c27
      try clear c27b0
      try clear c27b1
      try clear c28
      try clear c28b0
      try clear c28b1
      try clear c29
      try clear c29b0
      try clear c29b1
      try clear c34
      try clear c34b0
      try clear c34b1
      try clear c35
      try clear c35b0
      try clear c35b1
      try clear hcz11_0
      try clear hcz11_1
      try clear hcz11_2
      try clear hcz11_3
      try clear hcz11_4
      try clear hcz11_5
      try clear hcz11_6
      try clear hcz11_7
      try clear hcz11_8
      try clear hcz14_0
      try clear hcz14_1
      try clear hcz14_2
      try clear hcz14_3
      try clear hcz14_4
      try clear hcz14_5
      try clear hcz14_6
      try clear hcz14_7
      try clear hcz14_8
      try clear hcz31_0
      try clear hcz31_1
      try clear hcz31_2
      try clear hcz31_3
      try clear hcz31_4
      try clear hcz31_5
      try clear hcz31_6
      try clear hcz31_7
      try clear hcz31_8
      try clear hcz33_0
      try clear hcz33_1
      try clear hcz33_2
      try clear hcz33_3
      try clear hcz33_4
      try clear hcz33_5
      try clear hcz33_6
      try clear hcz33_7
      try clear hcz33_8
      try clear hcz37_0
      try clear hcz37_1
      try clear hcz37_2
      try clear hcz37_3
      try clear hcz37_4
      try clear hcz37_5
      try clear hcz37_6
      try clear hcz37_7
      try clear hcz37_8
      try clear hcz9_0
      try clear hcz9_1
      try clear hcz9_2
      try clear hcz9_3
      try clear hcz9_4
      try clear hcz9_5
      try clear hcz9_6
      try clear hcz9_7
      try clear hcz9_8
      try clear hfz11_0
      try clear hfz11_1
      try clear hfz11_2
      try clear hfz11_3
      try clear hfz11_4
      try clear hfz11_5
      try clear hfz11_6
      try clear hfz11_7
      try clear hfz11_8
      try clear hfz14_0
      try clear hfz14_1
      try clear hfz14_2
      try clear hfz14_3
      try clear hfz14_4
      try clear hfz14_5
      try clear hfz14_6
      try clear hfz14_7
      try clear hfz14_8
      try clear hfz31_0
      try clear hfz31_1
      try clear hfz31_2
      try clear hfz31_3
      try clear hfz31_4
      try clear hfz31_5
      try clear hfz31_6
      try clear hfz31_7
      try clear hfz31_8
      try clear hfz33_0
      try clear hfz33_1
      try clear hfz33_2
      try clear hfz33_3
      try clear hfz33_4
      try clear hfz33_5
      try clear hfz33_6
      try clear hfz33_7
      try clear hfz33_8
      try clear hfz37_0
      try clear hfz37_1
      try clear hfz37_2
      try clear hfz37_3
      try clear hfz37_4
      try clear hfz37_5
      try clear hfz37_6
      try clear hfz37_7
      try clear hfz37_8
      try clear hfz9_0
      try clear hfz9_1
      try clear hfz9_2
      try clear hfz9_3
      try clear hfz9_4
      try clear hfz9_5
      try clear hfz9_6
      try clear hfz9_7
      try clear hfz9_8
      obtain ⟨kq, x11_6, rfl, HA, HJ6, HO_9, BK166, HB⟩ := hcut
      cases kq with
      | zero => exact absurd HA.out (by simp [subframe_Bits.j0])
      | succ kj6 =>
        have H := HA.out
        clear HA
        simp only [subframe_Bits.j0] at H
        replace H := Option.bind_eq_some_iff.mp H
        obtain ⟨t180, A390, H⟩ := H
        replace H : ((parts_Bits.f kj6 t168 t180 a1_6 a1_7 l1_8).bind fun t181 => (if t181 < 0 then (some (0, 1)) else (some (wrap64 (x11_6 + t181), 0)))) = some (r1, r2) := H
        have A39 := Aside0.mk A390
        clear A390
        replace H := Option.bind_eq_some_iff.mp H
        obtain ⟨t181, A400, H⟩ := H
        replace H : (if t181 < 0 then (some (0, 1)) else (some (wrap64 (x11_6 + t181), 0))) = some (r1, r2) := H
        have A40 := Aside0.mk A400
        clear A400
        by_cases c41 : t181 < 0
        · rw [if_pos c41] at H
          have c41b0 : decide (t181 < 0) = true := decide_eq_true c41
          clear c41
          simp only [Option.some.injEq, Prod.mk.injEq] at H
          obtain ⟨rfl, rfl⟩ := H
          try go_wp2
          have n0_ := Aside0.mk (Kd.R_drew HO_9.out)
          have n1_ := Aside0.mk (blk_drew BK166.out)
          have n2_ := Aside0.mk (below_drew1 HB.out)
          clear HO_9
          clear BK166
          clear HB
          have HO_9 := n0_
          have BK166 := n1_
          have HB := n2_
          clear n0_ n1_ n2_
          refine start_ (n := 7) (S := fun w' => w'.cell? ⟨gb166, 0, none⟩ = some (.int .i64 a1_0) ∧ w'.cell? ⟨gb166, 1, none⟩ = some (.int .i64 a1_1) ∧ w'.cell? ⟨gb166, 2, none⟩ = some (.int .i64 a1_2) ∧ w'.cell? ⟨gb166, 3, none⟩ = some (.int .i64 a1_3) ∧ w'.cell? ⟨gb166, 4, none⟩ = some (.int .i64 a1_4) ∧ w'.cell? ⟨gb166, 5, none⟩ = some (.slice A1_5 l1_5.length c1_5) ∧ w'.cell? ⟨gb166, 6, none⟩ = some (.bool a1_6) ∧ w'.cell? ⟨gb166, 7, none⟩ = some (.int .i64 a1_7) ∧ w'.cell? ⟨gb166, 8, none⟩ = some (.slice A1_8 l1_8.length c1_8)) (ds := []) #[false, false, false, false, false, false, false] (by kernel_rfl) rfl rfl ⟨(blk_cell BK166.out 0).trans rfl, (blk_cell BK166.out 1).trans rfl, (blk_cell BK166.out 2).trans rfl, (blk_cell BK166.out 3).trans rfl, (blk_cell BK166.out 4).trans rfl, (blk_cell BK166.out 5).trans rfl, (blk_cell BK166.out 6).trans rfl, (blk_cell BK166.out 7).trans rfl, (blk_cell BK166.out 8).trans rfl⟩ (fun hHeld => ?_)
          generalize wc.drew = w42 at HO_9 BK166 HB hHeld ⊢
          refine pure_ (i := 0) (N := some 78) (v := ?_) (a' := ?_) #[true, false, false, false, false, false, false] rfl rfl (by kernel_rfl) (fun _ _ _ h => h) (Or.inl ⟨by rfl, ?_⟩) ?_ ?_
          rotate_left
          · intro w'
            go_simp
            with_reducible rfl
          rotate_left
          · simp only [Act.put, List.setIfInBounds_toArray, List.set_cons_zero, List.set_cons_succ, i64_w, i32_w]
            rfl
          refine pure_ (i := 3) (N := some 81) (v := ?_) (a' := ?_) #[true, false, false, true, false, false, false] rfl rfl (by kernel_rfl) (fun _ _ _ h => h) (Or.inl ⟨by rfl, ?_⟩) ?_ ?_
          rotate_left
          · intro w'
            go_simp
            with_reducible rfl
          rotate_left
          · simp only [Act.put, List.setIfInBounds_toArray, List.set_cons_zero, List.set_cons_succ, i64_w, i32_w]
            rfl
          refine take_ (i := 1) (N := some 79) (v := ?_) (a' := ?_) #[true, true, false, true, false, false, false] rfl rfl (by kernel_rfl) (fun _ _ _ h => h) (Or.inl ⟨by rfl, ?_⟩) hHeld ?_ ?_
          rotate_left
          · rintro w' ⟨s0, s1, s2, s3, s4, s5, s6, s7, s8⟩
            go_simp
            with_reducible rfl
          rotate_left
          · simp only [Act.put, List.setIfInBounds_toArray, List.set_cons_zero, List.set_cons_succ, i64_w, i32_w]
            rfl
          refine take_ (i := 4) (N := some 82) (v := ?_) (a' := ?_) #[true, true, false, true, true, false, false] rfl rfl (by kernel_rfl) (fun _ _ _ h => h) (Or.inl ⟨by rfl, ?_⟩) hHeld ?_ ?_
          rotate_left
          · rintro w' ⟨s0, s1, s2, s3, s4, s5, s6, s7, s8⟩
            go_simp
            with_reducible rfl
          rotate_left
          · simp only [Act.put, List.setIfInBounds_toArray, List.set_cons_zero, List.set_cons_succ, i64_w, i32_w]
            rfl
          refine one_ (i := 2) (N := some 80) #[true, true, true, true, true, false, false] rfl rfl (by kernel_rfl) (by decide) (fun K hK => ?_)
          refine goes_ Try.func80 (by kernel_rfl) rfl #[.agg #[.int .i64 a1_0, .int .i64 a1_1, .int .i64 a1_2, .int .i64 a1_3, .int .i64 a1_4, .slice A1_5 l1_5.length c1_5, .bool a1_6, .int .i64 a1_7, .slice A1_8 l1_8.length c1_8]] (by rfl) rfl rfl (by (try simp only [List.map_toArray, List.map_cons, List.map_nil]); first | done | rfl | (simp only [List.length_drop, List.length_take]; rfl)) ?_
          with_reducible refine (subframe_order.calls a1_0 a1_1 a1_2 a1_3 a1_4 _ _ l1_5 a1_6 a1_7 _ _ l1_8 t180 _ ?side1 ?side2 ?side3 ?side4 A39.out).mono ?_
          (case side1 => repeat (first | exact (Kd.C_below HR1_5.out HB.out) | (with_reducible refine Kd.C_alloc ?_ _) | (with_reducible refine Kd.C_drewN ?_ _) | (with_reducible refine Kd.C_drew ?_)))
          (case side2 => exact HC1_5.out)
          (case side3 => repeat (first | exact (Kd.C_below HR1_8.out HB.out) | (with_reducible refine Kd.C_alloc ?_ _) | (with_reducible refine Kd.C_drewN ?_ _) | (with_reducible refine Kd.C_drew ?_)))
          (case side4 => exact HC1_8.out)
          rintro e w43 ⟨rfl, hb⟩
          refine ⟨_, rfl, ?_⟩
          have n0_ := Aside0.mk (Kd.R_below (by (with_reducible repeat (first | apply Kd.R_alloc | apply Kd.R_drewN | apply Kd.R_drew)); exact HO_9.out) hb)
          have n1_ := Aside0.mk (blk_below (g := gb166) (o := .cells #[.int .i64 a1_0, .int .i64 a1_1, .int .i64 a1_2, .int .i64 a1_3, .int .i64 a1_4, .slice A1_5 l1_5.length c1_5, .bool a1_6, .int .i64 a1_7, .slice A1_8 l1_8.length c1_8] 87 (0, 0)) (by (with_reducible repeat (first | refine blk_drewN ?_ _ | refine blk_drew ?_ | refine blk_alloc ?_ _)); exact BK166.out) hb)
          have n2_ := Aside0.mk (below_step (by repeat (first | (with_reducible first | exact HB.out | apply below_alloc | apply pw_below_drewN | apply below_drew1 | refine below_set ?_ GE166.out) | exact HB.out)) hb)
          clear HO_9
          clear BK166
          clear HB
          have HO_9 := n0_
          have BK166 := n1_
          have HB := n2_
          clear n0_ n1_ n2_
          (try clear hb)
          (try clear hb2)
          (try clear hk)
          (try clear hi)
          obtain ⟨Ao44, co44, eo44⟩ := Kd.R_slice HO_9.out
          (first | subst eo44 | (injection eo44 with f1_ f2_ f3_; have f4_ := f1_.symm; have f5_ := f3_.symm; clear f1_ f2_ f3_; subst f4_; subst f5_))
          refine hK.out _ _ ⟨(blk_cell BK166.out 0).trans rfl, (blk_cell BK166.out 1).trans rfl, (blk_cell BK166.out 2).trans rfl, (blk_cell BK166.out 3).trans rfl, (blk_cell BK166.out 4).trans rfl, (blk_cell BK166.out 5).trans rfl, (blk_cell BK166.out 6).trans rfl, (blk_cell BK166.out 7).trans rfl, (blk_cell BK166.out 8).trans rfl⟩ (fun hHeld => ?_)
          clear hK K
          refine norm_ (a' := ?_) ?_ ?_
          rotate_left
          · show Act.put _ (some 80) _ = _
            simp only [Act.put, List.setIfInBounds_toArray, List.set_cons_zero, List.set_cons_succ, i64_w, i32_w]
            rfl
          refine one_ (i := 5) (N := some 83) #[true, true, true, true, true, true, false] rfl rfl (by kernel_rfl) (by decide) (fun K hK => ?_)
          refine goes_ Try.func81 (by kernel_rfl) rfl #[.slice Ao44 t168.length co44, .int .i64 t180, .agg #[.bool a1_6, .int .i64 a1_7, .slice A1_8 l1_8.length c1_8]] (by rfl) rfl rfl (by (try simp only [List.map_toArray, List.map_cons, List.map_nil]); first | done | rfl | (simp only [List.length_drop, List.length_take]; rfl)) ?_
          with_reducible refine (parts_Bits.calls kj6 (fun k_ => some k_ = (.slice Ao44 t168.length co44 : Value).ownBlock) _ _ t168 t180 a1_6 a1_7 _ _ l1_8 t181 _ ?side1 ?side2 ?side3 A40.out).mono ?_
          (case side1 => exact Kd.R_V (Kd.R_tight rfl (Kd.R_types (HO_9.out) BK166.out (by decide))))
          (case side2 => repeat (first | exact (Kd.C_below HR1_8.out HB.out) | (with_reducible refine Kd.C_alloc ?_ _) | (with_reducible refine Kd.C_drewN ?_ _) | (with_reducible refine Kd.C_drew ?_)))
          (case side3 => exact HC1_8.out)
          rintro e w45 ⟨rfl, hb⟩
          refine ⟨_, rfl, ?_⟩
          have n0_ := Aside0.mk (Kd.R_below (by (with_reducible repeat (first | apply Kd.R_alloc | apply Kd.R_drewN | apply Kd.R_drew)); exact HO_9.out) hb)
          have n1_ := Aside0.mk (blk_below (g := gb166) (o := .cells #[.int .i64 a1_0, .int .i64 a1_1, .int .i64 a1_2, .int .i64 a1_3, .int .i64 a1_4, .slice A1_5 l1_5.length c1_5, .bool a1_6, .int .i64 a1_7, .slice A1_8 l1_8.length c1_8] 87 (0, 0)) (by (with_reducible repeat (first | refine blk_drewN ?_ _ | refine blk_drew ?_ | refine blk_alloc ?_ _)); exact BK166.out) hb)
          have n2_ := Aside0.mk (below_step (by repeat (first | (with_reducible first | exact HB.out | apply below_alloc | apply pw_below_drewN | apply below_drew1 | refine below_set ?_ GE166.out) | exact HB.out)) hb)
          clear HO_9
          clear BK166
          clear HB
          have HO_9 := n0_
          have BK166 := n1_
          have HB := n2_
          clear n0_ n1_ n2_
          (try clear hb)
          (try clear hb2)
          (try clear hk)
          (try clear hi)
          refine hK.out _ _ ⟨(blk_cell BK166.out 0).trans rfl, (blk_cell BK166.out 1).trans rfl, (blk_cell BK166.out 2).trans rfl, (blk_cell BK166.out 3).trans rfl, (blk_cell BK166.out 4).trans rfl, (blk_cell BK166.out 5).trans rfl, (blk_cell BK166.out 6).trans rfl, (blk_cell BK166.out 7).trans rfl, (blk_cell BK166.out 8).trans rfl⟩ (fun hHeld => ?_)
          clear hK K
          refine norm_ (a' := ?_) ?_ ?_
          rotate_left
          · show Act.put _ (some 83) _ = _
            simp only [Act.put, List.setIfInBounds_toArray, List.set_cons_zero, List.set_cons_succ, i64_w, i32_w]
            rfl
          refine pure_ (i := 6) (N := some 13) (v := ?_) (a' := ?_) #[true, true, true, true, true, true, true] rfl rfl (by kernel_rfl) (fun _ _ _ h => h) (Or.inl ⟨by rfl, ?_⟩) ?_ ?_
          rotate_left
          · intro w'
            go_simp
            with_reducible rfl
          rotate_left
          · simp only [Act.put, List.setIfInBounds_toArray, List.set_cons_zero, List.set_cons_succ, i64_w, i32_w]
            rfl
          refine done_ (by kernel_rfl) ?_
          try go_wp2
          go_ret2
          exact ⟨by first | rfl | (simp [errW_none, errW_some] <;> rfl) | (simp [*, errW_none, errW_some] <;> rfl), by repeat (first | (with_reducible first | exact HB.out | apply below_alloc | apply pw_below_drewN | apply below_drew1 | refine below_set ?_ GE166.out) | exact HB.out)⟩
        · rw [if_neg c41] at H
          have c41b0 : decide (t181 < 0) = false := decide_eq_false c41
          clear c41
          simp only [Option.some.injEq, Prod.mk.injEq] at H
          obtain ⟨rfl, rfl⟩ := H
          try go_wp2
          have n0_ := Aside0.mk (Kd.R_drew HO_9.out)
          have n1_ := Aside0.mk (blk_drew BK166.out)
          have n2_ := Aside0.mk (below_drew1 HB.out)
          clear HO_9
          clear BK166
          clear HB
          have HO_9 := n0_
          have BK166 := n1_
          have HB := n2_
          clear n0_ n1_ n2_
          refine start_ (n := 7) (S := fun w' => w'.cell? ⟨gb166, 0, none⟩ = some (.int .i64 a1_0) ∧ w'.cell? ⟨gb166, 1, none⟩ = some (.int .i64 a1_1) ∧ w'.cell? ⟨gb166, 2, none⟩ = some (.int .i64 a1_2) ∧ w'.cell? ⟨gb166, 3, none⟩ = some (.int .i64 a1_3) ∧ w'.cell? ⟨gb166, 4, none⟩ = some (.int .i64 a1_4) ∧ w'.cell? ⟨gb166, 5, none⟩ = some (.slice A1_5 l1_5.length c1_5) ∧ w'.cell? ⟨gb166, 6, none⟩ = some (.bool a1_6) ∧ w'.cell? ⟨gb166, 7, none⟩ = some (.int .i64 a1_7) ∧ w'.cell? ⟨gb166, 8, none⟩ = some (.slice A1_8 l1_8.length c1_8)) (ds := []) #[false, false, false, false, false, false, false] (by kernel_rfl) rfl rfl ⟨(blk_cell BK166.out 0).trans rfl, (blk_cell BK166.out 1).trans rfl, (blk_cell BK166.out 2).trans rfl, (blk_cell BK166.out 3).trans rfl, (blk_cell BK166.out 4).trans rfl, (blk_cell BK166.out 5).trans rfl, (blk_cell BK166.out 6).trans rfl, (blk_cell BK166.out 7).trans rfl, (blk_cell BK166.out 8).trans rfl⟩ (fun hHeld => ?_)
          generalize wc.drew = w46 at HO_9 BK166 HB hHeld ⊢
          refine pure_ (i := 0) (N := some 78) (v := ?_) (a' := ?_) #[true, false, false, false, false, false, false] rfl rfl (by kernel_rfl) (fun _ _ _ h => h) (Or.inl ⟨by rfl, ?_⟩) ?_ ?_
          rotate_left
          · intro w'
            go_simp
            with_reducible rfl
          rotate_left
          · simp only [Act.put, List.setIfInBounds_toArray, List.set_cons_zero, List.set_cons_succ, i64_w, i32_w]
            rfl
          refine pure_ (i := 3) (N := some 81) (v := ?_) (a' := ?_) #[true, false, false, true, false, false, false] rfl rfl (by kernel_rfl) (fun _ _ _ h => h) (Or.inl ⟨by rfl, ?_⟩) ?_ ?_
          rotate_left
          · intro w'
            go_simp
            with_reducible rfl
          rotate_left
          · simp only [Act.put, List.setIfInBounds_toArray, List.set_cons_zero, List.set_cons_succ, i64_w, i32_w]
            rfl
          refine take_ (i := 1) (N := some 79) (v := ?_) (a' := ?_) #[true, true, false, true, false, false, false] rfl rfl (by kernel_rfl) (fun _ _ _ h => h) (Or.inl ⟨by rfl, ?_⟩) hHeld ?_ ?_
          rotate_left
          · rintro w' ⟨s0, s1, s2, s3, s4, s5, s6, s7, s8⟩
            go_simp
            with_reducible rfl
          rotate_left
          · simp only [Act.put, List.setIfInBounds_toArray, List.set_cons_zero, List.set_cons_succ, i64_w, i32_w]
            rfl
          refine take_ (i := 4) (N := some 82) (v := ?_) (a' := ?_) #[true, true, false, true, true, false, false] rfl rfl (by kernel_rfl) (fun _ _ _ h => h) (Or.inl ⟨by rfl, ?_⟩) hHeld ?_ ?_
          rotate_left
          · rintro w' ⟨s0, s1, s2, s3, s4, s5, s6, s7, s8⟩
            go_simp
            with_reducible rfl
          rotate_left
          · simp only [Act.put, List.setIfInBounds_toArray, List.set_cons_zero, List.set_cons_succ, i64_w, i32_w]
            rfl
          refine one_ (i := 2) (N := some 80) #[true, true, true, true, true, false, false] rfl rfl (by kernel_rfl) (by decide) (fun K hK => ?_)
          refine goes_ Try.func80 (by kernel_rfl) rfl #[.agg #[.int .i64 a1_0, .int .i64 a1_1, .int .i64 a1_2, .int .i64 a1_3, .int .i64 a1_4, .slice A1_5 l1_5.length c1_5, .bool a1_6, .int .i64 a1_7, .slice A1_8 l1_8.length c1_8]] (by rfl) rfl rfl (by (try simp only [List.map_toArray, List.map_cons, List.map_nil]); first | done | rfl | (simp only [List.length_drop, List.length_take]; rfl)) ?_
          with_reducible refine (subframe_order.calls a1_0 a1_1 a1_2 a1_3 a1_4 _ _ l1_5 a1_6 a1_7 _ _ l1_8 t180 _ ?side1 ?side2 ?side3 ?side4 A39.out).mono ?_
          (case side1 => repeat (first | exact (Kd.C_below HR1_5.out HB.out) | (with_reducible refine Kd.C_alloc ?_ _) | (with_reducible refine Kd.C_drewN ?_ _) | (with_reducible refine Kd.C_drew ?_)))
          (case side2 => exact HC1_5.out)
          (case side3 => repeat (first | exact (Kd.C_below HR1_8.out HB.out) | (with_reducible refine Kd.C_alloc ?_ _) | (with_reducible refine Kd.C_drewN ?_ _) | (with_reducible refine Kd.C_drew ?_)))
          (case side4 => exact HC1_8.out)
          rintro e w47 ⟨rfl, hb⟩
          refine ⟨_, rfl, ?_⟩
          have n0_ := Aside0.mk (Kd.R_below (by (with_reducible repeat (first | apply Kd.R_alloc | apply Kd.R_drewN | apply Kd.R_drew)); exact HO_9.out) hb)
          have n1_ := Aside0.mk (blk_below (g := gb166) (o := .cells #[.int .i64 a1_0, .int .i64 a1_1, .int .i64 a1_2, .int .i64 a1_3, .int .i64 a1_4, .slice A1_5 l1_5.length c1_5, .bool a1_6, .int .i64 a1_7, .slice A1_8 l1_8.length c1_8] 87 (0, 0)) (by (with_reducible repeat (first | refine blk_drewN ?_ _ | refine blk_drew ?_ | refine blk_alloc ?_ _)); exact BK166.out) hb)
          have n2_ := Aside0.mk (below_step (by repeat (first | (with_reducible first | exact HB.out | apply below_alloc | apply pw_below_drewN | apply below_drew1 | refine below_set ?_ GE166.out) | exact HB.out)) hb)
          clear HO_9
          clear BK166
          clear HB
          have HO_9 := n0_
          have BK166 := n1_
          have HB := n2_
          clear n0_ n1_ n2_
          (try clear hb)
          (try clear hb2)
          (try clear hk)
          (try clear hi)
          obtain ⟨Ao48, co48, eo48⟩ := Kd.R_slice HO_9.out
          (first | subst eo48 | (injection eo48 with f1_ f2_ f3_; have f4_ := f1_.symm; have f5_ := f3_.symm; clear f1_ f2_ f3_; subst f4_; subst f5_))
          refine hK.out _ _ ⟨(blk_cell BK166.out 0).trans rfl, (blk_cell BK166.out 1).trans rfl, (blk_cell BK166.out 2).trans rfl, (blk_cell BK166.out 3).trans rfl, (blk_cell BK166.out 4).trans rfl, (blk_cell BK166.out 5).trans rfl, (blk_cell BK166.out 6).trans rfl, (blk_cell BK166.out 7).trans rfl, (blk_cell BK166.out 8).trans rfl⟩ (fun hHeld => ?_)
          clear hK K
          refine norm_ (a' := ?_) ?_ ?_
          rotate_left
          · show Act.put _ (some 80) _ = _
            simp only [Act.put, List.setIfInBounds_toArray, List.set_cons_zero, List.set_cons_succ, i64_w, i32_w]
            rfl
          refine one_ (i := 5) (N := some 83) #[true, true, true, true, true, true, false] rfl rfl (by kernel_rfl) (by decide) (fun K hK => ?_)
          refine goes_ Try.func81 (by kernel_rfl) rfl #[.slice Ao48 t168.length co48, .int .i64 t180, .agg #[.bool a1_6, .int .i64 a1_7, .slice A1_8 l1_8.length c1_8]] (by rfl) rfl rfl (by (try simp only [List.map_toArray, List.map_cons, List.map_nil]); first | done | rfl | (simp only [List.length_drop, List.length_take]; rfl)) ?_
          with_reducible refine (parts_Bits.calls kj6 (fun k_ => some k_ = (.slice Ao48 t168.length co48 : Value).ownBlock) _ _ t168 t180 a1_6 a1_7 _ _ l1_8 t181 _ ?side1 ?side2 ?side3 A40.out).mono ?_
          (case side1 => exact Kd.R_V (Kd.R_tight rfl (Kd.R_types (HO_9.out) BK166.out (by decide))))
          (case side2 => repeat (first | exact (Kd.C_below HR1_8.out HB.out) | (with_reducible refine Kd.C_alloc ?_ _) | (with_reducible refine Kd.C_drewN ?_ _) | (with_reducible refine Kd.C_drew ?_)))
          (case side3 => exact HC1_8.out)
          rintro e w49 ⟨rfl, hb⟩
          refine ⟨_, rfl, ?_⟩
          have n0_ := Aside0.mk (Kd.R_below (by (with_reducible repeat (first | apply Kd.R_alloc | apply Kd.R_drewN | apply Kd.R_drew)); exact HO_9.out) hb)
          have n1_ := Aside0.mk (blk_below (g := gb166) (o := .cells #[.int .i64 a1_0, .int .i64 a1_1, .int .i64 a1_2, .int .i64 a1_3, .int .i64 a1_4, .slice A1_5 l1_5.length c1_5, .bool a1_6, .int .i64 a1_7, .slice A1_8 l1_8.length c1_8] 87 (0, 0)) (by (with_reducible repeat (first | refine blk_drewN ?_ _ | refine blk_drew ?_ | refine blk_alloc ?_ _)); exact BK166.out) hb)
          have n2_ := Aside0.mk (below_step (by repeat (first | (with_reducible first | exact HB.out | apply below_alloc | apply pw_below_drewN | apply below_drew1 | refine below_set ?_ GE166.out) | exact HB.out)) hb)
          clear HO_9
          clear BK166
          clear HB
          have HO_9 := n0_
          have BK166 := n1_
          have HB := n2_
          clear n0_ n1_ n2_
          (try clear hb)
          (try clear hb2)
          (try clear hk)
          (try clear hi)
          refine hK.out _ _ ⟨(blk_cell BK166.out 0).trans rfl, (blk_cell BK166.out 1).trans rfl, (blk_cell BK166.out 2).trans rfl, (blk_cell BK166.out 3).trans rfl, (blk_cell BK166.out 4).trans rfl, (blk_cell BK166.out 5).trans rfl, (blk_cell BK166.out 6).trans rfl, (blk_cell BK166.out 7).trans rfl, (blk_cell BK166.out 8).trans rfl⟩ (fun hHeld => ?_)
          clear hK K
          refine norm_ (a' := ?_) ?_ ?_
          rotate_left
          · show Act.put _ (some 83) _ = _
            simp only [Act.put, List.setIfInBounds_toArray, List.set_cons_zero, List.set_cons_succ, i64_w, i32_w]
            rfl
          refine pure_ (i := 6) (N := some 13) (v := ?_) (a' := ?_) #[true, true, true, true, true, true, true] rfl rfl (by kernel_rfl) (fun _ _ _ h => h) (Or.inl ⟨by rfl, ?_⟩) ?_ ?_
          rotate_left
          · intro w'
            go_simp
            with_reducible rfl
          rotate_left
          · simp only [Act.put, List.setIfInBounds_toArray, List.set_cons_zero, List.set_cons_succ, i64_w, i32_w]
            rfl
          refine done_ (by kernel_rfl) ?_
          try go_wp2
          go_ret2
          exact ⟨by first | rfl | (simp [errW_none, errW_some] <;> rfl) | (simp [*, errW_none, errW_some] <;> rfl), by repeat (first | (with_reducible first | exact HB.out | apply below_alloc | apply pw_below_drewN | apply below_drew1 | refine below_set ?_ GE166.out) | exact HB.out)⟩
  · rw [if_neg c5] at H
    have c5b0 : (t167 == 0) = false := beq_eq_false_iff_ne.mpr c5
    have c5b1 : (t167 != 0) = true := bne_iff_ne.mpr c5
    simp only [Option.some.injEq, Prod.mk.injEq] at H
    obtain ⟨rfl, rfl⟩ := H
    go_enter Try.func46, Try.ntmps46
    go_wp2_with (first | ((with_reducible refine gate_dst (N := 4) rfl ?_); refine box_event ?hg (N := 4) ?hd (cs := #[.int .i64 a1_0, .int .i64 a1_1, .int .i64 a1_2, .int .i64 a1_3, .int .i64 a1_4, .slice A1_5 l1_5.length c1_5, .bool a1_6, .int .i64 a1_7, .slice A1_8 l1_8.length c1_8]) (t := 87) ?hr ?_; (case hd => rfl); (case hg => rfl); (case hr => first | (go_simp; done) | (go_simp; rfl)); intro gb166 hg w50 hbox hb; have n0_ := Aside0.mk (below_step (by repeat (first | (with_reducible first | exact HB.out | apply below_alloc | apply pw_below_drewN | apply below_drew1) | exact HB.out)) hb); have n1_ := Aside0.mk (hbox); have n2_ := Aside0.mk ((by rw [hg]; exact (below_size (by repeat (first | (with_reducible first | exact HB.out | apply below_alloc | apply pw_below_drewN | apply below_drew1) | exact HB.out))) : w.heap.size ≤ gb166)); have n3_ := Aside0.mk ((by rw [hg]; exact (below_size (by repeat (first | (with_reducible first | exact HB.out | apply below_alloc | apply pw_below_drewN | apply below_drew1) | exact HB.out))) : w.heap.size ≤ gb166)); clear HB; have HB := n0_; have BK166 := n1_; have GW166 := n2_; have GE166 := n3_; clear n0_ n1_ n2_ n3_; clear hb hbox hg; have hcz51_0 : w50.cell? ⟨gb166, 0, none⟩ = some (.int .i64 a1_0) := (blk_cell BK166.out 0).trans rfl; have hcz51_1 : w50.cell? ⟨gb166, 1, none⟩ = some (.int .i64 a1_1) := (blk_cell BK166.out 1).trans rfl; have hcz51_2 : w50.cell? ⟨gb166, 2, none⟩ = some (.int .i64 a1_2) := (blk_cell BK166.out 2).trans rfl; have hcz51_3 : w50.cell? ⟨gb166, 3, none⟩ = some (.int .i64 a1_3) := (blk_cell BK166.out 3).trans rfl; have hcz51_4 : w50.cell? ⟨gb166, 4, none⟩ = some (.int .i64 a1_4) := (blk_cell BK166.out 4).trans rfl; have hcz51_5 : w50.cell? ⟨gb166, 5, none⟩ = some (.slice A1_5 l1_5.length c1_5) := (blk_cell BK166.out 5).trans rfl; have hcz51_6 : w50.cell? ⟨gb166, 6, none⟩ = some (.bool a1_6) := (blk_cell BK166.out 6).trans rfl; have hcz51_7 : w50.cell? ⟨gb166, 7, none⟩ = some (.int .i64 a1_7) := (blk_cell BK166.out 7).trans rfl; have hcz51_8 : w50.cell? ⟨gb166, 8, none⟩ = some (.slice A1_8 l1_8.length c1_8) := (blk_cell BK166.out 8).trans rfl; have hfz51_0 := blk_frozen BK166.out 0; have hfz51_1 := blk_frozen BK166.out 1; have hfz51_2 := blk_frozen BK166.out 2; have hfz51_3 := blk_frozen BK166.out 3; have hfz51_4 := blk_frozen BK166.out 4; have hfz51_5 := blk_frozen BK166.out 5; have hfz51_6 := blk_frozen BK166.out 6; have hfz51_7 := blk_frozen BK166.out 7; have hfz51_8 := blk_frozen BK166.out 8) | ((with_reducible refine gate_callee (f := 76) rfl ?_); refine goesL_ (some 17) rfl rfl Try.func76 (by kernel_rfl) rfl #[.slice A0 l0.length c0, .agg #[.int .i64 a1_0, .int .i64 a1_1, .int .i64 a1_2, .int .i64 a1_3, .int .i64 a1_4, .slice A1_5 l1_5.length c1_5, .bool a1_6, .int .i64 a1_7, .slice A1_8 l1_8.length c1_8], .int .i64 a2] rfl (by (try simp only [List.map_toArray, List.map_cons, List.map_nil]); first | done | rfl | (simp only [List.length_drop, List.length_take]; rfl)) ?_; (with_reducible refine (subframe_odd.calls k _ _ l0 a1_0 a1_1 a1_2 a1_3 a1_4 _ _ l1_5 a1_6 a1_7 _ _ l1_8 a2 t167 _ ?side1 ?side2 ?side3 ?side4 ?side5 ?side6 A4.out).mono ?_); (case side1 => repeat (first | exact (Kd.C_below HR0.out HB.out) | (with_reducible refine Kd.C_alloc ?_ _) | (with_reducible refine Kd.C_drewN ?_ _) | (with_reducible refine Kd.C_drew ?_))); (case side2 => exact HC0.out); (case side3 => repeat (first | exact (Kd.C_below HR1_5.out HB.out) | (with_reducible refine Kd.C_alloc ?_ _) | (with_reducible refine Kd.C_drewN ?_ _) | (with_reducible refine Kd.C_drew ?_))); (case side4 => exact HC1_5.out); (case side5 => repeat (first | exact (Kd.C_below HR1_8.out HB.out) | (with_reducible refine Kd.C_alloc ?_ _) | (with_reducible refine Kd.C_drewN ?_ _) | (with_reducible refine Kd.C_drew ?_))); (case side6 => exact HC1_8.out); rintro e w52 ⟨rfl, hb⟩; refine ⟨_, rfl, ?_⟩; have n0_ := Aside0.mk (blk_below (g := gb166) (o := .cells #[.int .i64 a1_0, .int .i64 a1_1, .int .i64 a1_2, .int .i64 a1_3, .int .i64 a1_4, .slice A1_5 l1_5.length c1_5, .bool a1_6, .int .i64 a1_7, .slice A1_8 l1_8.length c1_8] 87 (0, 0)) (by (with_reducible repeat (first | refine blk_drewN ?_ _ | refine blk_drew ?_ | refine blk_alloc ?_ _)); exact BK166.out) hb); have n1_ := Aside0.mk (below_step (by repeat (first | (with_reducible first | exact HB.out | apply below_alloc | apply pw_below_drewN | apply below_drew1 | refine below_set ?_ GE166.out) | exact HB.out)) hb); clear BK166; clear HB; have BK166 := n0_; have HB := n1_; clear n0_ n1_; (try clear hb); (try clear hb2); (try clear hk); (try clear hi)))
    go_ret2
    exact ⟨by first | rfl | (simp [errW_none, errW_some] <;> rfl) | (simp [*, errW_none, errW_some] <;> rfl), by repeat (first | (with_reducible first | exact HB.out | apply below_alloc | apply pw_below_drewN | apply below_drew1 | refine below_set ?_ GE166.out) | exact HB.out)⟩

end Go.Proofs.Ytpeejdmbnlhjmaa.PSubframeLinear
