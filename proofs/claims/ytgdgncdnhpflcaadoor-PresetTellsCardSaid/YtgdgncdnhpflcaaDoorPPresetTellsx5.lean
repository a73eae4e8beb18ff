-- written by this session's program wip/reprint.sh (a turned copy of the kit's print): the session's own text
import Derived.Test.YtgdgncdnhpflcaaDoorPPresetTellsx0
import Derived.Test.YtgdgncdnhpflcaaDoorPPresetTellsx4
namespace Go.Proofs.YtgdgncdnhpflcaaDoor.PPresetTells
open Go.RowKit Go.Proofs.YtgdgncdnhpflcaaDoorW.PrintWords Go.Proofs.YtgdgncdnhpflcaaDoorW.PrintLast Go.Proofs.YtgdgncdnhpflcaaDoorW.PrintMore
attribute [local go_sem] max2_int min2_int max_two min_two max_three min_three max_four min_four   -- for this text's walks alone
set_option linter.unusedVariables false
set_option linter.unusedSimpArgs false

/-! ### serinetteref19_Alike: function 11 -/
def serinetteref19_Alike.j0 : Nat → Bool → Int → Bool → Int → Int → List Int → List Int → Int → Bool → Int → Bool → Int → Int → List Int → List Int → Int → Bool → Option (Bool)
  | 0, _, _, _, _, _, _, _, _, _, _, _, _, _, _, _, _, _ => none
  | k + 1, x44, x223000, x223001, x223002, x223003, x223004, x223005, x223006, x223007, x224000, x224001, x224002, x224003, x224004, x224005, x224006, x224007 => if x44 = true then (some false) else ((serinetteref01_Ints.f k x223004 x224004).bind fun t224 => (if t224 = true then ((serinetteref01_Ints.f k x223005 x224005).bind fun t225 => (some t225)) else (some false)))
def serinetteref19_Alike.f (k : Nat) (a0_0 : Int) (a0_1 : Bool) (a0_2 : Int) (a0_3 : Int) (l0_4 : List Int) (l0_5 : List Int) (a0_6 : Int) (a0_7 : Bool) (a1_0 : Int) (a1_1 : Bool) (a1_2 : Int) (a1_3 : Int) (l1_4 : List Int) (l1_5 : List Int) (a1_6 : Int) (a1_7 : Bool) : Option (Bool) := if a0_0 = a1_0 then (if (a0_1 != a1_1) = true then (serinetteref19_Alike.j0 k true a0_0 a0_1 a0_2 a0_3 l0_4 l0_5 a0_6 a0_7 a1_0 a1_1 a1_2 a1_3 l1_4 l1_5 a1_6 a1_7) else (if a0_2 = a1_2 then (if a0_3 = a1_3 then (if a0_6 = a1_6 then (serinetteref19_Alike.j0 k (a0_7 != a1_7) a0_0 a0_1 a0_2 a0_3 l0_4 l0_5 a0_6 a0_7 a1_0 a1_1 a1_2 a1_3 l1_4 l1_5 a1_6 a1_7) else (serinetteref19_Alike.j0 k true a0_0 a0_1 a0_2 a0_3 l0_4 l0_5 a0_6 a0_7 a1_0 a1_1 a1_2 a1_3 l1_4 l1_5 a1_6 a1_7)) else (serinetteref19_Alike.j0 k true a0_0 a0_1 a0_2 a0_3 l0_4 l0_5 a0_6 a0_7 a1_0 a1_1 a1_2 a1_3 l1_4 l1_5 a1_6 a1_7)) else (serinetteref19_Alike.j0 k true a0_0 a0_1 a0_2 a0_3 l0_4 l0_5 a0_6 a0_7 a1_0 a1_1 a1_2 a1_3 l1_4 l1_5 a1_6 a1_7))) else (serinetteref19_Alike.j0 k true a0_0 a0_1 a0_2 a0_3 l0_4 l0_5 a0_6 a0_7 a1_0 a1_1 a1_2 a1_3 l1_4 l1_5 a1_6 a1_7)
theorem serinetteref19_Alike.mono_l : ∀ k, (∀ y0 y1 y2 y3 y4 y5 y6 y7 y8 y9 y10 y11 y12 y13 y14 y15 y16, LeO (serinetteref19_Alike.j0 k y0 y1 y2 y3 y4 y5 y6 y7 y8 y9 y10 y11 y12 y13 y14 y15 y16) (serinetteref19_Alike.j0 (k + 1) y0 y1 y2 y3 y4 y5 y6 y7 y8 y9 y10 y11 y12 y13 y14 y15 y16))
  | 0 => fun _ _ _ _ _ _ _ _ _ _ _ _ _ _ _ _ _ r h => by simp [serinetteref19_Alike.j0] at h
  | k + 1 => by
    have ih0 := serinetteref19_Alike.mono_l k
    · intro y0 y1 y2 y3 y4 y5 y6 y7 y8 y9 y10 y11 y12 y13 y14 y15 y16
      unfold serinetteref19_Alike.j0
      repeat' first
      | (with_reducible exact ih0 _ _ _ _ _ _ _ _ _ _ _ _ _ _ _ _ _)
      | (with_reducible exact serinetteref01_Ints.mono _ _ _)
      | (with_reducible exact LeO.refl _)
      | (with_reducible exact LeO.none _)
      | (with_reducible refine LeO.ite ?_ ?_)
      | (with_reducible refine LeO.bind ?_ (fun _ => ?_))
      | exact ih0 _ _ _ _ _ _ _ _ _ _ _ _ _ _ _ _ _
      | exact serinetteref01_Ints.mono _ _ _
      | exact LeO.none _
      | refine LeO.ite ?_ ?_
      | refine LeO.bind ?_ (fun _ => ?_)
theorem serinetteref19_Alike.mono : ∀ a0 a1 a2 a3 a4 a5 a6 a7 a8 a9 a10 a11 a12 a13 a14 a15 k, LeO (serinetteref19_Alike.f k a0 a1 a2 a3 a4 a5 a6 a7 a8 a9 a10 a11 a12 a13 a14 a15) (serinetteref19_Alike.f (k + 1) a0 a1 a2 a3 a4 a5 a6 a7 a8 a9 a10 a11 a12 a13 a14 a15) := by
  intro a0 a1 a2 a3 a4 a5 a6 a7 a8 a9 a10 a11 a12 a13 a14 a15 k
  have ih0 := serinetteref19_Alike.mono_l k
  unfold serinetteref19_Alike.f
  repeat' first
      | (with_reducible exact ih0 _ _ _ _ _ _ _ _ _ _ _ _ _ _ _ _ _)
      | (with_reducible exact serinetteref01_Ints.mono _ _ _)
      | (with_reducible exact LeO.refl _)
      | (with_reducible exact LeO.none _)
      | (with_reducible refine LeO.ite ?_ ?_)
      | (with_reducible refine LeO.bind ?_ (fun _ => ?_))
      | exact ih0 _ _ _ _ _ _ _ _ _ _ _ _ _ _ _ _ _
      | exact serinetteref01_Ints.mono _ _ _
      | exact LeO.none _
      | refine LeO.ite ?_ ?_
      | refine LeO.bind ?_ (fun _ => ?_)
set_option maxHeartbeats 8000000 in
set_option maxRecDepth 100000 in
theorem serinetteref19_Alike.calls (k : Nat) (a0_0 : Int) (a0_1 : Bool) (a0_2 : Int) (a0_3 : Int) (A0_4 : Option Addr) (c0_4 : Nat) (l0_4 : List Int) (A0_5 : Option Addr) (c0_5 : Nat) (l0_5 : List Int) (a0_6 : Int) (a0_7 : Bool) (a1_0 : Int) (a1_1 : Bool) (a1_2 : Int) (a1_3 : Int) (A1_4 : Option Addr) (c1_4 : Nat) (l1_4 : List Int) (A1_5 : Option Addr) (c1_5 : Nat) (l1_5 : List Int) (a1_6 : Int) (a1_7 : Bool) (r : Bool) (w : World) (hr0_4 : Kd.C (Kd.int .i64) w A0_4 l0_4.length l0_4) (hc0_4 : l0_4.length ≤ c0_4) (hr0_5 : Kd.C (Kd.int .i64) w A0_5 l0_5.length l0_5) (hc0_5 : l0_5.length ≤ c0_5) (hr1_4 : Kd.C (Kd.int .i64) w A1_4 l1_4.length l1_4) (hc1_4 : l1_4.length ≤ c1_4) (hr1_5 : Kd.C (Kd.int .i64) w A1_5 l1_5.length l1_5) (hc1_5 : l1_5.length ≤ c1_5) (h : serinetteref19_Alike.f k a0_0 a0_1 a0_2 a0_3 l0_4 l0_5 a0_6 a0_7 a1_0 a1_1 a1_2 a1_3 l1_4 l1_5 a1_6 a1_7 = some r) :
    Calls Tryd.prog 11 #[.agg #[.int .i64 a0_0, .bool a0_1, .int .i64 a0_2, .int .i64 a0_3, .slice A0_4 l0_4.length c0_4, .slice A0_5 l0_5.length c0_5, .int .i64 a0_6, .bool a0_7], .agg #[.int .i64 a1_0, .bool a1_1, .int .i64 a1_2, .int .i64 a1_3, .slice A1_4 l1_4.length c1_4, .slice A1_5 l1_5.length c1_5, .int .i64 a1_6, .bool a1_7]] w fun e w' => e = .returned (.bool r) ∧ Below w.heap.size w w' := by
  have hu24 := Tryd.underlying24
  have HR0_4 := Aside0.mk hr0_4
  have HC0_4 := Aside0.mk hc0_4
  clear hr0_4 hc0_4
  have HR0_5 := Aside0.mk hr0_5
  have HC0_5 := Aside0.mk hc0_5
  clear hr0_5 hc0_5
  have HR1_4 := Aside0.mk hr1_4
  have HC1_4 := Aside0.mk hc1_4
  clear hr1_4 hc1_4
  have HR1_5 := Aside0.mk hr1_5
  have HC1_5 := Aside0.mk hc1_5
  clear hr1_5 hc1_5
  have HB := Aside0.mk (Below.refl w.heap.size w)
  have H : (if a0_0 = a1_0 then (if (a0_1 != a1_1) = true then (serinetteref19_Alike.j0 k true a0_0 a0_1 a0_2 a0_3 l0_4 l0_5 a0_6 a0_7 a1_0 a1_1 a1_2 a1_3 l1_4 l1_5 a1_6 a1_7) else (if a0_2 = a1_2 then (if a0_3 = a1_3 then (if a0_6 = a1_6 then (serinetteref19_Alike.j0 k (a0_7 != a1_7) a0_0 a0_1 a0_2 a0_3 l0_4 l0_5 a0_6 a0_7 a1_0 a1_1 a1_2 a1_3 l1_4 l1_5 a1_6 a1_7) else (serinetteref19_Alike.j0 k true a0_0 a0_1 a0_2 a0_3 l0_4 l0_5 a0_6 a0_7 a1_0 a1_1 a1_2 a1_3 l1_4 l1_5 a1_6 a1_7)) else (serinetteref19_Alike.j0 k true a0_0 a0_1 a0_2 a0_3 l0_4 l0_5 a0_6 a0_7 a1_0 a1_1 a1_2 a1_3 l1_4 l1_5 a1_6 a1_7)) else (serinetteref19_Alike.j0 k true a0_0 a0_1 a0_2 a0_3 l0_4 l0_5 a0_6 a0_7 a1_0 a1_1 a1_2 a1_3 l1_4 l1_5 a1_6 a1_7))) else (serinetteref19_Alike.j0 k true a0_0 a0_1 a0_2 a0_3 l0_4 l0_5 a0_6 a0_7 a1_0 a1_1 a1_2 a1_3 l1_4 l1_5 a1_6 a1_7)) = some r := h
  clear h
  have HC3 := Aside0.mk H
  clear H
  go_enter Tryd.func11, Tryd.ntmps11
  go_upto_region 1 with (first | ((with_reducible refine gate_dst (N := 2) rfl ?_); refine box_event ?hg (N := 2) ?hd (cs := #[.int .i64 a0_0, .bool a0_1, .int .i64 a0_2, .int .i64 a0_3, .slice A0_4 l0_4.length c0_4, .slice A0_5 l0_5.length c0_5, .int .i64 a0_6, .bool a0_7]) (t := 24) ?hr ?_; (case hd => rfl); (case hg => rfl); (case hr => first | (go_simp; done) | (go_simp; rfl)); intro gb222 hg w4 hbox hb; have n0_ := Aside0.mk (below_step (by repeat (first | (with_reducible first | exact HB.out | apply below_alloc | apply pw_below_drewN | apply below_drew1) | exact HB.out)) hb); have n1_ := Aside0.mk (hbox); have n2_ := Aside0.mk ((by rw [hg]; exact (below_size (by repeat (first | (with_reducible first | exact HB.out | apply below_alloc | apply pw_below_drewN | apply below_drew1) | exact HB.out))) : w.heap.size ≤ gb222)); have n3_ := Aside0.mk ((by rw [hg]; exact (below_size (by repeat (first | (with_reducible first | exact HB.out | apply below_alloc | apply pw_below_drewN | apply below_drew1) | exact HB.out))) : w.heap.size ≤ gb222)); clear HB; have HB := n0_; have BK222 := n1_; have GW222 := n2_; have GE222 := n3_; clear n0_ n1_ n2_ n3_; clear hb hbox hg) | ((with_reducible refine gate_dst (N := 3) rfl ?_); refine box_event ?hg (N := 3) ?hd (cs := #[.int .i64 a1_0, .bool a1_1, .int .i64 a1_2, .int .i64 a1_3, .slice A1_4 l1_4.length c1_4, .slice A1_5 l1_5.length c1_5, .int .i64 a1_6, .bool a1_7]) (t := 24) ?hr ?_; (case hd => rfl); (case hg => rfl); (case hr => first | (go_simp; done) | (go_simp; rfl)); intro gb223 hg w5 hbox hb; have n0_ := Aside0.mk (blk_below (g := gb222) (o := .cells #[.int .i64 a0_0, .bool a0_1, .int .i64 a0_2, .int .i64 a0_3, .slice A0_4 l0_4.length c0_4, .slice A0_5 l0_5.length c0_5, .int .i64 a0_6, .bool a0_7] 24 (0, 0)) (by (with_reducible repeat (first | refine blk_drewN ?_ _ | refine blk_drew ?_ | refine blk_alloc ?_ _)); exact BK222.out) hb); have n1_ := Aside0.mk (below_step (by repeat (first | (with_reducible first | exact HB.out | apply below_alloc | apply pw_below_drewN | apply below_drew1 | refine below_set ?_ GE222.out) | exact HB.out)) hb); have n2_ := Aside0.mk (hbox); have n3_ := Aside0.mk ((by rw [hg]; exact (below_size (by repeat (first | (with_reducible first | exact HB.out | apply below_alloc | apply pw_below_drewN | apply below_drew1 | refine below_set ?_ GE222.out) | exact HB.out))) : w.heap.size ≤ gb223)); have n4_ := Aside0.mk ((by rw [hg]; exact (below_size (by repeat (first | (with_reducible first | exact HB.out | apply below_alloc | apply pw_below_drewN | apply below_drew1 | refine below_set ?_ GE222.out) | exact HB.out))) : w.heap.size ≤ gb223)); have n5_ := Aside0.mk ((by rw [hg]; exact Nat.ne_of_lt (blk_lt (g := gb222) (o := .cells #[.int .i64 a0_0, .bool a0_1, .int .i64 a0_2, .int .i64 a0_3, .slice A0_4 l0_4.length c0_4, .slice A0_5 l0_5.length c0_5, .int .i64 a0_6, .bool a0_7] 24 (0, 0)) (by (with_reducible repeat (first | refine blk_drewN ?_ _ | refine blk_drew ?_ | refine blk_alloc ?_ _)); exact BK222.out)) : gb222 ≠ gb223)); have n6_ := Aside0.mk ((by rw [hg]; exact Nat.ne_of_gt (blk_lt (g := gb222) (o := .cells #[.int .i64 a0_0, .bool a0_1, .int .i64 a0_2, .int .i64 a0_3, .slice A0_4 l0_4.length c0_4, .slice A0_5 l0_5.length c0_5, .int .i64 a0_6, .bool a0_7] 24 (0, 0)) (by (with_reducible repeat (first | refine blk_drewN ?_ _ | refine blk_drew ?_ | refine blk_alloc ?_ _)); exact BK222.out)) : gb223 ≠ gb222)); clear BK222; clear HB; have BK222 := n0_; have HB := n1_; have BK223 := n2_; have GW223 := n3_; have GE223 := n4_; have NB222_223 := n5_; have NB223_222 := n6_; clear n0_ n1_ n2_ n3_ n4_ n5_ n6_; clear hb hbox hg))
  (try simp only [Act.put, List.setIfInBounds_toArray, List.set_cons_zero, List.set_cons_succ])
  go_cut [44] (fun v44 wc => ∃ (kq : Nat) (x44_2 : Bool), v44 = .bool x44_2 ∧ Aside0 (serinetteref19_Alike.j0 kq x44_2 a0_0 a0_1 a0_2 a0_3 l0_4 l0_5 a0_6 a0_7 a1_0 a1_1 a1_2 a1_3 l1_4 l1_5 a1_6 a1_7 = some r) ∧ Aside0 (kq ≤ k) ∧ Aside0 (wc.heap[gb222]? = some (.cells #[.int .i64 a0_0, .bool a0_1, .int .i64 a0_2, .int .i64 a0_3, (.slice A0_4 l0_4.length c0_4), (.slice A0_5 l0_5.length c0_5), .int .i64 a0_6, .bool a0_7] 24 (0, 0))) ∧ Aside0 (wc.heap[gb223]? = some (.cells #[.int .i64 a1_0, .bool a1_1, .int .i64 a1_2, .int .i64 a1_3, (.slice A1_4 l1_4.length c1_4), (.slice A1_5 l1_5.length c1_5), .int .i64 a1_6, .bool a1_7] 24 (0, 0))) ∧ Aside0 (Below w.heap.size w wc))
  case first =>
    have H := HC3.out
    clear HC3
    by_cases c6 : a0_0 = a1_0
    · rw [if_pos c6] at H
      have c6b0 : (a0_0 == a1_0) = true := beq_iff_eq.mpr c6
      have c6b1 : (a0_0 != a1_0) = false := bne_eq_false_iff_eq.mpr c6
      clear c6
      (first | rw [c6b0] | (simp only [i64_w, i32_w]; rw [c6b0]) | skip)
      by_cases c7 : (a0_1 != a1_1) = true
      · rw [if_pos c7] at H
        have c7b0 : (a0_1 != a1_1) = true := c7
        (try (have c7b1 : decide (a0_1 = a1_1) = false := by simpa using c7))
        (try (have c7b2 : (a0_1 == a1_1) = false := by simpa using c7))
        (try (have c7b3 : ¬ (a0_1 = a1_1) := by simpa using c7))
        clear c7
        have H' := Aside0.mk H
        clear H
        have hnb8 := NB222_223.out
        have hnc8 := NB223_222.out
        have hcz9_0 : w5.cell? ⟨gb222, 0, none⟩ = some (.int .i64 a0_0) := (blk_cell BK222.out 0).trans rfl
        have hcz9_1 : w5.cell? ⟨gb222, 1, none⟩ = some (.bool a0_1) := (blk_cell BK222.out 1).trans rfl
        have hcz9_2 : w5.cell? ⟨gb222, 2, none⟩ = some (.int .i64 a0_2) := (blk_cell BK222.out 2).trans rfl
        have hcz9_3 : w5.cell? ⟨gb222, 3, none⟩ = some (.int .i64 a0_3) := (blk_cell BK222.out 3).trans rfl
        have hcz9_4 : w5.cell? ⟨gb222, 4, none⟩ = some (.slice A0_4 l0_4.length c0_4) := (blk_cell BK222.out 4).trans rfl
        have hcz9_5 : w5.cell? ⟨gb222, 5, none⟩ = some (.slice A0_5 l0_5.length c0_5) := (blk_cell BK222.out 5).trans rfl
        have hcz9_6 : w5.cell? ⟨gb222, 6, none⟩ = some (.int .i64 a0_6) := (blk_cell BK222.out 6).trans rfl
        have hcz9_7 : w5.cell? ⟨gb222, 7, none⟩ = some (.bool a0_7) := (blk_cell BK222.out 7).trans rfl
        have hfz9_0 := blk_frozen BK222.out 0
        have hfz9_1 := blk_frozen BK222.out 1
        have hfz9_2 := blk_frozen BK222.out 2
        have hfz9_3 := blk_frozen BK222.out 3
        have hfz9_4 := blk_frozen BK222.out 4
        have hfz9_5 := blk_frozen BK222.out 5
        have hfz9_6 := blk_frozen BK222.out 6
        have hfz9_7 := blk_frozen BK222.out 7
        have hcz10_0 : w5.cell? ⟨gb223, 0, none⟩ = some (.int .i64 a1_0) := (blk_cell BK223.out 0).trans rfl
        have hcz10_1 : w5.cell? ⟨gb223, 1, none⟩ = some (.bool a1_1) := (blk_cell BK223.out 1).trans rfl
        have hcz10_2 : w5.cell? ⟨gb223, 2, none⟩ = some (.int .i64 a1_2) := (blk_cell BK223.out 2).trans rfl
        have hcz10_3 : w5.cell? ⟨gb223, 3, none⟩ = some (.int .i64 a1_3) := (blk_cell BK223.out 3).trans rfl
        have hcz10_4 : w5.cell? ⟨gb223, 4, none⟩ = some (.slice A1_4 l1_4.length c1_4) := (blk_cell BK223.out 4).trans rfl
        have hcz10_5 : w5.cell? ⟨gb223, 5, none⟩ = some (.slice A1_5 l1_5.length c1_5) := (blk_cell BK223.out 5).trans rfl
        have hcz10_6 : w5.cell? ⟨gb223, 6, none⟩ = some (.int .i64 a1_6) := (blk_cell BK223.out 6).trans rfl
        have hcz10_7 : w5.cell? ⟨gb223, 7, none⟩ = some (.bool a1_7) := (blk_cell BK223.out 7).trans rfl
        have hfz10_0 := blk_frozen BK223.out 0
        have hfz10_1 := blk_frozen BK223.out 1
        have hfz10_2 := blk_frozen BK223.out 2
        have hfz10_3 := blk_frozen BK223.out 3
        have hfz10_4 := blk_frozen BK223.out 4
        have hfz10_5 := blk_frozen BK223.out 5
        have hfz10_6 := blk_frozen BK223.out 6
        have hfz10_7 := blk_frozen BK223.out 7
        go_wp2
        go_meet
        case rel => exact ⟨_, (true), (by first | rfl | (simp; done) | (simp [*]; done)), H', ⟨by first | omega | exact Nat.le_refl _⟩, ⟨by (with_reducible repeat (first | refine blk_drewN ?_ _ | refine blk_drew ?_ | refine blk_alloc ?_ _)); exact BK222.out⟩, ⟨by (with_reducible repeat (first | refine blk_drewN ?_ _ | refine blk_drew ?_ | refine blk_alloc ?_ _)); exact BK223.out⟩, ⟨by repeat (first | (with_reducible first | exact HB.out | apply below_alloc | apply pw_below_drewN | apply below_drew1 | refine below_set ?_ GE222.out | refine below_set ?_ GE223.out) | exact HB.out)⟩⟩
      · rw [if_neg c7] at H
        have c7b0 : (a0_1 != a1_1) = false := by simpa using c7
        (try (have c7b1 : decide (a0_1 = a1_1) = true := by simpa using c7))
        (try (have c7b2 : (a0_1 == a1_1) = true := by simpa using c7))
        clear c7
        by_cases c11 : a0_2 = a1_2
        · rw [if_pos c11] at H
          have c11b0 : (a0_2 == a1_2) = true := beq_iff_eq.mpr c11
          have c11b1 : (a0_2 != a1_2) = false := bne_eq_false_iff_eq.mpr c11
          clear c11
          by_cases c12 : a0_3 = a1_3
          · rw [if_pos c12] at H
            have c12b0 : (a0_3 == a1_3) = true := beq_iff_eq.mpr c12
            have c12b1 : (a0_3 != a1_3) = false := bne_eq_false_iff_eq.mpr c12
            clear c12
            by_cases c13 : a0_6 = a1_6
            · rw [if_pos c13] at H
              have c13b0 : (a0_6 == a1_6) = true := beq_iff_eq.mpr c13
              have c13b1 : (a0_6 != a1_6) = false := bne_eq_false_iff_eq.mpr c13
              clear c13
              have H' := Aside0.mk H
              clear H
              have hnb14 := NB222_223.out
              have hnc14 := NB223_222.out
              have hcz15_0 : w5.cell? ⟨gb222, 0, none⟩ = some (.int .i64 a0_0) := (blk_cell BK222.out 0).trans rfl
              have hcz15_1 : w5.cell? ⟨gb222, 1, none⟩ = some (.bool a0_1) := (blk_cell BK222.out 1).trans rfl
              have hcz15_2 : w5.cell? ⟨gb222, 2, none⟩ = some (.int .i64 a0_2) := (blk_cell BK222.out 2).trans rfl
              have hcz15_3 : w5.cell? ⟨gb222, 3, none⟩ = some (.int .i64 a0_3) := (blk_cell BK222.out 3).trans rfl
              have hcz15_4 : w5.cell? ⟨gb222, 4, none⟩ = some (.slice A0_4 l0_4.length c0_4) := (blk_cell BK222.out 4).trans rfl
              have hcz15_5 : w5.cell? ⟨gb222, 5, none⟩ = some (.slice A0_5 l0_5.length c0_5) := (blk_cell BK222.out 5).trans rfl
              have hcz15_6 : w5.cell? ⟨gb222, 6, none⟩ = some (.int .i64 a0_6) := (blk_cell BK222.out 6).trans rfl
              have hcz15_7 : w5.cell? ⟨gb222, 7, none⟩ = some (.bool a0_7) := (blk_cell BK222.out 7).trans rfl
              have hfz15_0 := blk_frozen BK222.out 0
              have hfz15_1 := blk_frozen BK222.out 1
              have hfz15_2 := blk_frozen BK222.out 2
              have hfz15_3 := blk_frozen BK222.out 3
              have hfz15_4 := blk_frozen BK222.out 4
              have hfz15_5 := blk_frozen BK222.out 5
              have hfz15_6 := blk_frozen BK222.out 6
              have hfz15_7 := blk_frozen BK222.out 7
              have hcz16_0 : w5.cell? ⟨gb223, 0, none⟩ = some (.int .i64 a1_0) := (blk_cell BK223.out 0).trans rfl
              have hcz16_1 : w5.cell? ⟨gb223, 1, none⟩ = some (.bool a1_1) := (blk_cell BK223.out 1).trans rfl
              have hcz16_2 : w5.cell? ⟨gb223, 2, none⟩ = some (.int .i64 a1_2) := (blk_cell BK223.out 2).trans rfl
              have hcz16_3 : w5.cell? ⟨gb223, 3, none⟩ = some (.int .i64 a1_3) := (blk_cell BK223.out 3).trans rfl
              have hcz16_4 : w5.cell? ⟨gb223, 4, none⟩ = some (.slice A1_4 l1_4.length c1_4) := (blk_cell BK223.out 4).trans rfl
              have hcz16_5 : w5.cell? ⟨gb223, 5, none⟩ = some (.slice A1_5 l1_5.length c1_5) := (blk_cell BK223.out 5).trans rfl
              have hcz16_6 : w5.cell? ⟨gb223, 6, none⟩ = some (.int .i64 a1_6) := (blk_cell BK223.out 6).trans rfl
              have hcz16_7 : w5.cell? ⟨gb223, 7, none⟩ = some (.bool a1_7) := (blk_cell BK223.out 7).trans rfl
              have hfz16_0 := blk_frozen BK223.out 0
              have hfz16_1 := blk_frozen BK223.out 1
              have hfz16_2 := blk_frozen BK223.out 2
              have hfz16_3 := blk_frozen BK223.out 3
              have hfz16_4 := blk_frozen BK223.out 4
              have hfz16_5 := blk_frozen BK223.out 5
              have hfz16_6 := blk_frozen BK223.out 6
              have hfz16_7 := blk_frozen BK223.out 7
              go_wp2
              go_meet
              case rel => exact ⟨_, ((a0_7 != a1_7)), (by first | rfl | (simp; done) | (simp [*]; done)), H', ⟨by first | omega | exact Nat.le_refl _⟩, ⟨by (with_reducible repeat (first | refine blk_drewN ?_ _ | refine blk_drew ?_ | refine blk_alloc ?_ _)); exact BK222.out⟩, ⟨by (with_reducible repeat (first | refine blk_drewN ?_ _ | refine blk_drew ?_ | refine blk_alloc ?_ _)); exact BK223.out⟩, ⟨by repeat (first | (with_reducible first | exact HB.out | apply below_alloc | apply pw_below_drewN | apply below_drew1 | refine below_set ?_ GE222.out | refine below_set ?_ GE223.out) | exact HB.out)⟩⟩
            · rw [if_neg c13] at H
              have c13b0 : (a0_6 == a1_6) = false := beq_eq_false_iff_ne.mpr c13
              have c13b1 : (a0_6 != a1_6) = true := bne_iff_ne.mpr c13
              have H' := Aside0.mk H
              clear H
              have hnb17 := NB222_223.out
              have hnc17 := NB223_222.out
              have hcz18_0 : w5.cell? ⟨gb222, 0, none⟩ = some (.int .i64 a0_0) := (blk_cell BK222.out 0).trans rfl
              have hcz18_1 : w5.cell? ⟨gb222, 1, none⟩ = some (.bool a0_1) := (blk_cell BK222.out 1).trans rfl
              have hcz18_2 : w5.cell? ⟨gb222, 2, none⟩ = some (.int .i64 a0_2) := (blk_cell BK222.out 2).trans rfl
              have hcz18_3 : w5.cell? ⟨gb222, 3, none⟩ = some (.int .i64 a0_3) := (blk_cell BK222.out 3).trans rfl
              have hcz18_4 : w5.cell? ⟨gb222, 4, none⟩ = some (.slice A0_4 l0_4.length c0_4) := (blk_cell BK222.out 4).trans rfl
              have hcz18_5 : w5.cell? ⟨gb222, 5, none⟩ = some (.slice A0_5 l0_5.length c0_5) := (blk_cell BK222.out 5).trans rfl
              have hcz18_6 : w5.cell? ⟨gb222, 6, none⟩ = some (.int .i64 a0_6) := (blk_cell BK222.out 6).trans rfl
              have hcz18_7 : w5.cell? ⟨gb222, 7, none⟩ = some (.bool a0_7) := (blk_cell BK222.out 7).trans rfl
              have hfz18_0 := blk_frozen BK222.out 0
              have hfz18_1 := blk_frozen BK222.out 1
              have hfz18_2 := blk_frozen BK222.out 2
              have hfz18_3 := blk_frozen BK222.out 3
              have hfz18_4 := blk_frozen BK222.out 4
              have hfz18_5 := blk_frozen BK222.out 5
              have hfz18_6 := blk_frozen BK222.out 6
              have hfz18_7 := blk_frozen BK222.out 7
              have hcz19_0 : w5.cell? ⟨gb223, 0, none⟩ = some (.int .i64 a1_0) := (blk_cell BK223.out 0).trans rfl
              have hcz19_1 : w5.cell? ⟨gb223, 1, none⟩ = some (.bool a1_1) := (blk_cell BK223.out 1).trans rfl
              have hcz19_2 : w5.cell? ⟨gb223, 2, none⟩ = some (.int .i64 a1_2) := (blk_cell BK223.out 2).trans rfl
              have hcz19_3 : w5.cell? ⟨gb223, 3, none⟩ = some (.int .i64 a1_3) := (blk_cell BK223.out 3).trans rfl
              have hcz19_4 : w5.cell? ⟨gb223, 4, none⟩ = some (.slice A1_4 l1_4.length c1_4) := (blk_cell BK223.out 4).trans rfl
              have hcz19_5 : w5.cell? ⟨gb223, 5, none⟩ = some (.slice A1_5 l1_5.length c1_5) := (blk_cell BK223.out 5).trans rfl
              have hcz19_6 : w5.cell? ⟨gb223, 6, none⟩ = some (.int .i64 a1_6) := (blk_cell BK223.out 6).trans rfl
              have hcz19_7 : w5.cell? ⟨gb223, 7, none⟩ = some (.bool a1_7) := (blk_cell BK223.out 7).trans rfl
              have hfz19_0 := blk_frozen BK223.out 0
              have hfz19_1 := blk_frozen BK223.out 1
              have hfz19_2 := blk_frozen BK223.out 2
              have hfz19_3 := blk_frozen BK223.out 3
              have hfz19_4 := blk_frozen BK223.out 4
              have hfz19_5 := blk_frozen BK223.out 5
              have hfz19_6 := blk_frozen BK223.out 6
              have hfz19_7 := blk_frozen BK223.out 7
              go_wp2
              go_meet
              case rel => exact ⟨_, (true), (by first | rfl | (simp; done) | (simp [*]; done)), H', ⟨by first | omega | exact Nat.le_refl _⟩, ⟨by (with_reducible repeat (first | refine blk_drewN ?_ _ | refine blk_drew ?_ | refine blk_alloc ?_ _)); exact BK222.out⟩, ⟨by (with_reducible repeat (first | refine blk_drewN ?_ _ | refine blk_drew ?_ | refine blk_alloc ?_ _)); exact BK223.out⟩, ⟨by repeat (first | (with_reducible first | exact HB.out | apply below_alloc | apply pw_below_drewN | apply below_drew1 | refine below_set ?_ GE222.out | refine below_set ?_ GE223.out) | exact HB.out)⟩⟩
          · rw [if_neg c12] at H
            have c12b0 : (a0_3 == a1_3) = false := beq_eq_false_iff_ne.mpr c12
            have c12b1 : (a0_3 != a1_3) = true := bne_iff_ne.mpr c12
            have H' := Aside0.mk H
            clear H
            have hnb20 := NB222_223.out
            have hnc20 := NB223_222.out
            have hcz21_0 : w5.cell? ⟨gb222, 0, none⟩ = some (.int .i64 a0_0) := (blk_cell BK222.out 0).trans rfl
            have hcz21_1 : w5.cell? ⟨gb222, 1, none⟩ = some (.bool a0_1) := (blk_cell BK222.out 1).trans rfl
            have hcz21_2 : w5.cell? ⟨gb222, 2, none⟩ = some (.int .i64 a0_2) := (blk_cell BK222.out 2).trans rfl
            have hcz21_3 : w5.cell? ⟨gb222, 3, none⟩ = some (.int .i64 a0_3) := (blk_cell BK222.out 3).trans rfl
            have hcz21_4 : w5.cell? ⟨gb222, 4, none⟩ = some (.slice A0_4 l0_4.length c0_4) := (blk_cell BK222.out 4).trans rfl
            have hcz21_5 : w5.cell? ⟨gb222, 5, none⟩ = some (.slice A0_5 l0_5.length c0_5) := (blk_cell BK222.out 5).trans rfl
            have hcz21_6 : w5.cell? ⟨gb222, 6, none⟩ = some (.int .i64 a0_6) := (blk_cell BK222.out 6).trans rfl
            have hcz21_7 : w5.cell? ⟨gb222, 7, none⟩ = some (.bool a0_7) := (blk_cell BK222.out 7).trans rfl
            have hfz21_0 := blk_frozen BK222.out 0
            have hfz21_1 := blk_frozen BK222.out 1
            have hfz21_2 := blk_frozen BK222.out 2
            have hfz21_3 := blk_frozen BK222.out 3
            have hfz21_4 := blk_frozen BK222.out 4
            have hfz21_5 := blk_frozen BK222.out 5
            have hfz21_6 := blk_frozen BK222.out 6
            have hfz21_7 := blk_frozen BK222.out 7
            have hcz22_0 : w5.cell? ⟨gb223, 0, none⟩ = some (.int .i64 a1_0) := (blk_cell BK223.out 0).trans rfl
            have hcz22_1 : w5.cell? ⟨gb223, 1, none⟩ = some (.bool a1_1) := (blk_cell BK223.out 1).trans rfl
            have hcz22_2 : w5.cell? ⟨gb223, 2, none⟩ = some (.int .i64 a1_2) := (blk_cell BK223.out 2).trans rfl
            have hcz22_3 : w5.cell? ⟨gb223, 3, none⟩ = some (.int .i64 a1_3) := (blk_cell BK223.out 3).trans rfl
            have hcz22_4 : w5.cell? ⟨gb223, 4, none⟩ = some (.slice A1_4 l1_4.length c1_4) := (blk_cell BK223.out 4).trans rfl
            have hcz22_5 : w5.cell? ⟨gb223, 5, none⟩ = some (.slice A1_5 l1_5.length c1_5) := (blk_cell BK223.out 5).trans rfl
            have hcz22_6 : w5.cell? ⟨gb223, 6, none⟩ = some (.int .i64 a1_6) := (blk_cell BK223.out 6).trans rfl
            have hcz22_7 : w5.cell? ⟨gb223, 7, none⟩ = some (.bool a1_7) := (blk_cell BK223.out 7).trans rfl
            have hfz22_0 := blk_frozen BK223.out 0
            have hfz22_1 := blk_frozen BK223.out 1
            have hfz22_2 := blk_frozen BK223.out 2
            have hfz22_3 := blk_frozen BK223.out 3
            have hfz22_4 := blk_frozen BK223.out 4
            have hfz22_5 := blk_frozen BK223.out 5
            have hfz22_6 := blk_frozen BK223.out 6
            have hfz22_7 := blk_frozen BK223.out 7
            go_wp2
            go_meet
            case rel => exact ⟨_, (true), (by first | rfl | (simp; done) | (simp [*]; done)), H', ⟨by first | omega | exact Nat.le_refl _⟩, ⟨by (with_reducible repeat (first | refine blk_drewN ?_ _ | refine blk_drew ?_ | refine blk_alloc ?_ _)); exact BK222.out⟩, ⟨by (with_reducible repeat (first | refine blk_drewN ?_ _ | refine blk_drew ?_ | refine blk_alloc ?_ _)); exact BK223.out⟩, ⟨by repeat (first | (with_reducible first | exact HB.out | apply below_alloc | apply pw_below_drewN | apply below_drew1 | refine below_set ?_ GE222.out | refine below_set ?_ GE223.out) | exact HB.out)⟩⟩
        · rw [if_neg c11] at H
          have c11b0 : (a0_2 == a1_2) = false := beq_eq_false_iff_ne.mpr c11
          have c11b1 : (a0_2 != a1_2) = true := bne_iff_ne.mpr c11
          have H' := Aside0.mk H
          clear H
          have hnb23 := NB222_223.out
          have hnc23 := NB223_222.out
          have hcz24_0 : w5.cell? ⟨gb222, 0, none⟩ = some (.int .i64 a0_0) := (blk_cell BK222.out 0).trans rfl
          have hcz24_1 : w5.cell? ⟨gb222, 1, none⟩ = some (.bool a0_1) := (blk_cell BK222.out 1).trans rfl
          have hcz24_2 : w5.cell? ⟨gb222, 2, none⟩ = some (.int .i64 a0_2) := (blk_cell BK222.out 2).trans rfl
          have hcz24_3 : w5.cell? ⟨gb222, 3, none⟩ = some (.int .i64 a0_3) := (blk_cell BK222.out 3).trans rfl
          have hcz24_4 : w5.cell? ⟨gb222, 4, none⟩ = some (.slice A0_4 l0_4.length c0_4) := (blk_cell BK222.out 4).trans rfl
          have hcz24_5 : w5.cell? ⟨gb222, 5, none⟩ = some (.slice A0_5 l0_5.length c0_5) := (blk_cell BK222.out 5).trans rfl
          have hcz24_6 : w5.cell? ⟨gb222, 6, none⟩ = some (.int .i64 a0_6) := (blk_cell BK222.out 6).trans rfl
          have hcz24_7 : w5.cell? ⟨gb222, 7, none⟩ = some (.bool a0_7) := (blk_cell BK222.out 7).trans rfl
          have hfz24_0 := blk_frozen BK222.out 0
          have hfz24_1 := blk_frozen BK222.out 1
          have hfz24_2 := blk_frozen BK222.out 2
          have hfz24_3 := blk_frozen BK222.out 3
          have hfz24_4 := blk_frozen BK222.out 4
          have hfz24_5 := blk_frozen BK222.out 5
          have hfz24_6 := blk_frozen BK222.out 6
          have hfz24_7 := blk_frozen BK222.out 7
          have hcz25_0 : w5.cell? ⟨gb223, 0, none⟩ = some (.int .i64 a1_0) := (blk_cell BK223.out 0).trans rfl
          have hcz25_1 : w5.cell? ⟨gb223, 1, none⟩ = some (.bool a1_1) := (blk_cell BK223.out 1).trans rfl
          have hcz25_2 : w5.cell? ⟨gb223, 2, none⟩ = some (.int .i64 a1_2) := (blk_cell BK223.out 2).trans rfl
          have hcz25_3 : w5.cell? ⟨gb223, 3, none⟩ = some (.int .i64 a1_3) := (blk_cell BK223.out 3).trans rfl
          have hcz25_4 : w5.cell? ⟨gb223, 4, none⟩ = some (.slice A1_4 l1_4.length c1_4) := (blk_cell BK223.out 4).trans rfl
          have hcz25_5 : w5.cell? ⟨gb223, 5, none⟩ = some (.slice A1_5 l1_5.length c1_5) := (blk_cell BK223.out 5).trans rfl
          have hcz25_6 : w5.cell? ⟨gb223, 6, none⟩ = some (.int .i64 a1_6) := (blk_cell BK223.out 6).trans rfl
          have hcz25_7 : w5.cell? ⟨gb223, 7, none⟩ = some (.bool a1_7) := (blk_cell BK223.out 7).trans rfl
          have hfz25_0 := blk_frozen BK223.out 0
          have hfz25_1 := blk_frozen BK223.out 1
          have hfz25_2 := blk_frozen BK223.out 2
          have hfz25_3 := blk_frozen BK223.out 3
          have hfz25_4 := blk_frozen BK223.out 4
          have hfz25_5 := blk_frozen BK223.out 5
          have hfz25_6 := blk_frozen BK223.out 6
          have hfz25_7 := blk_frozen BK223.out 7
          go_wp2
          go_meet
          case rel => exact ⟨_, (true), (by first | rfl | (simp; done) | (simp [*]; done)), H', ⟨by first | omega | exact Nat.le_refl _⟩, ⟨by (with_reducible repeat (first | refine blk_drewN ?_ _ | refine blk_drew ?_ | refine blk_alloc ?_ _)); exact BK222.out⟩, ⟨by (with_reducible repeat (first | refine blk_drewN ?_ _ | refine blk_drew ?_ | refine blk_alloc ?_ _)); exact BK223.out⟩, ⟨by repeat (first | (with_reducible first | exact HB.out | apply below_alloc | apply pw_below_drewN | apply below_drew1 | refine below_set ?_ GE222.out | refine below_set ?_ GE223.out) | exact HB.out)⟩⟩
    · rw [if_neg c6] at H
      have c6b0 : (a0_0 == a1_0) = false := beq_eq_false_iff_ne.mpr c6
      have c6b1 : (a0_0 != a1_0) = true := bne_iff_ne.mpr c6
      (first | rw [c6b0] | (simp only [i64_w, i32_w]; rw [c6b0]) | skip)
      have H' := Aside0.mk H
      clear H
      have hnb26 := NB222_223.out
      have hnc26 := NB223_222.out
      have hcz27_0 : w5.cell? ⟨gb222, 0, none⟩ = some (.int .i64 a0_0) := (blk_cell BK222.out 0).trans rfl
      have hcz27_1 : w5.cell? ⟨gb222, 1, none⟩ = some (.bool a0_1) := (blk_cell BK222.out 1).trans rfl
      have hcz27_2 : w5.cell? ⟨gb222, 2, none⟩ = some (.int .i64 a0_2) := (blk_cell BK222.out 2).trans rfl
      have hcz27_3 : w5.cell? ⟨gb222, 3, none⟩ = some (.int .i64 a0_3) := (blk_cell BK222.out 3).trans rfl
      have hcz27_4 : w5.cell? ⟨gb222, 4, none⟩ = some (.slice A0_4 l0_4.length c0_4) := (blk_cell BK222.out 4).trans rfl
      have hcz27_5 : w5.cell? ⟨gb222, 5, none⟩ = some (.slice A0_5 l0_5.length c0_5) := (blk_cell BK222.out 5).trans rfl
      have hcz27_6 : w5.cell? ⟨gb222, 6, none⟩ = some (.int .i64 a0_6) := (blk_cell BK222.out 6).trans rfl
      have hcz27_7 : w5.cell? ⟨gb222, 7, none⟩ = some (.bool a0_7) := (blk_cell BK222.out 7).trans rfl
      have hfz27_0 := blk_frozen BK222.out 0
      have hfz27_1 := blk_frozen BK222.out 1
      have hfz27_2 := blk_frozen BK222.out 2
      have hfz27_3 := blk_frozen BK222.out 3
      have hfz27_4 := blk_frozen BK222.out 4
      have hfz27_5 := blk_frozen BK222.out 5
      have hfz27_6 := blk_frozen BK222.out 6
      have hfz27_7 := blk_frozen BK222.out 7
      have hcz28_0 : w5.cell? ⟨gb223, 0, none⟩ = some (.int .i64 a1_0) := (blk_cell BK223.out 0).trans rfl
      have hcz28_1 : w5.cell? ⟨gb223, 1, none⟩ = some (.bool a1_1) := (blk_cell BK223.out 1).trans rfl
      have hcz28_2 : w5.cell? ⟨gb223, 2, none⟩ = some (.int .i64 a1_2) := (blk_cell BK223.out 2).trans rfl
      have hcz28_3 : w5.cell? ⟨gb223, 3, none⟩ = some (.int .i64 a1_3) := (blk_cell BK223.out 3).trans rfl
      have hcz28_4 : w5.cell? ⟨gb223, 4, none⟩ = some (.slice A1_4 l1_4.length c1_4) := (blk_cell BK223.out 4).trans rfl
      have hcz28_5 : w5.cell? ⟨gb223, 5, none⟩ = some (.slice A1_5 l1_5.length c1_5) := (blk_cell BK223.out 5).trans rfl
      have hcz28_6 : w5.cell? ⟨gb223, 6, none⟩ = some (.int .i64 a1_6) := (blk_cell BK223.out 6).trans rfl
      have hcz28_7 : w5.cell? ⟨gb223, 7, none⟩ = some (.bool a1_7) := (blk_cell BK223.out 7).trans rfl
      have hfz28_0 := blk_frozen BK223.out 0
      have hfz28_1 := blk_frozen BK223.out 1
      have hfz28_2 := blk_frozen BK223.out 2
      have hfz28_3 := blk_frozen BK223.out 3
      have hfz28_4 := blk_frozen BK223.out 4
      have hfz28_5 := blk_frozen BK223.out 5
      have hfz28_6 := blk_frozen BK223.out 6
      have hfz28_7 := blk_frozen BK223.out 7
      go_wp2
      go_meet
      case rel => exact ⟨_, (true), (by first | rfl | (simp; done) | (simp [*]; done)), H', ⟨by first | omega | exact Nat.le_refl _⟩, ⟨by (with_reducible repeat (first | refine blk_drewN ?_ _ | refine blk_drew ?_ | refine blk_alloc ?_ _)); exact BK222.out⟩, ⟨by (with_reducible repeat (first | refine blk_drewN ?_ _ | refine blk_drew ?_ | refine blk_alloc ?_ _)); exact BK223.out⟩, ⟨by repeat (first | (with_reducible first | exact HB.out | apply below_alloc | apply pw_below_drewN | apply below_drew1 | refine below_set ?_ GE222.out | refine below_set ?_ GE223.out) | exact HB.out)⟩⟩
  case rest =>
    clear HC3
    try clear c1
    try clear c2
    try clear p2
    try clear c6
    try clear c6b0
    try clear c6b1
    try clear c7
    try clear c7b0
    try clear c7b1
    try clear c7b2
    try clear c8
    try clear c11
    try clear c11b0
    try clear c11b1
    try clear c12
    try clear c12b0
    try clear c12b1
    try clear c13
    try clear c13b0
    try clear c13b1
    try clear c14
    try clear c17
    try clear c20
    try clear c23
    try clear c26
    try clear hcz10_0
    try clear hcz10_1
    try clear hcz10_2
    try clear hcz10_3
    try clear hcz10_4
    try clear hcz10_5
    try clear hcz10_6
    try clear hcz10_7
    try clear hcz15_0
    try clear hcz15_1
    try clear hcz15_2
    try clear hcz15_3
    try clear hcz15_4
    try clear hcz15_5
    try clear hcz15_6
    try clear hcz15_7
    try clear hcz16_0
    try clear hcz16_1
    try clear hcz16_2
    try clear hcz16_3
    try clear hcz16_4
    try clear hcz16_5
    try clear hcz16_6
    try clear hcz16_7
    try clear hcz18_0
    try clear hcz18_1
    try clear hcz18_2
    try clear hcz18_3
    try clear hcz18_4
    try clear hcz18_5
    try clear hcz18_6
    try clear hcz18_7
    try clear hcz19_0
    try clear hcz19_1
    try clear hcz19_2
    try clear hcz19_3
    try clear hcz19_4
    try clear hcz19_5
    try clear hcz19_6
    try clear hcz19_7
    try clear hcz21_0
    try clear hcz21_1
    try clear hcz21_2
    try clear hcz21_3
    try clear hcz21_4
    try clear hcz21_5
    try clear hcz21_6
    try clear hcz21_7
    try clear hcz22_0
    try clear hcz22_1
    try clear hcz22_2
    try clear hcz22_3
    try clear hcz22_4
    try clear hcz22_5
    try clear hcz22_6
    try clear hcz22_7
    try clear hcz24_0
    try clear hcz24_1
    try clear hcz24_2
    try clear hcz24_3
    try clear hcz24_4
    try clear hcz24_5
    try clear hcz24_6
    try clear hcz24_7
    try clear hcz25_0
    try clear hcz25_1
    try clear hcz25_2
    try clear hcz25_3
    try clear hcz25_4
    try clear hcz25_5
    try clear hcz25_6
    try clear hcz25_7
    try clear hcz27_0
    try clear hcz27_1
    try clear hcz27_2
    try clear hcz27_3
    try clear hcz27_4
    try clear hcz27_5
    try clear hcz27_6
    try clear hcz27_7
    try clear hcz28_0
    try clear hcz28_1
    try clear hcz28_2
    try clear hcz28_3
    try clear hcz28_4
    try clear hcz28_5
    try clear hcz28_6
    try clear hcz28_7
    try clear hcz9_0
    try clear hcz9_1
    try clear hcz9_2
    try clear hcz9_3
    try clear hcz9_4
    try clear hcz9_5
    try clear hcz9_6
    try clear hcz9_7
    try clear hfz10_0
    try clear hfz10_1
    try clear hfz10_2
    try clear hfz10_3
    try clear hfz10_4
    try clear hfz10_5
    try clear hfz10_6
    try clear hfz10_7
    try clear hfz15_0
    try clear hfz15_1
    try clear hfz15_2
    try clear hfz15_3
    try clear hfz15_4
    try clear hfz15_5
    try clear hfz15_6
    try clear hfz15_7
    try clear hfz16_0
    try clear hfz16_1
    try clear hfz16_2
    try clear hfz16_3
    try clear hfz16_4
    try clear hfz16_5
    try clear hfz16_6
    try clear hfz16_7
    try clear hfz18_0
    try clear hfz18_1
    try clear hfz18_2
    try clear hfz18_3
    try clear hfz18_4
    try clear hfz18_5
    try clear hfz18_6
    try clear hfz18_7
    try clear hfz19_0
    try clear hfz19_1
    try clear hfz19_2
    try clear hfz19_3
    try clear hfz19_4
    try clear hfz19_5
    try clear hfz19_6
    try clear hfz19_7
    try clear hfz21_0
    try clear hfz21_1
    try clear hfz21_2
    try clear hfz21_3
    try clear hfz21_4
    try clear hfz21_5
    try clear hfz21_6
    try clear hfz21_7
    try clear hfz22_0
    try clear hfz22_1
    try clear hfz22_2
    try clear hfz22_3
    try clear hfz22_4
    try clear hfz22_5
    try clear hfz22_6
    try clear hfz22_7
    try clear hfz24_0
    try clear hfz24_1
    try clear hfz24_2
    try clear hfz24_3
    try clear hfz24_4
    try clear hfz24_5
    try clear hfz24_6
    try clear hfz24_7
    try clear hfz25_0
    try clear hfz25_1
    try clear hfz25_2
    try clear hfz25_3
    try clear hfz25_4
    try clear hfz25_5
    try clear hfz25_6
    try clear hfz25_7
    try clear hfz27_0
    try clear hfz27_1
    try clear hfz27_2
    try clear hfz27_3
    try clear hfz27_4
    try clear hfz27_5
    try clear hfz27_6
    try clear hfz27_7
    try clear hfz28_0
    try clear hfz28_1
    try clear hfz28_2
    try clear hfz28_3
    try clear hfz28_4
    try clear hfz28_5
    try clear hfz28_6
    try clear hfz28_7
    try clear hfz9_0
    try clear hfz9_1
    try clear hfz9_2
    try clear hfz9_3
    try clear hfz9_4
    try clear hfz9_5
    try clear hfz9_6
    try clear hfz9_7
    obtain ⟨kq, x44_2, rfl, HA, HJ2, BK222, BK223, HB⟩ := hcut
    cases kq with
    | zero => exact absurd HA.out (by simp [serinetteref19_Alike.j0])
    | succ kj2 =>
      have H := HA.out
      clear HA
      simp only [serinetteref19_Alike.j0] at H
      by_cases c29 : x44_2 = true
      · subst c29
        have H1 : (some false) = some r := by rw [if_pos rfl] at H; exact H
        clear H
        have H := H1
        clear H1
        obtain rfl := Option.some.inj H
        go_wp2
        go_ret
        exact ⟨by first | rfl | (simp [errW_none, errW_some] <;> rfl) | (simp [*, errW_none, errW_some] <;> rfl), by repeat (first | (with_reducible first | exact HB.out | apply below_alloc | apply pw_below_drewN | apply below_drew1 | refine below_set ?_ GE222.out | refine below_set ?_ GE223.out) | exact HB.out)⟩
      · replace c29 := Bool.eq_false_iff.mpr c29
        subst c29
        have H1 : ((serinetteref01_Ints.f kj2 l0_4 l1_4).bind fun t224 => (if t224 = true then ((serinetteref01_Ints.f kj2 l0_5 l1_5).bind fun t225 => (some t225)) else (some false))) = some r := by rw [if_neg (show ¬ (false = true) by decide)] at H; exact H
        clear H
        have H := H1
        clear H1
        replace H := Option.bind_eq_some_iff.mp H
        obtain ⟨t224, A300, H⟩ := H
        replace H : (if t224 = true then ((serinetteref01_Ints.f kj2 l0_5 l1_5).bind fun t225 => (some t225)) else (some false)) = some r := H
        have A30 := Aside0.mk A300
        clear A300
        by_cases c31 : t224 = true
        · subst c31
          have H1 : ((serinetteref01_Ints.f kj2 l0_5 l1_5).bind fun t225 => (some t225)) = some r := by rw [if_pos rfl] at H; exact H
          clear H
          have H := H1
          clear H1
          replace H := Option.bind_eq_some_iff.mp H
          obtain ⟨t225, A320, H⟩ := H
          replace H : (some t225) = some r := H
          have A32 := Aside0.mk A320
          clear A320
          obtain rfl := Option.some.inj H
          have hnb33 := NB222_223.out
          have hnc33 := NB223_222.out
          have hcz34_0 : wc.cell? ⟨gb222, 0, none⟩ = some (.int .i64 a0_0) := (blk_cell BK222.out 0).trans rfl
          have hcz34_1 : wc.cell? ⟨gb222, 1, none⟩ = some (.bool a0_1) := (blk_cell BK222.out 1).trans rfl
          have hcz34_2 : wc.cell? ⟨gb222, 2, none⟩ = some (.int .i64 a0_2) := (blk_cell BK222.out 2).trans rfl
          have hcz34_3 : wc.cell? ⟨gb222, 3, none⟩ = some (.int .i64 a0_3) := (blk_cell BK222.out 3).trans rfl
          have hcz34_4 : wc.cell? ⟨gb222, 4, none⟩ = some (.slice A0_4 l0_4.length c0_4) := (blk_cell BK222.out 4).trans rfl
          have hcz34_5 : wc.cell? ⟨gb222, 5, none⟩ = some (.slice A0_5 l0_5.length c0_5) := (blk_cell BK222.out 5).trans rfl
          have hcz34_6 : wc.cell? ⟨gb222, 6, none⟩ = some (.int .i64 a0_6) := (blk_cell BK222.out 6).trans rfl
          have hcz34_7 : wc.cell? ⟨gb222, 7, none⟩ = some (.bool a0_7) := (blk_cell BK222.out 7).trans rfl
          have hfz34_0 := blk_frozen BK222.out 0
          have hfz34_1 := blk_frozen BK222.out 1
          have hfz34_2 := blk_frozen BK222.out 2
          have hfz34_3 := blk_frozen BK222.out 3
          have hfz34_4 := blk_frozen BK222.out 4
          have hfz34_5 := blk_frozen BK222.out 5
          have hfz34_6 := blk_frozen BK222.out 6
          have hfz34_7 := blk_frozen BK222.out 7
          have hcz35_0 : wc.cell? ⟨gb223, 0, none⟩ = some (.int .i64 a1_0) := (blk_cell BK223.out 0).trans rfl
          have hcz35_1 : wc.cell? ⟨gb223, 1, none⟩ = some (.bool a1_1) := (blk_cell BK223.out 1).trans rfl
          have hcz35_2 : wc.cell? ⟨gb223, 2, none⟩ = some (.int .i64 a1_2) := (blk_cell BK223.out 2).trans rfl
          have hcz35_3 : wc.cell? ⟨gb223, 3, none⟩ = some (.int .i64 a1_3) := (blk_cell BK223.out 3).trans rfl
          have hcz35_4 : wc.cell? ⟨gb223, 4, none⟩ = some (.slice A1_4 l1_4.length c1_4) := (blk_cell BK223.out 4).trans rfl
          have hcz35_5 : wc.cell? ⟨gb223, 5, none⟩ = some (.slice A1_5 l1_5.length c1_5) := (blk_cell BK223.out 5).trans rfl
          have hcz35_6 : wc.cell? ⟨gb223, 6, none⟩ = some (.int .i64 a1_6) := (blk_cell BK223.out 6).trans rfl
          have hcz35_7 : wc.cell? ⟨gb223, 7, none⟩ = some (.bool a1_7) := (blk_cell BK223.out 7).trans rfl
          have hfz35_0 := blk_frozen BK223.out 0
          have hfz35_1 := blk_frozen BK223.out 1
          have hfz35_2 := blk_frozen BK223.out 2
          have hfz35_3 := blk_frozen BK223.out 3
          have hfz35_4 := blk_frozen BK223.out 4
          have hfz35_5 := blk_frozen BK223.out 5
          have hfz35_6 := blk_frozen BK223.out 6
          have hfz35_7 := blk_frozen BK223.out 7
          go_wp2_with (first | ((with_reducible refine gate_callee (f := 23) rfl ?_); refine goesL_ (some 49) rfl rfl Tryd.func23 (by kernel_rfl) rfl #[.slice A0_4 l0_4.length c0_4, .slice A1_4 l1_4.length c1_4] rfl (by (try simp only [List.map_toArray, List.map_cons, List.map_nil]); first | done | rfl | (simp only [List.length_drop, List.length_take]; rfl)) ?_; (with_reducible refine (serinetteref01_Ints.calls kj2 _ _ l0_4 _ _ l1_4 true _ ?side1 ?side2 ?side3 ?side4 A30.out).mono ?_); (case side1 => repeat (first | exact (Kd.C_below HR0_4.out HB.out) | (with_reducible refine Kd.C_alloc ?_ _) | (with_reducible refine Kd.C_drewN ?_ _) | (with_reducible refine Kd.C_drew ?_))); (case side2 => exact HC0_4.out); (case side3 => repeat (first | exact (Kd.C_below HR1_4.out HB.out) | (with_reducible refine Kd.C_alloc ?_ _) | (with_reducible refine Kd.C_drewN ?_ _) | (with_reducible refine Kd.C_drew ?_))); (case side4 => exact HC1_4.out); rintro e w' ⟨rfl, ⟨nd, rfl⟩⟩; refine ⟨_, rfl, ?_⟩) | (go_at_call 23; (with_reducible refine (serinetteref01_Ints.calls kj2 _ _ l0_5 _ _ l1_5 t225 _ ?side1 ?side2 ?side3 ?side4 A32.out).mono ?_); (case side1 => repeat (first | exact (Kd.C_below HR0_5.out (by repeat (first | (with_reducible first | exact HB.out | apply below_alloc | apply pw_below_drewN | apply below_drew1 | refine below_set ?_ GE222.out | refine below_set ?_ GE223.out) | exact HB.out))) | (with_reducible refine Kd.C_alloc ?_ _) | (with_reducible refine Kd.C_drewN ?_ _) | (with_reducible refine Kd.C_drew ?_))); (case side2 => exact HC0_5.out); (case side3 => repeat (first | exact (Kd.C_below HR1_5.out (by repeat (first | (with_reducible first | exact HB.out | apply below_alloc | apply pw_below_drewN | apply below_drew1 | refine below_set ?_ GE222.out | refine below_set ?_ GE223.out) | exact HB.out))) | (with_reducible refine Kd.C_alloc ?_ _) | (with_reducible refine Kd.C_drewN ?_ _) | (with_reducible refine Kd.C_drew ?_))); (case side4 => exact HC1_5.out); rintro e w' ⟨rfl, ⟨nd, rfl⟩⟩))
          go_ret
          exact ⟨by first | rfl | (simp [errW_none, errW_some] <;> rfl) | (simp [*, errW_none, errW_some] <;> rfl), by repeat (first | (with_reducible first | exact HB.out | apply below_alloc | apply pw_below_drewN | apply below_drew1 | refine below_set ?_ GE222.out | refine below_set ?_ GE223.out) | exact HB.out)⟩
        · replace c31 := Bool.eq_false_iff.mpr c31
          subst c31
          have H1 : (some false) = some r := by rw [if_neg (show ¬ (false = true) by decide)] at H; exact H
          clear H
          have H := H1
          clear H1
          obtain rfl := Option.some.inj H
          have hnb36 := NB222_223.out
          have hnc36 := NB223_222.out
          have hcz37_0 : wc.cell? ⟨gb222, 0, none⟩ = some (.int .i64 a0_0) := (blk_cell BK222.out 0).trans rfl
          have hcz37_1 : wc.cell? ⟨gb222, 1, none⟩ = some (.bool a0_1) := (blk_cell BK222.out 1).trans rfl
          have hcz37_2 : wc.cell? ⟨gb222, 2, none⟩ = some (.int .i64 a0_2) := (blk_cell BK222.out 2).trans rfl
          have hcz37_3 : wc.cell? ⟨gb222, 3, none⟩ = some (.int .i64 a0_3) := (blk_cell BK222.out 3).trans rfl
          have hcz37_4 : wc.cell? ⟨gb222, 4, none⟩ = some (.slice A0_4 l0_4.length c0_4) := (blk_cell BK222.out 4).trans rfl
          have hcz37_5 : wc.cell? ⟨gb222, 5, none⟩ = some (.slice A0_5 l0_5.length c0_5) := (blk_cell BK222.out 5).trans rfl
          have hcz37_6 : wc.cell? ⟨gb222, 6, none⟩ = some (.int .i64 a0_6) := (blk_cell BK222.out 6).trans rfl
          have hcz37_7 : wc.cell? ⟨gb222, 7, none⟩ = some (.bool a0_7) := (blk_cell BK222.out 7).trans rfl
          have hfz37_0 := blk_frozen BK222.out 0
          have hfz37_1 := blk_frozen BK222.out 1
          have hfz37_2 := blk_frozen BK222.out 2
          have hfz37_3 := blk_frozen BK222.out 3
          have hfz37_4 := blk_frozen BK222.out 4
          have hfz37_5 := blk_frozen BK222.out 5
          have hfz37_6 := blk_frozen BK222.out 6
          have hfz37_7 := blk_frozen BK222.out 7
          have hcz38_0 : wc.cell? ⟨gb223, 0, none⟩ = some (.int .i64 a1_0) := (blk_cell BK223.out 0).trans rfl
          have hcz38_1 : wc.cell? ⟨gb223, 1, none⟩ = some (.bool a1_1) := (blk_cell BK223.out 1).trans rfl
          have hcz38_2 : wc.cell? ⟨gb223, 2, none⟩ = some (.int .i64 a1_2) := (blk_cell BK223.out 2).trans rfl
          have hcz38_3 : wc.cell? ⟨gb223, 3, none⟩ = some (.int .i64 a1_3) := (blk_cell BK223.out 3).trans rfl
          have hcz38_4 : wc.cell? ⟨gb223, 4, none⟩ = some (.slice A1_4 l1_4.length c1_4) := (blk_cell BK223.out 4).trans rfl
          have hcz38_5 : wc.cell? ⟨gb223, 5, none⟩ = some (.slice A1_5 l1_5.length c1_5) := (blk_cell BK223.out 5).trans rfl
          have hcz38_6 : wc.cell? ⟨gb223, 6, none⟩ = some (.int .i64 a1_6) := (blk_cell BK223.out 6).trans rfl
          have hcz38_7 : wc.cell? ⟨gb223, 7, none⟩ = some (.bool a1_7) := (blk_cell BK223.out 7).trans rfl
          have hfz38_0 := blk_frozen BK223.out 0
          have hfz38_1 := blk_frozen BK223.out 1
          have hfz38_2 := blk_frozen BK223.out 2
          have hfz38_3 := blk_frozen BK223.out 3
          have hfz38_4 := blk_frozen BK223.out 4
          have hfz38_5 := blk_frozen BK223.out 5
          have hfz38_6 := blk_frozen BK223.out 6
          have hfz38_7 := blk_frozen BK223.out 7
          go_wp2_with (first | ((with_reducible refine gate_callee (f := 23) rfl ?_); refine goesL_ (some 49) rfl rfl Tryd.func23 (by kernel_rfl) rfl #[.slice A0_4 l0_4.length c0_4, .slice A1_4 l1_4.length c1_4] rfl (by (try simp only [List.map_toArray, List.map_cons, List.map_nil]); first | done | rfl | (simp only [List.length_drop, List.length_take]; rfl)) ?_; (with_reducible refine (serinetteref01_Ints.calls kj2 _ _ l0_4 _ _ l1_4 false _ ?side1 ?side2 ?side3 ?side4 A30.out).mono ?_); (case side1 => repeat (first | exact (Kd.C_below HR0_4.out HB.out) | (with_reducible refine Kd.C_alloc ?_ _) | (with_reducible refine Kd.C_drewN ?_ _) | (with_reducible refine Kd.C_drew ?_))); (case side2 => exact HC0_4.out); (case side3 => repeat (first | exact (Kd.C_below HR1_4.out HB.out) | (with_reducible refine Kd.C_alloc ?_ _) | (with_reducible refine Kd.C_drewN ?_ _) | (with_reducible refine Kd.C_drew ?_))); (case side4 => exact HC1_4.out); rintro e w' ⟨rfl, ⟨nd, rfl⟩⟩; refine ⟨_, rfl, ?_⟩))
          go_ret
          exact ⟨by first | rfl | (simp [errW_none, errW_some] <;> rfl) | (simp [*, errW_none, errW_some] <;> rfl), by repeat (first | (with_reducible first | exact HB.out | apply below_alloc | apply pw_below_drewN | apply below_drew1 | refine below_set ?_ GE222.out | refine below_set ?_ GE223.out) | exact HB.out)⟩

/-! ### preset_within: function 24 -/
def preset_within.f (a0 : Int) (a1 : Int) (a2 : Int) : Option (Bool) := if a0 ≥ a1 then (some (decide (a0 ≤ a2))) else (some false)
set_option maxHeartbeats 8000000 in
set_option maxRecDepth 100000 in
theorem preset_within.calls (a0 : Int) (a1 : Int) (a2 : Int) (r : Bool) (w : World) (h : preset_within.f a0 a1 a2 = some r) :
    Calls Tryd.prog 24 #[.int .i64 a0, .int .i64 a1, .int .i64 a2] w fun e w' => e = .returned (.bool r) ∧ Drawn0 w w' := by
  have H : (if a0 ≥ a1 then (some (decide (a0 ≤ a2))) else (some false)) = some r := h
  clear h
  by_cases c4 : a0 ≥ a1
  · rw [if_pos c4] at H
    have c4b0 : decide (a1 ≤ a0) = true := decide_eq_true c4
    clear c4
    obtain rfl := Option.some.inj H
    go_enter Tryd.func24, Tryd.ntmps24
    go_wp2
    go_ret
    exact ⟨by first | rfl | (simp; done) | (simp [*]; done), by repeat (first | exact Drawn0.refl _ | apply Drawn0.step)⟩
  · rw [if_neg c4] at H
    have c4b0 : decide (a1 ≤ a0) = false := decide_eq_false c4
    clear c4
    obtain rfl := Option.some.inj H
    go_enter Tryd.func24, Tryd.ntmps24
    go_wp2
    go_ret
    exact ⟨by first | rfl | (simp; done) | (simp [*]; done), by repeat (first | exact Drawn0.refl _ | apply Drawn0.step)⟩

/-! ### preset_rising: function 25 -/
def preset_rising.l0 : Nat → List Int → Int → Int → Int → List Int → Int → Int → Option (Bool)
  | 0, _, _, _, _, _, _, _ => none
  | k + 1, x0, x1, x2, x3, x11, x12, x13 => if x13 < x12 then (if 0 ≤ x13 then (if x13 < (x11.length : Int) then ((preset_within.f (rd x11 x13) x2 x3).bind fun t227 => (if t227 = true then (if x13 > 0 then (if 0 ≤ (wrap64 (x13 - 1)) then (if (wrap64 (x13 - 1)) < (x0.length : Int) then (if (rd x11 x13) ≤ (rd x0 (wrap64 (x13 - 1))) then (some false) else (preset_rising.l0 k x0 x1 x2 x3 x11 x12 (wrap64 (x13 + 1)))) else (none)) else (none)) else (preset_rising.l0 k x0 x1 x2 x3 x11 x12 (wrap64 (x13 + 1)))) else (some false))) else (none)) else (none)) else (some (decide ((x0.length : Int) ≤ x1)))
def preset_rising.f (k : Nat) (l0 : List Int) (a1 : Int) (a2 : Int) (a3 : Int) : Option (Bool) := preset_rising.l0 k l0 a1 a2 a3 l0 (l0.length : Int) 0
theorem preset_rising.mono_l : ∀ k, (∀ y0 y1 y2 y3 y4 y5 y6, LeO (preset_rising.l0 k y0 y1 y2 y3 y4 y5 y6) (preset_rising.l0 (k + 1) y0 y1 y2 y3 y4 y5 y6))
  | 0 => fun _ _ _ _ _ _ _ r h => by simp [preset_rising.l0] at h
  | k + 1 => by
    have ih0 := preset_rising.mono_l k
    · intro y0 y1 y2 y3 y4 y5 y6
      unfold preset_rising.l0
      repeat' first
      | (with_reducible exact ih0 _ _ _ _ _ _ _)
      | (with_reducible exact LeO.refl _)
      | (with_reducible exact LeO.none _)
      | (with_reducible refine LeO.ite ?_ ?_)
      | (with_reducible refine LeO.bind ?_ (fun _ => ?_))
      | exact ih0 _ _ _ _ _ _ _
      | exact LeO.none _
      | refine LeO.ite ?_ ?_
      | refine LeO.bind ?_ (fun _ => ?_)
theorem preset_rising.mono : ∀ a0 a1 a2 a3 k, LeO (preset_rising.f k a0 a1 a2 a3) (preset_rising.f (k + 1) a0 a1 a2 a3) := by
  intro a0 a1 a2 a3 k
  have ih0 := preset_rising.mono_l k
  unfold preset_rising.f
  repeat' first
      | (with_reducible exact ih0 _ _ _ _ _ _ _)
      | (with_reducible exact LeO.refl _)
      | (with_reducible exact LeO.none _)
      | (with_reducible refine LeO.ite ?_ ?_)
      | (with_reducible refine LeO.bind ?_ (fun _ => ?_))
      | exact ih0 _ _ _ _ _ _ _
      | exact LeO.none _
      | refine LeO.ite ?_ ?_
      | refine LeO.bind ?_ (fun _ => ?_)
set_option maxHeartbeats 8000000 in
set_option maxRecDepth 100000 in
theorem preset_rising.calls (k : Nat) (A0 : Option Addr) (c0 : Nat) (l0 : List Int) (a1 : Int) (a2 : Int) (a3 : Int) (r : Bool) (w : World) (hr0 : Kd.C (Kd.int .i64) w A0 l0.length l0) (hc0 : l0.length ≤ c0) (h : preset_rising.f k l0 a1 a2 a3 = some r) :
    Calls Tryd.prog 25 #[.slice A0 l0.length c0, .int .i64 a1, .int .i64 a2, .int .i64 a3] w fun e w' => e = .returned (.bool r) ∧ Drawn0 w w' := by
  have HR0 := Aside0.mk hr0
  have HC0 := Aside0.mk hc0
  clear hr0 hc0
  have H : (preset_rising.l0 k l0 a1 a2 a3 l0 (l0.length : Int) 0) = some r := h
  clear h
  have H' := Aside0.mk H
  clear H
  go_enter Tryd.func25, Tryd.ntmps25
  go_wp2
  go_loopg [13] k (fun kq v13 w' => ∃ (x13_1 : Int), v13 = .int .i64 x13_1 ∧ Aside0 (preset_rising.l0 kq l0 a1 a2 a3 l0 (l0.length : Int) x13_1 = some r) ∧ Aside0 (kq ≤ k) ∧ Drawn0 w w')
  case atStart => exact ⟨(0), (by first | rfl | (simp; done) | (simp [*]; done)), H', ⟨Nat.le_refl _⟩, by repeat (first | exact Drawn0.refl _ | apply Drawn0.step)⟩
  case round =>
    clear H'
    try clear c2
    try clear p2
    obtain ⟨x13_1, rfl, HA, HK1, ⟨m1, rfl⟩⟩ := hrel
    cases gk with
    | zero => exact absurd HA.out (by simp [preset_rising.l0])
    | succ k1 =>
      have H := HA.out
      clear HA
      simp only [preset_rising.l0] at H
      by_cases c5 : x13_1 < (l0.length : Int)
      · rw [if_pos c5] at H
        have c5b0 : decide (x13_1 < (l0.length : Int)) = true := decide_eq_true c5
        clear c5
        by_cases c6 : 0 ≤ x13_1
        · rw [if_pos c6] at H
          have c6b0 : decide (0 ≤ x13_1) = true := decide_eq_true c6
          clear c6
          by_cases c7 : x13_1 < (l0.length : Int)
          · rw [if_pos c7] at H
            have c7b0 : decide (x13_1 < (l0.length : Int)) = true := decide_eq_true c7
            clear c7
            replace H := Option.bind_eq_some_iff.mp H
            obtain ⟨t227, A80, H⟩ := H
            replace H : (if t227 = true then (if x13_1 > 0 then (if 0 ≤ (wrap64 (x13_1 - 1)) then (if (wrap64 (x13_1 - 1)) < (l0.length : Int) then (if (rd l0 x13_1) ≤ (rd l0 (wrap64 (x13_1 - 1))) then (some false) else (preset_rising.l0 k1 l0 a1 a2 a3 l0 (l0.length : Int) (wrap64 (x13_1 + 1)))) else (none)) else (none)) else (preset_rising.l0 k1 l0 a1 a2 a3 l0 (l0.length : Int) (wrap64 (x13_1 + 1)))) else (some false)) = some r := H
            have A8 := Aside0.mk A80
            clear A80
            by_cases c9 : t227 = true
            · subst c9
              have H1 : (if x13_1 > 0 then (if 0 ≤ (wrap64 (x13_1 - 1)) then (if (wrap64 (x13_1 - 1)) < (l0.length : Int) then (if (rd l0 x13_1) ≤ (rd l0 (wrap64 (x13_1 - 1))) then (some false) else (preset_rising.l0 k1 l0 a1 a2 a3 l0 (l0.length : Int) (wrap64 (x13_1 + 1)))) else (none)) else (none)) else (preset_rising.l0 k1 l0 a1 a2 a3 l0 (l0.length : Int) (wrap64 (x13_1 + 1)))) = some r := by rw [if_pos rfl] at H; exact H
              clear H
              have H := H1
              clear H1
              by_cases c10 : x13_1 > 0
              · rw [if_pos c10] at H
                have c10b0 : decide (0 < x13_1) = true := decide_eq_true c10
                clear c10
                obtain ⟨ji11, hji11⟩ : ∃ j_ : Int, (wrap64 (x13_1 - 1)) = j_ := ⟨_, rfl⟩
                replace H : (if 0 ≤ (ji11) then (if (ji11) < (l0.length : Int) then (if (rd l0 x13_1) ≤ (rd l0 (ji11)) then (some false) else (preset_rising.l0 k1 l0 a1 a2 a3 l0 (l0.length : Int) (wrap64 (x13_1 + 1)))) else (none)) else (none)) = some r := by first | (rw [hji11] at H; exact H) | (simp only [hji11] at H ⊢; exact H)
                (try rw [hji11] at A8)
                have hji11w : (IntKind.i64.wrap (x13_1 - 1)) = ji11 := (i64_w _).trans hji11
                by_cases c12 : 0 ≤ (ji11)
                · rw [if_pos c12] at H
                  have c12b0 : decide (0 ≤ (ji11)) = true := decide_eq_true c12
                  clear c12
                  by_cases c13 : (ji11) < (l0.length : Int)
                  · rw [if_pos c13] at H
                    have c13b0 : decide ((ji11) < (l0.length : Int)) = true := decide_eq_true c13
                    clear c13
                    by_cases c14 : (rd l0 x13_1) ≤ (rd l0 (ji11))
                    · rw [if_pos c14] at H
                      have c14b0 : decide ((rd l0 x13_1) ≤ (rd l0 (ji11))) = true := decide_eq_true c14
                      clear c14
                      obtain rfl := Option.some.inj H
                      have p226 : 0 ≤ (x13_1 : Int) := of_decide_eq_true (by first | (with_reducible assumption) | assumption)
                      have q226 : x13_1 < (l0.length : Int) := of_decide_eq_true (by first | (with_reducible assumption) | assumption)
                      obtain ⟨ad226, e226, hx226_0⟩ := Kd.at_int HR0.out x13_1 p226 q226
                      cases e226
                      replace p226 := eq_true p226
                      replace q226 := eq_true q226
                      go_wp2_with (first | ((with_reducible refine gate_callee (f := 24) rfl ?_); refine goesL_ (some 21) rfl rfl Tryd.func24 (by kernel_rfl) rfl #[.int .i64 (rd l0 x13_1), .int .i64 a2, .int .i64 a3] rfl (by (try simp only [List.map_toArray, List.map_cons, List.map_nil]); first | done | rfl | (simp only [List.length_drop, List.length_take]; rfl)) ?_; (with_reducible refine (preset_within.calls (rd l0 x13_1) a2 a3 true _ A8.out).mono ?_); rintro e w' ⟨rfl, ⟨nd, rfl⟩⟩; refine ⟨_, rfl, ?_⟩; have p228 : 0 ≤ ((ji11) : Int) := of_decide_eq_true (by first | (with_reducible assumption) | assumption); have q228 : (ji11) < (l0.length : Int) := of_decide_eq_true (by first | (with_reducible assumption) | assumption); obtain ⟨ad228, e228, hx228_0⟩ := Kd.at_int HR0.out (ji11) p228 q228; obtain rfl : ad226 = ad228 := (by injection e228); replace p228 := eq_true p228; replace q228 := eq_true q228))
                      go_ret
                      exact ⟨by first | rfl | (simp; done) | (simp only [← hji11] <;> (first | rfl | simp)) | (simp [*]; done), by repeat (first | exact Drawn0.refl _ | apply Drawn0.step)⟩
                    · rw [if_neg c14] at H
                      have c14b0 : decide ((rd l0 x13_1) ≤ (rd l0 (ji11))) = false := decide_eq_false c14
                      clear c14
                      have H' := Aside0.mk H
                      clear H
                      have p226 : 0 ≤ (x13_1 : Int) := of_decide_eq_true (by first | (with_reducible assumption) | assumption)
                      have q226 : x13_1 < (l0.length : Int) := of_decide_eq_true (by first | (with_reducible assumption) | assumption)
                      obtain ⟨ad226, e226, hx226_0⟩ := Kd.at_int HR0.out x13_1 p226 q226
                      cases e226
                      replace p226 := eq_true p226
                      replace q226 := eq_true q226
                      go_wp2_with (first | ((with_reducible refine gate_callee (f := 24) rfl ?_); refine goesL_ (some 21) rfl rfl Tryd.func24 (by kernel_rfl) rfl #[.int .i64 (rd l0 x13_1), .int .i64 a2, .int .i64 a3] rfl (by (try simp only [List.map_toArray, List.map_cons, List.map_nil]); first | done | rfl | (simp only [List.length_drop, List.length_take]; rfl)) ?_; (with_reducible refine (preset_within.calls (rd l0 x13_1) a2 a3 true _ A8.out).mono ?_); rintro e w' ⟨rfl, ⟨nd, rfl⟩⟩; refine ⟨_, rfl, ?_⟩; have p228 : 0 ≤ ((ji11) : Int) := of_decide_eq_true (by first | (with_reducible assumption) | assumption); have q228 : (ji11) < (l0.length : Int) := of_decide_eq_true (by first | (with_reducible assumption) | assumption); obtain ⟨ad228, e228, hx228_0⟩ := Kd.at_int HR0.out (ji11) p228 q228; obtain rfl : ad226 = ad228 := (by injection e228); replace p228 := eq_true p228; replace q228 := eq_true q228))
                      go_roundg k1
                      case measure => have := HK1.out; omega
                      case rel => exact ⟨(wrap64 (x13_1 + 1)), (by first | rfl | (simp; done) | (simp [*]; done)), H', ⟨by have := HK1.out; omega⟩, by repeat (first | exact Drawn0.refl _ | apply Drawn0.step)⟩
                  · rw [if_neg c13] at H
                    exact absurd H (by simp)
                · rw [if_neg c12] at H
                  exact absurd H (by simp)
              · rw [if_neg c10] at H
                have c10b0 : decide (0 < x13_1) = false := decide_eq_false c10
                clear c10
                have H' := Aside0.mk H
                clear H
                have p226 : 0 ≤ (x13_1 : Int) := of_decide_eq_true (by first | (with_reducible assumption) | assumption)
                have q226 : x13_1 < (l0.length : Int) := of_decide_eq_true (by first | (with_reducible assumption) | assumption)
                obtain ⟨ad226, e226, hx226_0⟩ := Kd.at_int HR0.out x13_1 p226 q226
                cases e226
                replace p226 := eq_true p226
                replace q226 := eq_true q226
                go_wp2_with (first | ((with_reducible refine gate_callee (f := 24) rfl ?_); refine goesL_ (some 21) rfl rfl Tryd.func24 (by kernel_rfl) rfl #[.int .i64 (rd l0 x13_1), .int .i64 a2, .int .i64 a3] rfl (by (try simp only [List.map_toArray, List.map_cons, List.map_nil]); first | done | rfl | (simp only [List.length_drop, List.length_take]; rfl)) ?_; (with_reducible refine (preset_within.calls (rd l0 x13_1) a2 a3 true _ A8.out).mono ?_); rintro e w' ⟨rfl, ⟨nd, rfl⟩⟩; refine ⟨_, rfl, ?_⟩))
                go_roundg k1
                case measure => have := HK1.out; omega
                case rel => exact ⟨(wrap64 (x13_1 + 1)), (by first | rfl | (simp; done) | (simp [*]; done)), H', ⟨by have := HK1.out; omega⟩, by repeat (first | exact Drawn0.refl _ | apply Drawn0.step)⟩
            · replace c9 := Bool.eq_false_iff.mpr c9
              subst c9
              have H1 : (some false) = some r := by rw [if_neg (show ¬ (false = true) by decide)] at H; exact H
              clear H
              have H := H1
              clear H1
              obtain rfl := Option.some.inj H
              have p226 : 0 ≤ (x13_1 : Int) := of_decide_eq_true (by first | (with_reducible assumption) | assumption)
              have q226 : x13_1 < (l0.length : Int) := of_decide_eq_true (by first | (with_reducible assumption) | assumption)
              obtain ⟨ad226, e226, hx226_0⟩ := Kd.at_int HR0.out x13_1 p226 q226
              cases e226
              replace p226 := eq_true p226
              replace q226 := eq_true q226
              go_wp2_with (first | ((with_reducible refine gate_callee (f := 24) rfl ?_); refine goesL_ (some 21) rfl rfl Tryd.func24 (by kernel_rfl) rfl #[.int .i64 (rd l0 x13_1), .int .i64 a2, .int .i64 a3] rfl (by (try simp only [List.map_toArray, List.map_cons, List.map_nil]); first | done | rfl | (simp only [List.length_drop, List.length_take]; rfl)) ?_; (with_reducible refine (preset_within.calls (rd l0 x13_1) a2 a3 false _ A8.out).mono ?_); rintro e w' ⟨rfl, ⟨nd, rfl⟩⟩; refine ⟨_, rfl, ?_⟩))
              go_ret
              exact ⟨by first | rfl | (simp; done) | (simp [*]; done), by repeat (first | exact Drawn0.refl _ | apply Drawn0.step)⟩
          · rw [if_neg c7] at H
            exact absurd H (by simp)
        · rw [if_neg c6] at H
          exact absurd H (by simp)
      · rw [if_neg c5] at H
        have c5b0 : decide (x13_1 < (l0.length : Int)) = false := decide_eq_false c5
        clear c5
        obtain rfl := Option.some.inj H
        go_wp2
        go_ret
        exact ⟨by first | rfl | (simp; done) | (simp [*]; done), by repeat (first | exact Drawn0.refl _ | apply Drawn0.step)⟩

end Go.Proofs.YtgdgncdnhpflcaaDoor.PPresetTells
