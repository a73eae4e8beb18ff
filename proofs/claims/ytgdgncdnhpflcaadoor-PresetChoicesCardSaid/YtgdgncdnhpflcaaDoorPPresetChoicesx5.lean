-- written by this session's program wip/reprint.sh (a turned copy of the kit's print): the session's own text
import Derived.Test.YtgdgncdnhpflcaaDoorPPresetChoicesx0
import Derived.Test.YtgdgncdnhpflcaaDoorPPresetChoicesx4
namespace Go.Proofs.YtgdgncdnhpflcaaDoor.PPresetChoices
open Go.RowKit Go.Proofs.YtgdgncdnhpflcaaDoorW.PrintWords Go.Proofs.YtgdgncdnhpflcaaDoorW.PrintLast Go.Proofs.YtgdgncdnhpflcaaDoorW.PrintMore
attribute [local go_sem] max2_int min2_int max_two min_two max_three min_three max_four min_four   -- for this text's walks alone
set_option linter.unusedVariables false
set_option linter.unusedSimpArgs false

/-! ### serinetteref19_Check: function 13 -/
def serinetteref19_Check.j0 : Nat → Bool → Int → Bool → Int → Int → List Int → List Int → Int → Bool → Option (Int)
  | 0, _, _, _, _, _, _, _, _, _ => none
  | k + 1, x56, x184000, x184001, x184002, x184003, x184004, x184005, x184006, x184007 => if x56 = true then (some 17) else (if x184003 > 0 then (if (wrap64 ((x184004.length : Int) * (x184005.length : Int))) = 0 then (some 17) else (some 0)) else (some 0))
def serinetteref19_Check.f (k : Nat) (a0_0 : Int) (a0_1 : Bool) (a0_2 : Int) (a0_3 : Int) (l0_4 : List Int) (l0_5 : List Int) (a0_6 : Int) (a0_7 : Bool) : Option (Int) := (serinetteref19_rises.f k l0_4 4 2 15).bind fun t184 => ((serinetteref19_rises.f k l0_5 3 0 2).bind fun t185 => (if a0_0 < 1 then (serinetteref19_Check.j0 k true a0_0 a0_1 a0_2 a0_3 l0_4 l0_5 a0_6 a0_7) else (if a0_0 > 65535 then (serinetteref19_Check.j0 k true a0_0 a0_1 a0_2 a0_3 l0_4 l0_5 a0_6 a0_7) else (if a0_2 < (-1) then (serinetteref19_Check.j0 k true a0_0 a0_1 a0_2 a0_3 l0_4 l0_5 a0_6 a0_7) else (if a0_2 > 4 then (serinetteref19_Check.j0 k true a0_0 a0_1 a0_2 a0_3 l0_4 l0_5 a0_6 a0_7) else (if a0_3 < 0 then (serinetteref19_Check.j0 k true a0_0 a0_1 a0_2 a0_3 l0_4 l0_5 a0_6 a0_7) else (if a0_3 > 32 then (serinetteref19_Check.j0 k true a0_0 a0_1 a0_2 a0_3 l0_4 l0_5 a0_6 a0_7) else (if a0_6 < 0 then (serinetteref19_Check.j0 k true a0_0 a0_1 a0_2 a0_3 l0_4 l0_5 a0_6 a0_7) else (if a0_6 > 8 then (serinetteref19_Check.j0 k true a0_0 a0_1 a0_2 a0_3 l0_4 l0_5 a0_6 a0_7) else (if t184 = true then (serinetteref19_Check.j0 k (!t185) a0_0 a0_1 a0_2 a0_3 l0_4 l0_5 a0_6 a0_7) else (serinetteref19_Check.j0 k true a0_0 a0_1 a0_2 a0_3 l0_4 l0_5 a0_6 a0_7)))))))))))
theorem serinetteref19_Check.mono_l : ∀ k, (∀ y0 y1 y2 y3 y4 y5 y6 y7 y8, LeO (serinetteref19_Check.j0 k y0 y1 y2 y3 y4 y5 y6 y7 y8) (serinetteref19_Check.j0 (k + 1) y0 y1 y2 y3 y4 y5 y6 y7 y8))
  | 0 => fun _ _ _ _ _ _ _ _ _ r h => by simp [serinetteref19_Check.j0] at h
  | k + 1 => by
    have ih0 := serinetteref19_Check.mono_l k
    · intro y0 y1 y2 y3 y4 y5 y6 y7 y8
      unfold serinetteref19_Check.j0
      repeat' first
      | (with_reducible exact ih0 _ _ _ _ _ _ _ _ _)
      | (with_reducible exact serinetteref19_rises.mono _ _ _ _ _)
      | (with_reducible exact LeO.refl _)
      | (with_reducible exact LeO.none _)
      | (with_reducible refine LeO.ite ?_ ?_)
      | (with_reducible refine LeO.bind ?_ (fun _ => ?_))
      | exact ih0 _ _ _ _ _ _ _ _ _
      | exact serinetteref19_rises.mono _ _ _ _ _
      | exact LeO.none _
      | refine LeO.ite ?_ ?_
      | refine LeO.bind ?_ (fun _ => ?_)
theorem serinetteref19_Check.mono : ∀ a0 a1 a2 a3 a4 a5 a6 a7 k, LeO (serinetteref19_Check.f k a0 a1 a2 a3 a4 a5 a6 a7) (serinetteref19_Check.f (k + 1) a0 a1 a2 a3 a4 a5 a6 a7) := by
  intro a0 a1 a2 a3 a4 a5 a6 a7 k
  have ih0 := serinetteref19_Check.mono_l k
  unfold serinetteref19_Check.f
  repeat' first
      | (with_reducible exact ih0 _ _ _ _ _ _ _ _ _)
      | (with_reducible exact serinetteref19_rises.mono _ _ _ _ _)
      | (with_reducible exact LeO.refl _)
      | (with_reducible exact LeO.none _)
      | (with_reducible refine LeO.ite ?_ ?_)
      | (with_reducible refine LeO.bind ?_ (fun _ => ?_))
      | exact ih0 _ _ _ _ _ _ _ _ _
      | exact serinetteref19_rises.mono _ _ _ _ _
      | exact LeO.none _
      | refine LeO.ite ?_ ?_
      | refine LeO.bind ?_ (fun _ => ?_)
set_option maxHeartbeats 8000000 in
set_option maxRecDepth 100000 in
theorem serinetteref19_Check.calls (k : Nat) (a0_0 : Int) (a0_1 : Bool) (a0_2 : Int) (a0_3 : Int) (A0_4 : Option Addr) (c0_4 : Nat) (l0_4 : List Int) (A0_5 : Option Addr) (c0_5 : Nat) (l0_5 : List Int) (a0_6 : Int) (a0_7 : Bool) (r : Int) (w : World) (hr0_4 : Kd.C (Kd.int .i64) w A0_4 l0_4.length l0_4) (hc0_4 : l0_4.length ≤ c0_4) (hr0_5 : Kd.C (Kd.int .i64) w A0_5 l0_5.length l0_5) (hc0_5 : l0_5.length ≤ c0_5) (h : serinetteref19_Check.f k a0_0 a0_1 a0_2 a0_3 l0_4 l0_5 a0_6 a0_7 = some r) :
    Calls Tryd.prog 13 #[.agg #[.int .i64 a0_0, .bool a0_1, .int .i64 a0_2, .int .i64 a0_3, .slice A0_4 l0_4.length c0_4, .slice A0_5 l0_5.length c0_5, .int .i64 a0_6, .bool a0_7]] w fun e w' => e = .returned (.int .i64 r) ∧ Below w.heap.size w w' := by
  have hu24 := Tryd.underlying24
  have HR0_4 := Aside0.mk hr0_4
  have HC0_4 := Aside0.mk hc0_4
  clear hr0_4 hc0_4
  have HR0_5 := Aside0.mk hr0_5
  have HC0_5 := Aside0.mk hc0_5
  clear hr0_5 hc0_5
  have HB := Aside0.mk (Below.refl w.heap.size w)
  have H : ((serinetteref19_rises.f k l0_4 4 2 15).bind fun t184 => ((serinetteref19_rises.f k l0_5 3 0 2).bind fun t185 => (if a0_0 < 1 then (serinetteref19_Check.j0 k true a0_0 a0_1 a0_2 a0_3 l0_4 l0_5 a0_6 a0_7) else (if a0_0 > 65535 then (serinetteref19_Check.j0 k true a0_0 a0_1 a0_2 a0_3 l0_4 l0_5 a0_6 a0_7) else (if a0_2 < (-1) then (serinetteref19_Check.j0 k true a0_0 a0_1 a0_2 a0_3 l0_4 l0_5 a0_6 a0_7) else (if a0_2 > 4 then (serinetteref19_Check.j0 k true a0_0 a0_1 a0_2 a0_3 l0_4 l0_5 a0_6 a0_7) else (if a0_3 < 0 then (serinetteref19_Check.j0 k true a0_0 a0_1 a0_2 a0_3 l0_4 l0_5 a0_6 a0_7) else (if a0_3 > 32 then (serinetteref19_Check.j0 k true a0_0 a0_1 a0_2 a0_3 l0_4 l0_5 a0_6 a0_7) else (if a0_6 < 0 then (serinetteref19_Check.j0 k true a0_0 a0_1 a0_2 a0_3 l0_4 l0_5 a0_6 a0_7) else (if a0_6 > 8 then (serinetteref19_Check.j0 k true a0_0 a0_1 a0_2 a0_3 l0_4 l0_5 a0_6 a0_7) else (if t184 = true then (serinetteref19_Check.j0 k (!t185) a0_0 a0_1 a0_2 a0_3 l0_4 l0_5 a0_6 a0_7) else (serinetteref19_Check.j0 k true a0_0 a0_1 a0_2 a0_3 l0_4 l0_5 a0_6 a0_7)))))))))))) = some r := h
  clear h
  replace H := Option.bind_eq_some_iff.mp H
  obtain ⟨t184, A20, H⟩ := H
  replace H : ((serinetteref19_rises.f k l0_5 3 0 2).bind fun t185 => (if a0_0 < 1 then (serinetteref19_Check.j0 k true a0_0 a0_1 a0_2 a0_3 l0_4 l0_5 a0_6 a0_7) else (if a0_0 > 65535 then (serinetteref19_Check.j0 k true a0_0 a0_1 a0_2 a0_3 l0_4 l0_5 a0_6 a0_7) else (if a0_2 < (-1) then (serinetteref19_Check.j0 k true a0_0 a0_1 a0_2 a0_3 l0_4 l0_5 a0_6 a0_7) else (if a0_2 > 4 then (serinetteref19_Check.j0 k true a0_0 a0_1 a0_2 a0_3 l0_4 l0_5 a0_6 a0_7) else (if a0_3 < 0 then (serinetteref19_Check.j0 k true a0_0 a0_1 a0_2 a0_3 l0_4 l0_5 a0_6 a0_7) else (if a0_3 > 32 then (serinetteref19_Check.j0 k true a0_0 a0_1 a0_2 a0_3 l0_4 l0_5 a0_6 a0_7) else (if a0_6 < 0 then (serinetteref19_Check.j0 k true a0_0 a0_1 a0_2 a0_3 l0_4 l0_5 a0_6 a0_7) else (if a0_6 > 8 then (serinetteref19_Check.j0 k true a0_0 a0_1 a0_2 a0_3 l0_4 l0_5 a0_6 a0_7) else (if t184 = true then (serinetteref19_Check.j0 k (!t185) a0_0 a0_1 a0_2 a0_3 l0_4 l0_5 a0_6 a0_7) else (serinetteref19_Check.j0 k true a0_0 a0_1 a0_2 a0_3 l0_4 l0_5 a0_6 a0_7))))))))))) = some r := H
  have A2 := Aside0.mk A20
  clear A20
  replace H := Option.bind_eq_some_iff.mp H
  obtain ⟨t185, A30, H⟩ := H
  replace H : (if a0_0 < 1 then (serinetteref19_Check.j0 k true a0_0 a0_1 a0_2 a0_3 l0_4 l0_5 a0_6 a0_7) else (if a0_0 > 65535 then (serinetteref19_Check.j0 k true a0_0 a0_1 a0_2 a0_3 l0_4 l0_5 a0_6 a0_7) else (if a0_2 < (-1) then (serinetteref19_Check.j0 k true a0_0 a0_1 a0_2 a0_3 l0_4 l0_5 a0_6 a0_7) else (if a0_2 > 4 then (serinetteref19_Check.j0 k true a0_0 a0_1 a0_2 a0_3 l0_4 l0_5 a0_6 a0_7) else (if a0_3 < 0 then (serinetteref19_Check.j0 k true a0_0 a0_1 a0_2 a0_3 l0_4 l0_5 a0_6 a0_7) else (if a0_3 > 32 then (serinetteref19_Check.j0 k true a0_0 a0_1 a0_2 a0_3 l0_4 l0_5 a0_6 a0_7) else (if a0_6 < 0 then (serinetteref19_Check.j0 k true a0_0 a0_1 a0_2 a0_3 l0_4 l0_5 a0_6 a0_7) else (if a0_6 > 8 then (serinetteref19_Check.j0 k true a0_0 a0_1 a0_2 a0_3 l0_4 l0_5 a0_6 a0_7) else (if t184 = true then (serinetteref19_Check.j0 k (!t185) a0_0 a0_1 a0_2 a0_3 l0_4 l0_5 a0_6 a0_7) else (serinetteref19_Check.j0 k true a0_0 a0_1 a0_2 a0_3 l0_4 l0_5 a0_6 a0_7)))))))))) = some r := H
  have A3 := Aside0.mk A30
  clear A30
  have HC4 := Aside0.mk H
  clear H
  go_enter Tryd.func13, Tryd.ntmps13
  go_upto_region 3 with (first | ((with_reducible refine gate_dst (N := 1) rfl ?_); (try (refine gate_guard (by rfl) ?_; dsimp only)); refine box_event ?hg (N := 1) ?hd (cs := #[.int .i64 a0_0, .bool a0_1, .int .i64 a0_2, .int .i64 a0_3, .slice A0_4 l0_4.length c0_4, .slice A0_5 l0_5.length c0_5, .int .i64 a0_6, .bool a0_7]) (t := 24) ?hr ?_; (case hd => rfl); (case hg => rfl); (case hr => first | (go_simp; done) | (go_simp; rfl)); intro gb183 hg w5 hbox hb; have n0_ := Aside0.mk (below_step (by repeat (first | (with_reducible first | exact HB.out | apply below_alloc | apply pw_below_drewN | apply below_drew1) | exact HB.out)) hb); have n1_ := Aside0.mk (hbox); have n2_ := Aside0.mk ((by rw [hg]; exact (below_size (by repeat (first | (with_reducible first | exact HB.out | apply below_alloc | apply pw_below_drewN | apply below_drew1) | exact HB.out))) : w.heap.size ≤ gb183)); have n3_ := Aside0.mk ((by rw [hg]; exact (below_size (by repeat (first | (with_reducible first | exact HB.out | apply below_alloc | apply pw_below_drewN | apply below_drew1) | exact HB.out))) : w.heap.size ≤ gb183)); clear HB; have HB := n0_; have BK183 := n1_; have GW183 := n2_; have GE183 := n3_; clear n0_ n1_ n2_ n3_; clear hb hbox hg; have hcz6_0 : w5.cell? ⟨gb183, 0, none⟩ = some (.int .i64 a0_0) := (blk_cell BK183.out 0).trans rfl; have hcz6_1 : w5.cell? ⟨gb183, 1, none⟩ = some (.bool a0_1) := (blk_cell BK183.out 1).trans rfl; have hcz6_2 : w5.cell? ⟨gb183, 2, none⟩ = some (.int .i64 a0_2) := (blk_cell BK183.out 2).trans rfl; have hcz6_3 : w5.cell? ⟨gb183, 3, none⟩ = some (.int .i64 a0_3) := (blk_cell BK183.out 3).trans rfl; have hcz6_4 : w5.cell? ⟨gb183, 4, none⟩ = some (.slice A0_4 l0_4.length c0_4) := (blk_cell BK183.out 4).trans rfl; have hcz6_5 : w5.cell? ⟨gb183, 5, none⟩ = some (.slice A0_5 l0_5.length c0_5) := (blk_cell BK183.out 5).trans rfl; have hcz6_6 : w5.cell? ⟨gb183, 6, none⟩ = some (.int .i64 a0_6) := (blk_cell BK183.out 6).trans rfl; have hcz6_7 : w5.cell? ⟨gb183, 7, none⟩ = some (.bool a0_7) := (blk_cell BK183.out 7).trans rfl; have hfz6_0 := blk_frozen BK183.out 0; have hfz6_1 := blk_frozen BK183.out 1; have hfz6_2 := blk_frozen BK183.out 2; have hfz6_3 := blk_frozen BK183.out 3; have hfz6_4 := blk_frozen BK183.out 4; have hfz6_5 := blk_frozen BK183.out 5; have hfz6_6 := blk_frozen BK183.out 6; have hfz6_7 := blk_frozen BK183.out 7) | ((with_reducible refine gate_callee (f := 26) rfl ?_); refine goesL_ (some 7) rfl rfl Tryd.func26 (by kernel_rfl) rfl #[.slice A0_4 l0_4.length c0_4, .int .i64 4, .int .i64 2, .int .i64 15] rfl (by (try simp only [List.map_toArray, List.map_cons, List.map_nil]); first | done | rfl | (simp only [List.length_drop, List.length_take]; rfl)) ?_; (with_reducible refine (serinetteref19_rises.calls k _ _ l0_4 4 2 15 t184 _ ?side1 ?side2 A2.out).mono ?_); (case side1 => repeat (first | exact (Kd.C_below HR0_4.out HB.out) | (with_reducible refine Kd.C_alloc ?_ _) | (with_reducible refine Kd.C_drewN ?_ _) | (with_reducible refine Kd.C_drew ?_))); (case side2 => exact HC0_4.out); rintro e w' ⟨rfl, ⟨nd, rfl⟩⟩; refine ⟨_, rfl, ?_⟩) | ((with_reducible refine gate_callee (f := 26) rfl ?_); refine goesL_ (some 10) rfl rfl Tryd.func26 (by kernel_rfl) rfl #[.slice A0_5 l0_5.length c0_5, .int .i64 3, .int .i64 0, .int .i64 2] rfl (by (try simp only [List.map_toArray, List.map_cons, List.map_nil]); first | done | rfl | (simp only [List.length_drop, List.length_take]; rfl)) ?_; (with_reducible refine (serinetteref19_rises.calls k _ _ l0_5 3 0 2 t185 _ ?side1 ?side2 A3.out).mono ?_); (case side1 => repeat (first | exact (Kd.C_below HR0_5.out (by repeat (first | (with_reducible first | exact HB.out | apply below_alloc | apply pw_below_drewN | apply below_drew1 | refine below_set ?_ GE183.out) | exact HB.out))) | (with_reducible refine Kd.C_alloc ?_ _) | (with_reducible refine Kd.C_drewN ?_ _) | (with_reducible refine Kd.C_drew ?_))); (case side2 => exact HC0_5.out); rintro e w' ⟨rfl, ⟨nd, rfl⟩⟩; refine ⟨_, rfl, ?_⟩))
  (try simp only [Act.put, List.setIfInBounds_toArray, List.set_cons_zero, List.set_cons_succ])
  go_cut [56] (fun v56 wc => ∃ (kq : Nat) (x56_3 : Bool), v56 = .bool x56_3 ∧ Aside0 (serinetteref19_Check.j0 kq x56_3 a0_0 a0_1 a0_2 a0_3 l0_4 l0_5 a0_6 a0_7 = some r) ∧ Aside0 (kq ≤ k) ∧ Aside0 (wc.heap[gb183]? = some (.cells #[.int .i64 a0_0, .bool a0_1, .int .i64 a0_2, .int .i64 a0_3, (.slice A0_4 l0_4.length c0_4), (.slice A0_5 l0_5.length c0_5), .int .i64 a0_6, .bool a0_7] 24 (0, 0))) ∧ Aside0 (Below w.heap.size w wc))
  case first =>
    have H := HC4.out
    clear HC4
    by_cases c7 : a0_0 < 1
    · rw [if_pos c7] at H
      have c7b0 : decide (a0_0 < 1) = true := decide_eq_true c7
      clear c7
      (first | rw [c7b0] | (simp only [i64_w, i32_w]; rw [c7b0]) | skip)
      have H' := Aside0.mk H
      clear H
      have hcz8_0 : w5.cell? ⟨gb183, 0, none⟩ = some (.int .i64 a0_0) := (blk_cell BK183.out 0).trans rfl
      have hcz8_1 : w5.cell? ⟨gb183, 1, none⟩ = some (.bool a0_1) := (blk_cell BK183.out 1).trans rfl
      have hcz8_2 : w5.cell? ⟨gb183, 2, none⟩ = some (.int .i64 a0_2) := (blk_cell BK183.out 2).trans rfl
      have hcz8_3 : w5.cell? ⟨gb183, 3, none⟩ = some (.int .i64 a0_3) := (blk_cell BK183.out 3).trans rfl
      have hcz8_4 : w5.cell? ⟨gb183, 4, none⟩ = some (.slice A0_4 l0_4.length c0_4) := (blk_cell BK183.out 4).trans rfl
      have hcz8_5 : w5.cell? ⟨gb183, 5, none⟩ = some (.slice A0_5 l0_5.length c0_5) := (blk_cell BK183.out 5).trans rfl
      have hcz8_6 : w5.cell? ⟨gb183, 6, none⟩ = some (.int .i64 a0_6) := (blk_cell BK183.out 6).trans rfl
      have hcz8_7 : w5.cell? ⟨gb183, 7, none⟩ = some (.bool a0_7) := (blk_cell BK183.out 7).trans rfl
      have hfz8_0 := blk_frozen BK183.out 0
      have hfz8_1 := blk_frozen BK183.out 1
      have hfz8_2 := blk_frozen BK183.out 2
      have hfz8_3 := blk_frozen BK183.out 3
      have hfz8_4 := blk_frozen BK183.out 4
      have hfz8_5 := blk_frozen BK183.out 5
      have hfz8_6 := blk_frozen BK183.out 6
      have hfz8_7 := blk_frozen BK183.out 7
      go_wp2
      go_meet
      case rel => exact ⟨_, (true), (by first | rfl | (simp; done) | (simp [*]; done)), H', ⟨by first | omega | exact Nat.le_refl _⟩, ⟨by (with_reducible repeat (first | refine blk_drewN ?_ _ | refine blk_drew ?_ | refine blk_alloc ?_ _)); exact BK183.out⟩, ⟨by repeat (first | (with_reducible first | exact HB.out | apply below_alloc | apply pw_below_drewN | apply below_drew1 | refine below_set ?_ GE183.out) | exact HB.out)⟩⟩
    · rw [if_neg c7] at H
      have c7b0 : decide (a0_0 < 1) = false := decide_eq_false c7
      clear c7
      (first | rw [c7b0] | (simp only [i64_w, i32_w]; rw [c7b0]) | skip)
      by_cases c9 : a0_0 > 65535
      · rw [if_pos c9] at H
        have c9b0 : decide (65535 < a0_0) = true := decide_eq_true c9
        clear c9
        have H' := Aside0.mk H
        clear H
        have hcz10_0 : w5.cell? ⟨gb183, 0, none⟩ = some (.int .i64 a0_0) := (blk_cell BK183.out 0).trans rfl
        have hcz10_1 : w5.cell? ⟨gb183, 1, none⟩ = some (.bool a0_1) := (blk_cell BK183.out 1).trans rfl
        have hcz10_2 : w5.cell? ⟨gb183, 2, none⟩ = some (.int .i64 a0_2) := (blk_cell BK183.out 2).trans rfl
        have hcz10_3 : w5.cell? ⟨gb183, 3, none⟩ = some (.int .i64 a0_3) := (blk_cell BK183.out 3).trans rfl
        have hcz10_4 : w5.cell? ⟨gb183, 4, none⟩ = some (.slice A0_4 l0_4.length c0_4) := (blk_cell BK183.out 4).trans rfl
        have hcz10_5 : w5.cell? ⟨gb183, 5, none⟩ = some (.slice A0_5 l0_5.length c0_5) := (blk_cell BK183.out 5).trans rfl
        have hcz10_6 : w5.cell? ⟨gb183, 6, none⟩ = some (.int .i64 a0_6) := (blk_cell BK183.out 6).trans rfl
        have hcz10_7 : w5.cell? ⟨gb183, 7, none⟩ = some (.bool a0_7) := (blk_cell BK183.out 7).trans rfl
        have hfz10_0 := blk_frozen BK183.out 0
        have hfz10_1 := blk_frozen BK183.out 1
        have hfz10_2 := blk_frozen BK183.out 2
        have hfz10_3 := blk_frozen BK183.out 3
        have hfz10_4 := blk_frozen BK183.out 4
        have hfz10_5 := blk_frozen BK183.out 5
        have hfz10_6 := blk_frozen BK183.out 6
        have hfz10_7 := blk_frozen BK183.out 7
        go_wp2
        go_meet
        case rel => exact ⟨_, (true), (by first | rfl | (simp; done) | (simp [*]; done)), H', ⟨by first | omega | exact Nat.le_refl _⟩, ⟨by (with_reducible repeat (first | refine blk_drewN ?_ _ | refine blk_drew ?_ | refine blk_alloc ?_ _)); exact BK183.out⟩, ⟨by repeat (first | (with_reducible first | exact HB.out | apply below_alloc | apply pw_below_drewN | apply below_drew1 | refine below_set ?_ GE183.out) | exact HB.out)⟩⟩
      · rw [if_neg c9] at H
        have c9b0 : decide (65535 < a0_0) = false := decide_eq_false c9
        clear c9
        by_cases c11 : a0_2 < (-1)
        · rw [if_pos c11] at H
          have c11b0 : decide (a0_2 < (-1)) = true := decide_eq_true c11
          clear c11
          have H' := Aside0.mk H
          clear H
          have hcz12_0 : w5.cell? ⟨gb183, 0, none⟩ = some (.int .i64 a0_0) := (blk_cell BK183.out 0).trans rfl
          have hcz12_1 : w5.cell? ⟨gb183, 1, none⟩ = some (.bool a0_1) := (blk_cell BK183.out 1).trans rfl
          have hcz12_2 : w5.cell? ⟨gb183, 2, none⟩ = some (.int .i64 a0_2) := (blk_cell BK183.out 2).trans rfl
          have hcz12_3 : w5.cell? ⟨gb183, 3, none⟩ = some (.int .i64 a0_3) := (blk_cell BK183.out 3).trans rfl
          have hcz12_4 : w5.cell? ⟨gb183, 4, none⟩ = some (.slice A0_4 l0_4.length c0_4) := (blk_cell BK183.out 4).trans rfl
          have hcz12_5 : w5.cell? ⟨gb183, 5, none⟩ = some (.slice A0_5 l0_5.length c0_5) := (blk_cell BK183.out 5).trans rfl
          have hcz12_6 : w5.cell? ⟨gb183, 6, none⟩ = some (.int .i64 a0_6) := (blk_cell BK183.out 6).trans rfl
          have hcz12_7 : w5.cell? ⟨gb183, 7, none⟩ = some (.bool a0_7) := (blk_cell BK183.out 7).trans rfl
          have hfz12_0 := blk_frozen BK183.out 0
          have hfz12_1 := blk_frozen BK183.out 1
          have hfz12_2 := blk_frozen BK183.out 2
          have hfz12_3 := blk_frozen BK183.out 3
          have hfz12_4 := blk_frozen BK183.out 4
          have hfz12_5 := blk_frozen BK183.out 5
          have hfz12_6 := blk_frozen BK183.out 6
          have hfz12_7 := blk_frozen BK183.out 7
          go_wp2
          go_meet
          case rel => exact ⟨_, (true), (by first | rfl | (simp; done) | (simp [*]; done)), H', ⟨by first | omega | exact Nat.le_refl _⟩, ⟨by (with_reducible repeat (first | refine blk_drewN ?_ _ | refine blk_drew ?_ | refine blk_alloc ?_ _)); exact BK183.out⟩, ⟨by repeat (first | (with_reducible first | exact HB.out | apply below_alloc | apply pw_below_drewN | apply below_drew1 | refine below_set ?_ GE183.out) | exact HB.out)⟩⟩
        · rw [if_neg c11] at H
          have c11b0 : decide (a0_2 < (-1)) = false := decide_eq_false c11
          clear c11
          by_cases c13 : a0_2 > 4
          · rw [if_pos c13] at H
            have c13b0 : decide (4 < a0_2) = true := decide_eq_true c13
            clear c13
            have H' := Aside0.mk H
            clear H
            have hcz14_0 : w5.cell? ⟨gb183, 0, none⟩ = some (.int .i64 a0_0) := (blk_cell BK183.out 0).trans rfl
            have hcz14_1 : w5.cell? ⟨gb183, 1, none⟩ = some (.bool a0_1) := (blk_cell BK183.out 1).trans rfl
            have hcz14_2 : w5.cell? ⟨gb183, 2, none⟩ = some (.int .i64 a0_2) := (blk_cell BK183.out 2).trans rfl
            have hcz14_3 : w5.cell? ⟨gb183, 3, none⟩ = some (.int .i64 a0_3) := (blk_cell BK183.out 3).trans rfl
            have hcz14_4 : w5.cell? ⟨gb183, 4, none⟩ = some (.slice A0_4 l0_4.length c0_4) := (blk_cell BK183.out 4).trans rfl
            have hcz14_5 : w5.cell? ⟨gb183, 5, none⟩ = some (.slice A0_5 l0_5.length c0_5) := (blk_cell BK183.out 5).trans rfl
            have hcz14_6 : w5.cell? ⟨gb183, 6, none⟩ = some (.int .i64 a0_6) := (blk_cell BK183.out 6).trans rfl
            have hcz14_7 : w5.cell? ⟨gb183, 7, none⟩ = some (.bool a0_7) := (blk_cell BK183.out 7).trans rfl
            have hfz14_0 := blk_frozen BK183.out 0
            have hfz14_1 := blk_frozen BK183.out 1
            have hfz14_2 := blk_frozen BK183.out 2
            have hfz14_3 := blk_frozen BK183.out 3
            have hfz14_4 := blk_frozen BK183.out 4
            have hfz14_5 := blk_frozen BK183.out 5
            have hfz14_6 := blk_frozen BK183.out 6
            have hfz14_7 := blk_frozen BK183.out 7
            go_wp2
            go_meet
            case rel => exact ⟨_, (true), (by first | rfl | (simp; done) | (simp [*]; done)), H', ⟨by first | omega | exact Nat.le_refl _⟩, ⟨by (with_reducible repeat (first | refine blk_drewN ?_ _ | refine blk_drew ?_ | refine blk_alloc ?_ _)); exact BK183.out⟩, ⟨by repeat (first | (with_reducible first | exact HB.out | apply below_alloc | apply pw_below_drewN | apply below_drew1 | refine below_set ?_ GE183.out) | exact HB.out)⟩⟩
          · rw [if_neg c13] at H
            have c13b0 : decide (4 < a0_2) = false := decide_eq_false c13
            clear c13
            by_cases c15 : a0_3 < 0
            · rw [if_pos c15] at H
              have c15b0 : decide (a0_3 < 0) = true := decide_eq_true c15
              clear c15
              have H' := Aside0.mk H
              clear H
              have hcz16_0 : w5.cell? ⟨gb183, 0, none⟩ = some (.int .i64 a0_0) := (blk_cell BK183.out 0).trans rfl
              have hcz16_1 : w5.cell? ⟨gb183, 1, none⟩ = some (.bool a0_1) := (blk_cell BK183.out 1).trans rfl
              have hcz16_2 : w5.cell? ⟨gb183, 2, none⟩ = some (.int .i64 a0_2) := (blk_cell BK183.out 2).trans rfl
              have hcz16_3 : w5.cell? ⟨gb183, 3, none⟩ = some (.int .i64 a0_3) := (blk_cell BK183.out 3).trans rfl
              have hcz16_4 : w5.cell? ⟨gb183, 4, none⟩ = some (.slice A0_4 l0_4.length c0_4) := (blk_cell BK183.out 4).trans rfl
              have hcz16_5 : w5.cell? ⟨gb183, 5, none⟩ = some (.slice A0_5 l0_5.length c0_5) := (blk_cell BK183.out 5).trans rfl
              have hcz16_6 : w5.cell? ⟨gb183, 6, none⟩ = some (.int .i64 a0_6) := (blk_cell BK183.out 6).trans rfl
              have hcz16_7 : w5.cell? ⟨gb183, 7, none⟩ = some (.bool a0_7) := (blk_cell BK183.out 7).trans rfl
              have hfz16_0 := blk_frozen BK183.out 0
              have hfz16_1 := blk_frozen BK183.out 1
              have hfz16_2 := blk_frozen BK183.out 2
              have hfz16_3 := blk_frozen BK183.out 3
              have hfz16_4 := blk_frozen BK183.out 4
              have hfz16_5 := blk_frozen BK183.out 5
              have hfz16_6 := blk_frozen BK183.out 6
              have hfz16_7 := blk_frozen BK183.out 7
              go_wp2
              go_meet
              case rel => exact ⟨_, (true), (by first | rfl | (simp; done) | (simp [*]; done)), H', ⟨by first | omega | exact Nat.le_refl _⟩, ⟨by (with_reducible repeat (first | refine blk_drewN ?_ _ | refine blk_drew ?_ | refine blk_alloc ?_ _)); exact BK183.out⟩, ⟨by repeat (first | (with_reducible first | exact HB.out | apply below_alloc | apply pw_below_drewN | apply below_drew1 | refine below_set ?_ GE183.out) | exact HB.out)⟩⟩
            · rw [if_neg c15] at H
              have c15b0 : decide (a0_3 < 0) = false := decide_eq_false c15
              clear c15
              by_cases c17 : a0_3 > 32
              · rw [if_pos c17] at H
                have c17b0 : decide (32 < a0_3) = true := decide_eq_true c17
                clear c17
                have H' := Aside0.mk H
                clear H
                have hcz18_0 : w5.cell? ⟨gb183, 0, none⟩ = some (.int .i64 a0_0) := (blk_cell BK183.out 0).trans rfl
                have hcz18_1 : w5.cell? ⟨gb183, 1, none⟩ = some (.bool a0_1) := (blk_cell BK183.out 1).trans rfl
                have hcz18_2 : w5.cell? ⟨gb183, 2, none⟩ = some (.int .i64 a0_2) := (blk_cell BK183.out 2).trans rfl
                have hcz18_3 : w5.cell? ⟨gb183, 3, none⟩ = some (.int .i64 a0_3) := (blk_cell BK183.out 3).trans rfl
                have hcz18_4 : w5.cell? ⟨gb183, 4, none⟩ = some (.slice A0_4 l0_4.length c0_4) := (blk_cell BK183.out 4).trans rfl
                have hcz18_5 : w5.cell? ⟨gb183, 5, none⟩ = some (.slice A0_5 l0_5.length c0_5) := (blk_cell BK183.out 5).trans rfl
                have hcz18_6 : w5.cell? ⟨gb183, 6, none⟩ = some (.int .i64 a0_6) := (blk_cell BK183.out 6).trans rfl
                have hcz18_7 : w5.cell? ⟨gb183, 7, none⟩ = some (.bool a0_7) := (blk_cell BK183.out 7).trans rfl
                have hfz18_0 := blk_frozen BK183.out 0
                have hfz18_1 := blk_frozen BK183.out 1
                have hfz18_2 := blk_frozen BK183.out 2
                have hfz18_3 := blk_frozen BK183.out 3
                have hfz18_4 := blk_frozen BK183.out 4
                have hfz18_5 := blk_frozen BK183.out 5
                have hfz18_6 := blk_frozen BK183.out 6
                have hfz18_7 := blk_frozen BK183.out 7
                go_wp2
                go_meet
                case rel => exact ⟨_, (true), (by first | rfl | (simp; done) | (simp [*]; done)), H', ⟨by first | omega | exact Nat.le_refl _⟩, ⟨by (with_reducible repeat (first | refine blk_drewN ?_ _ | refine blk_drew ?_ | refine blk_alloc ?_ _)); exact BK183.out⟩, ⟨by repeat (first | (with_reducible first | exact HB.out | apply below_alloc | apply pw_below_drewN | apply below_drew1 | refine below_set ?_ GE183.out) | exact HB.out)⟩⟩
              · rw [if_neg c17] at H
                have c17b0 : decide (32 < a0_3) = false := decide_eq_false c17
                clear c17
                by_cases c19 : a0_6 < 0
                · rw [if_pos c19] at H
                  have c19b0 : decide (a0_6 < 0) = true := decide_eq_true c19
                  clear c19
                  have H' := Aside0.mk H
                  clear H
                  have hcz20_0 : w5.cell? ⟨gb183, 0, none⟩ = some (.int .i64 a0_0) := (blk_cell BK183.out 0).trans rfl
                  have hcz20_1 : w5.cell? ⟨gb183, 1, none⟩ = some (.bool a0_1) := (blk_cell BK183.out 1).trans rfl
                  have hcz20_2 : w5.cell? ⟨gb183, 2, none⟩ = some (.int .i64 a0_2) := (blk_cell BK183.out 2).trans rfl
                  have hcz20_3 : w5.cell? ⟨gb183, 3, none⟩ = some (.int .i64 a0_3) := (blk_cell BK183.out 3).trans rfl
                  have hcz20_4 : w5.cell? ⟨gb183, 4, none⟩ = some (.slice A0_4 l0_4.length c0_4) := (blk_cell BK183.out 4).trans rfl
                  have hcz20_5 : w5.cell? ⟨gb183, 5, none⟩ = some (.slice A0_5 l0_5.length c0_5) := (blk_cell BK183.out 5).trans rfl
                  have hcz20_6 : w5.cell? ⟨gb183, 6, none⟩ = some (.int .i64 a0_6) := (blk_cell BK183.out 6).trans rfl
                  have hcz20_7 : w5.cell? ⟨gb183, 7, none⟩ = some (.bool a0_7) := (blk_cell BK183.out 7).trans rfl
                  have hfz20_0 := blk_frozen BK183.out 0
                  have hfz20_1 := blk_frozen BK183.out 1
                  have hfz20_2 := blk_frozen BK183.out 2
                  have hfz20_3 := blk_frozen BK183.out 3
                  have hfz20_4 := blk_frozen BK183.out 4
                  have hfz20_5 := blk_frozen BK183.out 5
                  have hfz20_6 := blk_frozen BK183.out 6
                  have hfz20_7 := blk_frozen BK183.out 7
                  go_wp2
                  go_meet
                  case rel => exact ⟨_, (true), (by first | rfl | (simp; done) | (simp [*]; done)), H', ⟨by first | omega | exact Nat.le_refl _⟩, ⟨by (with_reducible repeat (first | refine blk_drewN ?_ _ | refine blk_drew ?_ | refine blk_alloc ?_ _)); exact BK183.out⟩, ⟨by repeat (first | (with_reducible first | exact HB.out | apply below_alloc | apply pw_below_drewN | apply below_drew1 | refine below_set ?_ GE183.out) | exact HB.out)⟩⟩
                · rw [if_neg c19] at H
                  have c19b0 : decide (a0_6 < 0) = false := decide_eq_false c19
                  clear c19
                  by_cases c21 : a0_6 > 8
                  · rw [if_pos c21] at H
                    have c21b0 : decide (8 < a0_6) = true := decide_eq_true c21
                    clear c21
                    have H' := Aside0.mk H
                    clear H
                    have hcz22_0 : w5.cell? ⟨gb183, 0, none⟩ = some (.int .i64 a0_0) := (blk_cell BK183.out 0).trans rfl
                    have hcz22_1 : w5.cell? ⟨gb183, 1, none⟩ = some (.bool a0_1) := (blk_cell BK183.out 1).trans rfl
                    have hcz22_2 : w5.cell? ⟨gb183, 2, none⟩ = some (.int .i64 a0_2) := (blk_cell BK183.out 2).trans rfl
                    have hcz22_3 : w5.cell? ⟨gb183, 3, none⟩ = some (.int .i64 a0_3) := (blk_cell BK183.out 3).trans rfl
                    have hcz22_4 : w5.cell? ⟨gb183, 4, none⟩ = some (.slice A0_4 l0_4.length c0_4) := (blk_cell BK183.out 4).trans rfl
                    have hcz22_5 : w5.cell? ⟨gb183, 5, none⟩ = some (.slice A0_5 l0_5.length c0_5) := (blk_cell BK183.out 5).trans rfl
                    have hcz22_6 : w5.cell? ⟨gb183, 6, none⟩ = some (.int .i64 a0_6) := (blk_cell BK183.out 6).trans rfl
                    have hcz22_7 : w5.cell? ⟨gb183, 7, none⟩ = some (.bool a0_7) := (blk_cell BK183.out 7).trans rfl
                    have hfz22_0 := blk_frozen BK183.out 0
                    have hfz22_1 := blk_frozen BK183.out 1
                    have hfz22_2 := blk_frozen BK183.out 2
                    have hfz22_3 := blk_frozen BK183.out 3
                    have hfz22_4 := blk_frozen BK183.out 4
                    have hfz22_5 := blk_frozen BK183.out 5
                    have hfz22_6 := blk_frozen BK183.out 6
                    have hfz22_7 := blk_frozen BK183.out 7
                    go_wp2
                    go_meet
                    case rel => exact ⟨_, (true), (by first | rfl | (simp; done) | (simp [*]; done)), H', ⟨by first | omega | exact Nat.le_refl _⟩, ⟨by (with_reducible repeat (first | refine blk_drewN ?_ _ | refine blk_drew ?_ | refine blk_alloc ?_ _)); exact BK183.out⟩, ⟨by repeat (first | (with_reducible first | exact HB.out | apply below_alloc | apply pw_below_drewN | apply below_drew1 | refine below_set ?_ GE183.out) | exact HB.out)⟩⟩
                  · rw [if_neg c21] at H
                    have c21b0 : decide (8 < a0_6) = false := decide_eq_false c21
                    clear c21
                    by_cases c23 : t184 = true
                    · subst c23
                      have H1 : (serinetteref19_Check.j0 k (!t185) a0_0 a0_1 a0_2 a0_3 l0_4 l0_5 a0_6 a0_7) = some r := by rw [if_pos rfl] at H; exact H
                      clear H
                      have H := H1
                      clear H1
                      have H' := Aside0.mk H
                      clear H
                      have hcz24_0 : w5.cell? ⟨gb183, 0, none⟩ = some (.int .i64 a0_0) := (blk_cell BK183.out 0).trans rfl
                      have hcz24_1 : w5.cell? ⟨gb183, 1, none⟩ = some (.bool a0_1) := (blk_cell BK183.out 1).trans rfl
                      have hcz24_2 : w5.cell? ⟨gb183, 2, none⟩ = some (.int .i64 a0_2) := (blk_cell BK183.out 2).trans rfl
                      have hcz24_3 : w5.cell? ⟨gb183, 3, none⟩ = some (.int .i64 a0_3) := (blk_cell BK183.out 3).trans rfl
                      have hcz24_4 : w5.cell? ⟨gb183, 4, none⟩ = some (.slice A0_4 l0_4.length c0_4) := (blk_cell BK183.out 4).trans rfl
                      have hcz24_5 : w5.cell? ⟨gb183, 5, none⟩ = some (.slice A0_5 l0_5.length c0_5) := (blk_cell BK183.out 5).trans rfl
                      have hcz24_6 : w5.cell? ⟨gb183, 6, none⟩ = some (.int .i64 a0_6) := (blk_cell BK183.out 6).trans rfl
                      have hcz24_7 : w5.cell? ⟨gb183, 7, none⟩ = some (.bool a0_7) := (blk_cell BK183.out 7).trans rfl
                      have hfz24_0 := blk_frozen BK183.out 0
                      have hfz24_1 := blk_frozen BK183.out 1
                      have hfz24_2 := blk_frozen BK183.out 2
                      have hfz24_3 := blk_frozen BK183.out 3
                      have hfz24_4 := blk_frozen BK183.out 4
                      have hfz24_5 := blk_frozen BK183.out 5
                      have hfz24_6 := blk_frozen BK183.out 6
                      have hfz24_7 := blk_frozen BK183.out 7
                      go_wp2
                      go_meet
                      case rel => exact ⟨_, (!t185), (by first | rfl | (simp; done) | (simp [*]; done)), H', ⟨by first | omega | exact Nat.le_refl _⟩, ⟨by (with_reducible repeat (first | refine blk_drewN ?_ _ | refine blk_drew ?_ | refine blk_alloc ?_ _)); exact BK183.out⟩, ⟨by repeat (first | (with_reducible first | exact HB.out | apply below_alloc | apply pw_below_drewN | apply below_drew1 | refine below_set ?_ GE183.out) | exact HB.out)⟩⟩
                    · replace c23 := Bool.eq_false_iff.mpr c23
                      subst c23
                      have H1 : (serinetteref19_Check.j0 k true a0_0 a0_1 a0_2 a0_3 l0_4 l0_5 a0_6 a0_7) = some r := by rw [if_neg (show ¬ (false = true) by decide)] at H; exact H
                      clear H
                      have H := H1
                      clear H1
                      have H' := Aside0.mk H
                      clear H
                      have hcz25_0 : w5.cell? ⟨gb183, 0, none⟩ = some (.int .i64 a0_0) := (blk_cell BK183.out 0).trans rfl
                      have hcz25_1 : w5.cell? ⟨gb183, 1, none⟩ = some (.bool a0_1) := (blk_cell BK183.out 1).trans rfl
                      have hcz25_2 : w5.cell? ⟨gb183, 2, none⟩ = some (.int .i64 a0_2) := (blk_cell BK183.out 2).trans rfl
                      have hcz25_3 : w5.cell? ⟨gb183, 3, none⟩ = some (.int .i64 a0_3) := (blk_cell BK183.out 3).trans rfl
                      have hcz25_4 : w5.cell? ⟨gb183, 4, none⟩ = some (.slice A0_4 l0_4.length c0_4) := (blk_cell BK183.out 4).trans rfl
                      have hcz25_5 : w5.cell? ⟨gb183, 5, none⟩ = some (.slice A0_5 l0_5.length c0_5) := (blk_cell BK183.out 5).trans rfl
                      have hcz25_6 : w5.cell? ⟨gb183, 6, none⟩ = some (.int .i64 a0_6) := (blk_cell BK183.out 6).trans rfl
                      have hcz25_7 : w5.cell? ⟨gb183, 7, none⟩ = some (.bool a0_7) := (blk_cell BK183.out 7).trans rfl
                      have hfz25_0 := blk_frozen BK183.out 0
                      have hfz25_1 := blk_frozen BK183.out 1
                      have hfz25_2 := blk_frozen BK183.out 2
                      have hfz25_3 := blk_frozen BK183.out 3
                      have hfz25_4 := blk_frozen BK183.out 4
                      have hfz25_5 := blk_frozen BK183.out 5
                      have hfz25_6 := blk_frozen BK183.out 6
                      have hfz25_7 := blk_frozen BK183.out 7
                      go_wp2
                      go_meet
                      case rel => exact ⟨_, (true), (by first | rfl | (simp; done) | (simp [*]; done)), H', ⟨by first | omega | exact Nat.le_refl _⟩, ⟨by (with_reducible repeat (first | refine blk_drewN ?_ _ | refine blk_drew ?_ | refine blk_alloc ?_ _)); exact BK183.out⟩, ⟨by repeat (first | (with_reducible first | exact HB.out | apply below_alloc | apply pw_below_drewN | apply below_drew1 | refine below_set ?_ GE183.out) | exact HB.out)⟩⟩
  case rest =>
    clear HC4
    try clear c1
    try clear c2
    try clear p2
    try clear c7
    try clear c7b0
    try clear c9
    try clear c9b0
    try clear c11
    try clear c11b0
    try clear c13
    try clear c13b0
    try clear c15
    try clear c15b0
    try clear c17
    try clear c17b0
    try clear c19
    try clear c19b0
    try clear c21
    try clear c21b0
    try clear c23
    try clear hcz10_0
    try clear hcz10_1
    try clear hcz10_2
    try clear hcz10_3
    try clear hcz10_4
    try clear hcz10_5
    try clear hcz10_6
    try clear hcz10_7
    try clear hcz12_0
    try clear hcz12_1
    try clear hcz12_2
    try clear hcz12_3
    try clear hcz12_4
    try clear hcz12_5
    try clear hcz12_6
    try clear hcz12_7
    try clear hcz14_0
    try clear hcz14_1
    try clear hcz14_2
    try clear hcz14_3
    try clear hcz14_4
    try clear hcz14_5
    try clear hcz14_6
    try clear hcz14_7
    try clear hcz16_0
    try clear hcz16_1
    try clear hcz16_2
    try clear hcz16_3
    try clear hcz16_4
    try clear hcz16_5
    try clear hcz16_6
    try clear hcz16_7
    try clear hcz18_0
    try clear hcz18_1
    try clear hcz18_2
    try clear hcz18_3
    try clear hcz18_4
    try clear hcz18_5
    try clear hcz18_6
    try clear hcz18_7
    try clear hcz20_0
    try clear hcz20_1
    try clear hcz20_2
    try clear hcz20_3
    try clear hcz20_4
    try clear hcz20_5
    try clear hcz20_6
    try clear hcz20_7
    try clear hcz22_0
    try clear hcz22_1
    try clear hcz22_2
    try clear hcz22_3
    try clear hcz22_4
    try clear hcz22_5
    try clear hcz22_6
    try clear hcz22_7
    try clear hcz24_0
    try clear hcz24_1
    try clear hcz24_2
    try clear hcz24_3
    try clear hcz24_4
    try clear hcz24_5
    try clear hcz24_6
    try clear hcz24_7
    try clear hcz25_0
    try clear hcz25_1
    try clear hcz25_2
    try clear hcz25_3
    try clear hcz25_4
    try clear hcz25_5
    try clear hcz25_6
    try clear hcz25_7
    try clear hcz6_0
    try clear hcz6_1
    try clear hcz6_2
    try clear hcz6_3
    try clear hcz6_4
    try clear hcz6_5
    try clear hcz6_6
    try clear hcz6_7
    try clear hcz8_0
    try clear hcz8_1
    try clear hcz8_2
    try clear hcz8_3
    try clear hcz8_4
    try clear hcz8_5
    try clear hcz8_6
    try clear hcz8_7
    try clear hfz10_0
    try clear hfz10_1
    try clear hfz10_2
    try clear hfz10_3
    try clear hfz10_4
    try clear hfz10_5
    try clear hfz10_6
    try clear hfz10_7
    try clear hfz12_0
    try clear hfz12_1
    try clear hfz12_2
    try clear hfz12_3
    try clear hfz12_4
    try clear hfz12_5
    try clear hfz12_6
    try clear hfz12_7
    try clear hfz14_0
    try clear hfz14_1
    try clear hfz14_2
    try clear hfz14_3
    try clear hfz14_4
    try clear hfz14_5
    try clear hfz14_6
    try clear hfz14_7
    try clear hfz16_0
    try clear hfz16_1
    try clear hfz16_2
    try clear hfz16_3
    try clear hfz16_4
    try clear hfz16_5
    try clear hfz16_6
    try clear hfz16_7
    try clear hfz18_0
    try clear hfz18_1
    try clear hfz18_2
    try clear hfz18_3
    try clear hfz18_4
    try clear hfz18_5
    try clear hfz18_6
    try clear hfz18_7
    try clear hfz20_0
    try clear hfz20_1
    try clear hfz20_2
    try clear hfz20_3
    try clear hfz20_4
    try clear hfz20_5
    try clear hfz20_6
    try clear hfz20_7
    try clear hfz22_0
    try clear hfz22_1
    try clear hfz22_2
    try clear hfz22_3
    try clear hfz22_4
    try clear hfz22_5
    try clear hfz22_6
    try clear hfz22_7
    try clear hfz24_0
    try clear hfz24_1
    try clear hfz24_2
    try clear hfz24_3
    try clear hfz24_4
    try clear hfz24_5
    try clear hfz24_6
    try clear hfz24_7
    try clear hfz25_0
    try clear hfz25_1
    try clear hfz25_2
    try clear hfz25_3
    try clear hfz25_4
    try clear hfz25_5
    try clear hfz25_6
    try clear hfz25_7
    try clear hfz6_0
    try clear hfz6_1
    try clear hfz6_2
    try clear hfz6_3
    try clear hfz6_4
    try clear hfz6_5
    try clear hfz6_6
    try clear hfz6_7
    try clear hfz8_0
    try clear hfz8_1
    try clear hfz8_2
    try clear hfz8_3
    try clear hfz8_4
    try clear hfz8_5
    try clear hfz8_6
    try clear hfz8_7
    obtain ⟨kq, x56_3, rfl, HA, HJ3, BK183, HB⟩ := hcut
    cases kq with
    | zero => exact absurd HA.out (by simp [serinetteref19_Check.j0])
    | succ kj3 =>
      have H := HA.out
      clear HA
      simp only [serinetteref19_Check.j0] at H
      by_cases c26 : x56_3 = true
      · subst c26
        have H1 : (some 17) = some r := by rw [if_pos rfl] at H; exact H
        clear H
        have H := H1
        clear H1
        obtain rfl := Option.some.inj H
        go_wp2
        go_ret
        exact ⟨by first | rfl | (simp [errW_none, errW_some] <;> rfl) | (simp [*, errW_none, errW_some] <;> rfl), by repeat (first | (with_reducible first | exact HB.out | apply below_alloc | apply pw_below_drewN | apply below_drew1 | refine below_set ?_ GE183.out) | exact HB.out)⟩
      · replace c26 := Bool.eq_false_iff.mpr c26
        subst c26
        have H1 : (if a0_3 > 0 then (if (wrap64 ((l0_4.length : Int) * (l0_5.length : Int))) = 0 then (some 17) else (some 0)) else (some 0)) = some r := by rw [if_neg (show ¬ (false = true) by decide)] at H; exact H
        clear H
        have H := H1
        clear H1
        by_cases c27 : a0_3 > 0
        · rw [if_pos c27] at H
          have c27b0 : decide (0 < a0_3) = true := decide_eq_true c27
          clear c27
          by_cases c28 : (wrap64 ((l0_4.length : Int) * (l0_5.length : Int))) = 0
          · rw [if_pos c28] at H
            have c28b0 : ((wrap64 ((l0_4.length : Int) * (l0_5.length : Int))) == 0) = true := beq_iff_eq.mpr c28
            have c28b1 : ((wrap64 ((l0_4.length : Int) * (l0_5.length : Int))) != 0) = false := bne_eq_false_iff_eq.mpr c28
            clear c28
            obtain rfl := Option.some.inj H
            have hcz29_0 : wc.cell? ⟨gb183, 0, none⟩ = some (.int .i64 a0_0) := (blk_cell BK183.out 0).trans rfl
            have hcz29_1 : wc.cell? ⟨gb183, 1, none⟩ = some (.bool a0_1) := (blk_cell BK183.out 1).trans rfl
            have hcz29_2 : wc.cell? ⟨gb183, 2, none⟩ = some (.int .i64 a0_2) := (blk_cell BK183.out 2).trans rfl
            have hcz29_3 : wc.cell? ⟨gb183, 3, none⟩ = some (.int .i64 a0_3) := (blk_cell BK183.out 3).trans rfl
            have hcz29_4 : wc.cell? ⟨gb183, 4, none⟩ = some (.slice A0_4 l0_4.length c0_4) := (blk_cell BK183.out 4).trans rfl
            have hcz29_5 : wc.cell? ⟨gb183, 5, none⟩ = some (.slice A0_5 l0_5.length c0_5) := (blk_cell BK183.out 5).trans rfl
            have hcz29_6 : wc.cell? ⟨gb183, 6, none⟩ = some (.int .i64 a0_6) := (blk_cell BK183.out 6).trans rfl
            have hcz29_7 : wc.cell? ⟨gb183, 7, none⟩ = some (.bool a0_7) := (blk_cell BK183.out 7).trans rfl
            have hfz29_0 := blk_frozen BK183.out 0
            have hfz29_1 := blk_frozen BK183.out 1
            have hfz29_2 := blk_frozen BK183.out 2
            have hfz29_3 := blk_frozen BK183.out 3
            have hfz29_4 := blk_frozen BK183.out 4
            have hfz29_5 := blk_frozen BK183.out 5
            have hfz29_6 := blk_frozen BK183.out 6
            have hfz29_7 := blk_frozen BK183.out 7
            go_wp2
            go_ret
            exact ⟨by first | rfl | (simp [errW_none, errW_some] <;> rfl) | (simp [*, errW_none, errW_some] <;> rfl), by repeat (first | (with_reducible first | exact HB.out | apply below_alloc | apply pw_below_drewN | apply below_drew1 | refine below_set ?_ GE183.out) | exact HB.out)⟩
          · rw [if_neg c28] at H
            have c28b0 : ((wrap64 ((l0_4.length : Int) * (l0_5.length : Int))) == 0) = false := beq_eq_false_iff_ne.mpr c28
            have c28b1 : ((wrap64 ((l0_4.length : Int) * (l0_5.length : Int))) != 0) = true := bne_iff_ne.mpr c28
            obtain rfl := Option.some.inj H
            have hcz30_0 : wc.cell? ⟨gb183, 0, none⟩ = some (.int .i64 a0_0) := (blk_cell BK183.out 0).trans rfl
            have hcz30_1 : wc.cell? ⟨gb183, 1, none⟩ = some (.bool a0_1) := (blk_cell BK183.out 1).trans rfl
            have hcz30_2 : wc.cell? ⟨gb183, 2, none⟩ = some (.int .i64 a0_2) := (blk_cell BK183.out 2).trans rfl
            have hcz30_3 : wc.cell? ⟨gb183, 3, none⟩ = some (.int .i64 a0_3) := (blk_cell BK183.out 3).trans rfl
            have hcz30_4 : wc.cell? ⟨gb183, 4, none⟩ = some (.slice A0_4 l0_4.length c0_4) := (blk_cell BK183.out 4).trans rfl
            have hcz30_5 : wc.cell? ⟨gb183, 5, none⟩ = some (.slice A0_5 l0_5.length c0_5) := (blk_cell BK183.out 5).trans rfl
            have hcz30_6 : wc.cell? ⟨gb183, 6, none⟩ = some (.int .i64 a0_6) := (blk_cell BK183.out 6).trans rfl
            have hcz30_7 : wc.cell? ⟨gb183, 7, none⟩ = some (.bool a0_7) := (blk_cell BK183.out 7).trans rfl
            have hfz30_0 := blk_frozen BK183.out 0
            have hfz30_1 := blk_frozen BK183.out 1
            have hfz30_2 := blk_frozen BK183.out 2
            have hfz30_3 := blk_frozen BK183.out 3
            have hfz30_4 := blk_frozen BK183.out 4
            have hfz30_5 := blk_frozen BK183.out 5
            have hfz30_6 := blk_frozen BK183.out 6
            have hfz30_7 := blk_frozen BK183.out 7
            go_wp2
            go_ret
            exact ⟨by first | rfl | (simp [errW_none, errW_some] <;> rfl) | (simp [*, errW_none, errW_some] <;> rfl), by repeat (first | (with_reducible first | exact HB.out | apply below_alloc | apply pw_below_drewN | apply below_drew1 | refine below_set ?_ GE183.out) | exact HB.out)⟩
        · rw [if_neg c27] at H
          have c27b0 : decide (0 < a0_3) = false := decide_eq_false c27
          clear c27
          obtain rfl := Option.some.inj H
          have hcz31_0 : wc.cell? ⟨gb183, 0, none⟩ = some (.int .i64 a0_0) := (blk_cell BK183.out 0).trans rfl
          have hcz31_1 : wc.cell? ⟨gb183, 1, none⟩ = some (.bool a0_1) := (blk_cell BK183.out 1).trans rfl
          have hcz31_2 : wc.cell? ⟨gb183, 2, none⟩ = some (.int .i64 a0_2) := (blk_cell BK183.out 2).trans rfl
          have hcz31_3 : wc.cell? ⟨gb183, 3, none⟩ = some (.int .i64 a0_3) := (blk_cell BK183.out 3).trans rfl
          have hcz31_4 : wc.cell? ⟨gb183, 4, none⟩ = some (.slice A0_4 l0_4.length c0_4) := (blk_cell BK183.out 4).trans rfl
          have hcz31_5 : wc.cell? ⟨gb183, 5, none⟩ = some (.slice A0_5 l0_5.length c0_5) := (blk_cell BK183.out 5).trans rfl
          have hcz31_6 : wc.cell? ⟨gb183, 6, none⟩ = some (.int .i64 a0_6) := (blk_cell BK183.out 6).trans rfl
          have hcz31_7 : wc.cell? ⟨gb183, 7, none⟩ = some (.bool a0_7) := (blk_cell BK183.out 7).trans rfl
          have hfz31_0 := blk_frozen BK183.out 0
          have hfz31_1 := blk_frozen BK183.out 1
          have hfz31_2 := blk_frozen BK183.out 2
          have hfz31_3 := blk_frozen BK183.out 3
          have hfz31_4 := blk_frozen BK183.out 4
          have hfz31_5 := blk_frozen BK183.out 5
          have hfz31_6 := blk_frozen BK183.out 6
          have hfz31_7 := blk_frozen BK183.out 7
          go_wp2
          go_ret
          exact ⟨by first | rfl | (simp [errW_none, errW_some] <;> rfl) | (simp [*, errW_none, errW_some] <;> rfl), by repeat (first | (with_reducible first | exact HB.out | apply below_alloc | apply pw_below_drewN | apply below_drew1 | refine below_set ?_ GE183.out) | exact HB.out)⟩

end Go.Proofs.YtgdgncdnhpflcaaDoor.PPresetChoices
