-- written by this session's program wip/reprint.sh (a turned copy of the kit's print): the session's own text
import Derived.Test.YtdacblackoaphaaPBoundFramesx0
namespace Go.Proofs.Ytdacblackoaphaa.PBoundFrames
open Go.RowKit Go.Proofs.YtdacblackoaphaaW.PrintWords Go.Proofs.YtdacblackoaphaaW.PrintLast Go.Proofs.YtdacblackoaphaaW.PrintMore Go.Proofs.Ytdacblackoaphaa.H
attribute [local go_sem] max2_int min2_int max_two min_two max_three min_three max_four min_four   -- for this text's walks alone
set_option linter.unusedVariables false
set_option linter.unusedSimpArgs false

/-! ### serinetteref17_Check: function 45 -/
mutual
def serinetteref17_Check.j0 : Nat → Bool → Int → Int → Int → Int → Int → Bool → Option (Int)
  | 0, _, _, _, _, _, _, _ => none
  | k + 1, x10, x265000, x265001, x265002, x265003, x265004, x265005 => if x10 = true then (some 15) else (if x265001 < 0 then (serinetteref17_Check.j1 k true x265000 x265001 x265002 x265003 x265004 x265005) else (serinetteref17_Check.j1 k (decide (x265001 > 1048575)) x265000 x265001 x265002 x265003 x265004 x265005))
def serinetteref17_Check.j1 : Nat → Bool → Int → Int → Int → Int → Int → Bool → Option (Int)
  | 0, _, _, _, _, _, _, _ => none
  | k + 1, x18, x265000, x265001, x265002, x265003, x265004, x265005 => if x18 = true then (some 11) else (if x265002 < 0 then (serinetteref17_Check.j2 k true x265000 x265001 x265002 x265003 x265004 x265005) else (serinetteref17_Check.j2 k (decide (x265002 > 10)) x265000 x265001 x265002 x265003 x265004 x265005))
def serinetteref17_Check.j2 : Nat → Bool → Int → Int → Int → Int → Int → Bool → Option (Int)
  | 0, _, _, _, _, _, _, _ => none
  | k + 1, x26, x265000, x265001, x265002, x265003, x265004, x265005 => if x26 = true then (some 12) else (if x265003 = 0 then (serinetteref17_Check.j3 k false x265000 x265001 x265002 x265003 x265004 x265005) else (if x265003 < 4 then (serinetteref17_Check.j3 k true x265000 x265001 x265002 x265003 x265004 x265005) else (serinetteref17_Check.j3 k (decide (x265003 > 32)) x265000 x265001 x265002 x265003 x265004 x265005)))
def serinetteref17_Check.j3 : Nat → Bool → Int → Int → Int → Int → Int → Bool → Option (Int)
  | 0, _, _, _, _, _, _, _ => none
  | k + 1, x39, x265000, x265001, x265002, x265003, x265004, x265005 => if x39 = true then (some 10) else (if x265004 < 0 then (some 6) else (if x265004 > 68719476735 then (some 6) else (if x265005 = true then (some 0) else (if x265004 > 2147483647 then (some 6) else (some 0)))))
end
def serinetteref17_Check.f (k : Nat) (a0_0 : Int) (a0_1 : Int) (a0_2 : Int) (a0_3 : Int) (a0_4 : Int) (a0_5 : Bool) : Option (Int) := if a0_0 < 1 then (serinetteref17_Check.j0 k true a0_0 a0_1 a0_2 a0_3 a0_4 a0_5) else (serinetteref17_Check.j0 k (decide (a0_0 > 65535)) a0_0 a0_1 a0_2 a0_3 a0_4 a0_5)
theorem serinetteref17_Check.mono_l : ∀ k, (∀ y0 y1 y2 y3 y4 y5 y6, LeO (serinetteref17_Check.j0 k y0 y1 y2 y3 y4 y5 y6) (serinetteref17_Check.j0 (k + 1) y0 y1 y2 y3 y4 y5 y6)) ∧ (∀ y0 y1 y2 y3 y4 y5 y6, LeO (serinetteref17_Check.j1 k y0 y1 y2 y3 y4 y5 y6) (serinetteref17_Check.j1 (k + 1) y0 y1 y2 y3 y4 y5 y6)) ∧ (∀ y0 y1 y2 y3 y4 y5 y6, LeO (serinetteref17_Check.j2 k y0 y1 y2 y3 y4 y5 y6) (serinetteref17_Check.j2 (k + 1) y0 y1 y2 y3 y4 y5 y6)) ∧ (∀ y0 y1 y2 y3 y4 y5 y6, LeO (serinetteref17_Check.j3 k y0 y1 y2 y3 y4 y5 y6) (serinetteref17_Check.j3 (k + 1) y0 y1 y2 y3 y4 y5 y6))
  | 0 => ⟨fun _ _ _ _ _ _ _ r h => by simp [serinetteref17_Check.j0] at h, fun _ _ _ _ _ _ _ r h => by simp [serinetteref17_Check.j1] at h, fun _ _ _ _ _ _ _ r h => by simp [serinetteref17_Check.j2] at h, fun _ _ _ _ _ _ _ r h => by simp [serinetteref17_Check.j3] at h⟩
  | k + 1 => by
    obtain ⟨ih0, ih1, ih2, ih3⟩ := serinetteref17_Check.mono_l k
    refine ⟨?_, ?_, ?_, ?_⟩
    · intro y0 y1 y2 y3 y4 y5 y6
      unfold serinetteref17_Check.j0
      repeat' first
      | (with_reducible exact ih0 _ _ _ _ _ _ _)
      | (with_reducible exact ih1 _ _ _ _ _ _ _)
      | (with_reducible exact ih2 _ _ _ _ _ _ _)
      | (with_reducible exact ih3 _ _ _ _ _ _ _)
      | (with_reducible exact LeO.refl _)
      | (with_reducible exact LeO.none _)
      | (with_reducible refine LeO.ite ?_ ?_)
      | (with_reducible refine LeO.bind ?_ (fun _ => ?_))
      | exact ih0 _ _ _ _ _ _ _
      | exact ih1 _ _ _ _ _ _ _
      | exact ih2 _ _ _ _ _ _ _
      | exact ih3 _ _ _ _ _ _ _
      | exact LeO.none _
      | refine LeO.ite ?_ ?_
      | refine LeO.bind ?_ (fun _ => ?_)
    · intro y0 y1 y2 y3 y4 y5 y6
      unfold serinetteref17_Check.j1
      repeat' first
      | (with_reducible exact ih0 _ _ _ _ _ _ _)
      | (with_reducible exact ih1 _ _ _ _ _ _ _)
      | (with_reducible exact ih2 _ _ _ _ _ _ _)
      | (with_reducible exact ih3 _ _ _ _ _ _ _)
      | (with_reducible exact LeO.refl _)
      | (with_reducible exact LeO.none _)
      | (with_reducible refine LeO.ite ?_ ?_)
      | (with_reducible refine LeO.bind ?_ (fun _ => ?_))
      | exact ih0 _ _ _ _ _ _ _
      | exact ih1 _ _ _ _ _ _ _
      | exact ih2 _ _ _ _ _ _ _
      | exact ih3 _ _ _ _ _ _ _
      | exact LeO.none _
      | refine LeO.ite ?_ ?_
      | refine LeO.bind ?_ (fun _ => ?_)
    · intro y0 y1 y2 y3 y4 y5 y6
      unfold serinetteref17_Check.j2
      repeat' first
      | (with_reducible exact ih0 _ _ _ _ _ _ _)
      | (with_reducible exact ih1 _ _ _ _ _ _ _)
      | (with_reducible exact ih2 _ _ _ _ _ _ _)
      | (with_reducible exact ih3 _ _ _ _ _ _ _)
      | (with_reducible exact LeO.refl _)
      | (with_reducible exact LeO.none _)
      | (with_reducible refine LeO.ite ?_ ?_)
      | (with_reducible refine LeO.bind ?_ (fun _ => ?_))
      | exact ih0 _ _ _ _ _ _ _
      | exact ih1 _ _ _ _ _ _ _
      | exact ih2 _ _ _ _ _ _ _
      | exact ih3 _ _ _ _ _ _ _
      | exact LeO.none _
      | refine LeO.ite ?_ ?_
      | refine LeO.bind ?_ (fun _ => ?_)
    · intro y0 y1 y2 y3 y4 y5 y6
      unfold serinetteref17_Check.j3
      repeat' first
      | (with_reducible exact ih0 _ _ _ _ _ _ _)
      | (with_reducible exact ih1 _ _ _ _ _ _ _)
      | (with_reducible exact ih2 _ _ _ _ _ _ _)
      | (with_reducible exact ih3 _ _ _ _ _ _ _)
      | (with_reducible exact LeO.refl _)
      | (with_reducible exact LeO.none _)
      | (with_reducible refine LeO.ite ?_ ?_)
      | (with_reducible refine LeO.bind ?_ (fun _ => ?_))
      | exact ih0 _ _ _ _ _ _ _
      | exact ih1 _ _ _ _ _ _ _
      | exact ih2 _ _ _ _ _ _ _
      | exact ih3 _ _ _ _ _ _ _
      | exact LeO.none _
      | refine LeO.ite ?_ ?_
      | refine LeO.bind ?_ (fun _ => ?_)
theorem serinetteref17_Check.mono : ∀ a0 a1 a2 a3 a4 a5 k, LeO (serinetteref17_Check.f k a0 a1 a2 a3 a4 a5) (serinetteref17_Check.f (k + 1) a0 a1 a2 a3 a4 a5) := by
  intro a0 a1 a2 a3 a4 a5 k
  obtain ⟨ih0, ih1, ih2, ih3⟩ := serinetteref17_Check.mono_l k
  unfold serinetteref17_Check.f
  repeat' first
      | (with_reducible exact ih0 _ _ _ _ _ _ _)
      | (with_reducible exact ih1 _ _ _ _ _ _ _)
      | (with_reducible exact ih2 _ _ _ _ _ _ _)
      | (with_reducible exact ih3 _ _ _ _ _ _ _)
      | (with_reducible exact LeO.refl _)
      | (with_reducible exact LeO.none _)
      | (with_reducible refine LeO.ite ?_ ?_)
      | (with_reducible refine LeO.bind ?_ (fun _ => ?_))
      | exact ih0 _ _ _ _ _ _ _
      | exact ih1 _ _ _ _ _ _ _
      | exact ih2 _ _ _ _ _ _ _
      | exact ih3 _ _ _ _ _ _ _
      | exact LeO.none _
      | refine LeO.ite ?_ ?_
      | refine LeO.bind ?_ (fun _ => ?_)
set_option maxHeartbeats 8000000 in
set_option maxRecDepth 100000 in
theorem serinetteref17_Check.calls (k : Nat) (a0_0 : Int) (a0_1 : Int) (a0_2 : Int) (a0_3 : Int) (a0_4 : Int) (a0_5 : Bool) (r : Int) (w : World) (h : serinetteref17_Check.f k a0_0 a0_1 a0_2 a0_3 a0_4 a0_5 = some r) :
    Calls Try.prog 45 #[.agg #[.int .i64 a0_0, .int .i64 a0_1, .int .i64 a0_2, .int .i64 a0_3, .int .i64 a0_4, .bool a0_5]] w fun e w' => e = .returned (.int .i64 r) ∧ Below w.heap.size w w' := by
  have hu70 := Try.underlying70
  have HB := Aside0.mk (Below.refl w.heap.size w)
  have H : (if a0_0 < 1 then (serinetteref17_Check.j0 k true a0_0 a0_1 a0_2 a0_3 a0_4 a0_5) else (serinetteref17_Check.j0 k (decide (a0_0 > 65535)) a0_0 a0_1 a0_2 a0_3 a0_4 a0_5)) = some r := h
  clear h
  have HC2 := Aside0.mk H
  clear H
  go_enter Try.func45, Try.ntmps45
  go_upto_region 1 with (first | ((with_reducible refine gate_dst (N := 1) rfl ?_); refine box_event ?hg (N := 1) ?hd (cs := #[.int .i64 a0_0, .int .i64 a0_1, .int .i64 a0_2, .int .i64 a0_3, .int .i64 a0_4, .bool a0_5]) (t := 70) ?hr ?_; (case hd => rfl); (case hg => rfl); (case hr => first | (go_simp; done) | (go_simp; rfl)); intro gb264 hg w3 hbox hb; have n0_ := Aside0.mk (below_step (by repeat (first | (with_reducible first | exact HB.out | apply below_alloc | apply pw_below_drewN | apply below_drew1) | exact HB.out)) hb); have n1_ := Aside0.mk (hbox); have n2_ := Aside0.mk ((by rw [hg]; exact (below_size (by repeat (first | (with_reducible first | exact HB.out | apply below_alloc | apply pw_below_drewN | apply below_drew1) | exact HB.out))) : w.heap.size ≤ gb264)); have n3_ := Aside0.mk ((by rw [hg]; exact (below_size (by repeat (first | (with_reducible first | exact HB.out | apply below_alloc | apply pw_below_drewN | apply below_drew1) | exact HB.out))) : w.heap.size ≤ gb264)); clear HB; have HB := n0_; have BK264 := n1_; have GW264 := n2_; have GE264 := n3_; clear n0_ n1_ n2_ n3_; clear hb hbox hg))
  (try simp only [Act.put, List.setIfInBounds_toArray, List.set_cons_zero, List.set_cons_succ])
  go_cut [10] (fun v10 wc => ∃ (kq : Nat) (x10_1 : Bool), v10 = .bool x10_1 ∧ Aside0 (serinetteref17_Check.j0 kq x10_1 a0_0 a0_1 a0_2 a0_3 a0_4 a0_5 = some r) ∧ Aside0 (kq ≤ k) ∧ Aside0 (wc.heap[gb264]? = some (.cells #[.int .i64 a0_0, .int .i64 a0_1, .int .i64 a0_2, .int .i64 a0_3, .int .i64 a0_4, .bool a0_5] 70 (0, 0))) ∧ Aside0 (Below w.heap.size w wc))
  case first =>
    have H := HC2.out
    clear HC2
    by_cases c4 : a0_0 < 1
    · rw [if_pos c4] at H
      have c4b0 : decide (a0_0 < 1) = true := decide_eq_true c4
      clear c4
      (first | rw [c4b0] | (simp only [i64_w, i32_w]; rw [c4b0]) | skip)
      have H' := Aside0.mk H
      clear H
      have hcz5_0 : w3.cell? ⟨gb264, 0, none⟩ = some (.int .i64 a0_0) := (blk_cell BK264.out 0).trans rfl
      have hcz5_1 : w3.cell? ⟨gb264, 1, none⟩ = some (.int .i64 a0_1) := (blk_cell BK264.out 1).trans rfl
      have hcz5_2 : w3.cell? ⟨gb264, 2, none⟩ = some (.int .i64 a0_2) := (blk_cell BK264.out 2).trans rfl
      have hcz5_3 : w3.cell? ⟨gb264, 3, none⟩ = some (.int .i64 a0_3) := (blk_cell BK264.out 3).trans rfl
      have hcz5_4 : w3.cell? ⟨gb264, 4, none⟩ = some (.int .i64 a0_4) := (blk_cell BK264.out 4).trans rfl
      have hcz5_5 : w3.cell? ⟨gb264, 5, none⟩ = some (.bool a0_5) := (blk_cell BK264.out 5).trans rfl
      have hfz5_0 := blk_frozen BK264.out 0
      have hfz5_1 := blk_frozen BK264.out 1
      have hfz5_2 := blk_frozen BK264.out 2
      have hfz5_3 := blk_frozen BK264.out 3
      have hfz5_4 := blk_frozen BK264.out 4
      have hfz5_5 := blk_frozen BK264.out 5
      go_wp2
      go_meet
      case rel => exact ⟨_, (true), (by first | rfl | (simp; done) | (simp [*]; done)), H', ⟨by first | omega | exact Nat.le_refl _⟩, ⟨by (with_reducible repeat (first | refine blk_drewN ?_ _ | refine blk_drew ?_ | refine blk_alloc ?_ _)); exact BK264.out⟩, ⟨by repeat (first | (with_reducible first | exact HB.out | apply below_alloc | apply pw_below_drewN | apply below_drew1 | refine below_set ?_ GE264.out) | exact HB.out)⟩⟩
    · rw [if_neg c4] at H
      have c4b0 : decide (a0_0 < 1) = false := decide_eq_false c4
      clear c4
      (first | rw [c4b0] | (simp only [i64_w, i32_w]; rw [c4b0]) | skip)
      have H' := Aside0.mk H
      clear H
      have hcz6_0 : w3.cell? ⟨gb264, 0, none⟩ = some (.int .i64 a0_0) := (blk_cell BK264.out 0).trans rfl
      have hcz6_1 : w3.cell? ⟨gb264, 1, none⟩ = some (.int .i64 a0_1) := (blk_cell BK264.out 1).trans rfl
      have hcz6_2 : w3.cell? ⟨gb264, 2, none⟩ = some (.int .i64 a0_2) := (blk_cell BK264.out 2).trans rfl
      have hcz6_3 : w3.cell? ⟨gb264, 3, none⟩ = some (.int .i64 a0_3) := (blk_cell BK264.out 3).trans rfl
      have hcz6_4 : w3.cell? ⟨gb264, 4, none⟩ = some (.int .i64 a0_4) := (blk_cell BK264.out 4).trans rfl
      have hcz6_5 : w3.cell? ⟨gb264, 5, none⟩ = some (.bool a0_5) := (blk_cell BK264.out 5).trans rfl
      have hfz6_0 := blk_frozen BK264.out 0
      have hfz6_1 := blk_frozen BK264.out 1
      have hfz6_2 := blk_frozen BK264.out 2
      have hfz6_3 := blk_frozen BK264.out 3
      have hfz6_4 := blk_frozen BK264.out 4
      have hfz6_5 := blk_frozen BK264.out 5
      go_wp2
      go_meet
      case rel => exact ⟨_, (decide (a0_0 > 65535)), (by first | rfl | (simp; done) | (simp [*]; done)), H', ⟨by first | omega | exact Nat.le_refl _⟩, ⟨by (with_reducible repeat (first | refine blk_drewN ?_ _ | refine blk_drew ?_ | refine blk_alloc ?_ _)); exact BK264.out⟩, ⟨by repeat (first | (with_reducible first | exact HB.out | apply below_alloc | apply pw_below_drewN | apply below_drew1 | refine below_set ?_ GE264.out) | exact HB.out)⟩⟩
  case rest =>
    clear HC2
    try clear p2
    try clear c4
    try clear c4b0
    try clear hcz5_0
    try clear hcz5_1
    try clear hcz5_2
    try clear hcz5_3
    try clear hcz5_4
    try clear hcz5_5
    try clear hcz6_0
    try clear hcz6_1
    try clear hcz6_2
    try clear hcz6_3
    try clear hcz6_4
    try clear hcz6_5
    try clear hfz5_0
    try clear hfz5_1
    try clear hfz5_2
    try clear hfz5_3
    try clear hfz5_4
    try clear hfz5_5
    try clear hfz6_0
    try clear hfz6_1
    try clear hfz6_2
    try clear hfz6_3
    try clear hfz6_4
    try clear hfz6_5
    obtain ⟨kq, x10_1, rfl, HA, HJ1, BK264, HB⟩ := hcut
    cases kq with
    | zero => exact absurd HA.out (by simp [serinetteref17_Check.j0])
    | succ kj1 =>
      have H := HA.out
      clear HA
      simp only [serinetteref17_Check.j0] at H
      by_cases c7 : x10_1 = true
      · subst c7
        have H1 : (some 15) = some r := by rw [if_pos rfl] at H; exact H
        clear H
        have H := H1
        clear H1
        obtain rfl := Option.some.inj H
        go_wp2
        go_ret
        exact ⟨by first | rfl | (simp [errW_none, errW_some] <;> rfl) | (simp [*, errW_none, errW_some] <;> rfl), by repeat (first | (with_reducible first | exact HB.out | apply below_alloc | apply pw_below_drewN | apply below_drew1 | refine below_set ?_ GE264.out) | exact HB.out)⟩
      · replace c7 := Bool.eq_false_iff.mpr c7
        subst c7
        have H1 : (if a0_1 < 0 then (serinetteref17_Check.j1 kj1 true a0_0 a0_1 a0_2 a0_3 a0_4 a0_5) else (serinetteref17_Check.j1 kj1 (decide (a0_1 > 1048575)) a0_0 a0_1 a0_2 a0_3 a0_4 a0_5)) = some r := by rw [if_neg (show ¬ (false = true) by decide)] at H; exact H
        clear H
        have H := H1
        clear H1
        have HC8 := Aside0.mk H
        clear H
        go_upto_region 3 with (fail)
        go_cut [18] (fun v18 wc => ∃ (kq : Nat) (x18_7 : Bool), v18 = .bool x18_7 ∧ Aside0 (serinetteref17_Check.j1 kq x18_7 a0_0 a0_1 a0_2 a0_3 a0_4 a0_5 = some r) ∧ Aside0 (kq ≤ kj1) ∧ Aside0 (wc.heap[gb264]? = some (.cells #[.int .i64 a0_0, .int .i64 a0_1, .int .i64 a0_2, .int .i64 a0_3, .int .i64 a0_4, .bool a0_5] 70 (0, 0))) ∧ Aside0 (Below w.heap.size w wc))
        case first =>
          have H := HC8.out
          clear HC8
          by_cases c9 : a0_1 < 0
          · rw [if_pos c9] at H
            have c9b0 : decide (a0_1 < 0) = true := decide_eq_true c9
            clear c9
            (first | rw [c9b0] | (simp only [i64_w, i32_w]; rw [c9b0]) | skip)
            have H' := Aside0.mk H
            clear H
            have hcz10_0 : wc.cell? ⟨gb264, 0, none⟩ = some (.int .i64 a0_0) := (blk_cell BK264.out 0).trans rfl
            have hcz10_1 : wc.cell? ⟨gb264, 1, none⟩ = some (.int .i64 a0_1) := (blk_cell BK264.out 1).trans rfl
            have hcz10_2 : wc.cell? ⟨gb264, 2, none⟩ = some (.int .i64 a0_2) := (blk_cell BK264.out 2).trans rfl
            have hcz10_3 : wc.cell? ⟨gb264, 3, none⟩ = some (.int .i64 a0_3) := (blk_cell BK264.out 3).trans rfl
            have hcz10_4 : wc.cell? ⟨gb264, 4, none⟩ = some (.int .i64 a0_4) := (blk_cell BK264.out 4).trans rfl
            have hcz10_5 : wc.cell? ⟨gb264, 5, none⟩ = some (.bool a0_5) := (blk_cell BK264.out 5).trans rfl
            have hfz10_0 := blk_frozen BK264.out 0
            have hfz10_1 := blk_frozen BK264.out 1
            have hfz10_2 := blk_frozen BK264.out 2
            have hfz10_3 := blk_frozen BK264.out 3
            have hfz10_4 := blk_frozen BK264.out 4
            have hfz10_5 := blk_frozen BK264.out 5
            go_wp2
            go_meet
            case rel => exact ⟨_, (true), (by first | rfl | (simp; done) | (simp [*]; done)), H', ⟨by have := HJ1.out; first | omega | exact Nat.le_refl _⟩, ⟨by (with_reducible repeat (first | refine blk_drewN ?_ _ | refine blk_drew ?_ | refine blk_alloc ?_ _)); exact BK264.out⟩, ⟨by repeat (first | (with_reducible first | exact HB.out | apply below_alloc | apply pw_below_drewN | apply below_drew1 | refine below_set ?_ GE264.out) | exact HB.out)⟩⟩
          · rw [if_neg c9] at H
            have c9b0 : decide (a0_1 < 0) = false := decide_eq_false c9
            clear c9
            (first | rw [c9b0] | (simp only [i64_w, i32_w]; rw [c9b0]) | skip)
            have H' := Aside0.mk H
            clear H
            have hcz11_0 : wc.cell? ⟨gb264, 0, none⟩ = some (.int .i64 a0_0) := (blk_cell BK264.out 0).trans rfl
            have hcz11_1 : wc.cell? ⟨gb264, 1, none⟩ = some (.int .i64 a0_1) := (blk_cell BK264.out 1).trans rfl
            have hcz11_2 : wc.cell? ⟨gb264, 2, none⟩ = some (.int .i64 a0_2) := (blk_cell BK264.out 2).trans rfl
            have hcz11_3 : wc.cell? ⟨gb264, 3, none⟩ = some (.int .i64 a0_3) := (blk_cell BK264.out 3).trans rfl
            have hcz11_4 : wc.cell? ⟨gb264, 4, none⟩ = some (.int .i64 a0_4) := (blk_cell BK264.out 4).trans rfl
            have hcz11_5 : wc.cell? ⟨gb264, 5, none⟩ = some (.bool a0_5) := (blk_cell BK264.out 5).trans rfl
            have hfz11_0 := blk_frozen BK264.out 0
            have hfz11_1 := blk_frozen BK264.out 1
            have hfz11_2 := blk_frozen BK264.out 2
            have hfz11_3 := blk_frozen BK264.out 3
            have hfz11_4 := blk_frozen BK264.out 4
            have hfz11_5 := blk_frozen BK264.out 5
            go_wp2
            go_meet
            case rel => exact ⟨_, (decide (a0_1 > 1048575)), (by first | rfl | (simp; done) | (simp [*]; done)), H', ⟨by have := HJ1.out; first | omega | exact Nat.le_refl _⟩, ⟨by (with_reducible repeat (first | refine blk_drewN ?_ _ | refine blk_drew ?_ | refine blk_alloc ?_ _)); exact BK264.out⟩, ⟨by repeat (first | (with_reducible first | exact HB.out | apply below_alloc | apply pw_below_drewN | apply below_drew1 | refine below_set ?_ GE264.out) | exact HB.out)⟩⟩
        case rest =>
          clear HC8
          try clear p2
          try clear c4
          try clear c4b0
          try clear c7
          try clear c9
          try clear c9b0
          try clear hcz10_0
          try clear hcz10_1
          try clear hcz10_2
          try clear hcz10_3
          try clear hcz10_4
          try clear hcz10_5
          try clear hcz11_0
          try clear hcz11_1
          try clear hcz11_2
          try clear hcz11_3
          try clear hcz11_4
          try clear hcz11_5
          try clear hcz5_0
          try clear hcz5_1
          try clear hcz5_2
          try clear hcz5_3
          try clear hcz5_4
          try clear hcz5_5
          try clear hcz6_0
          try clear hcz6_1
          try clear hcz6_2
          try clear hcz6_3
          try clear hcz6_4
          try clear hcz6_5
          try clear hfz10_0
          try clear hfz10_1
          try clear hfz10_2
          try clear hfz10_3
          try clear hfz10_4
          try clear hfz10_5
          try clear hfz11_0
          try clear hfz11_1
          try clear hfz11_2
          try clear hfz11_3
          try clear hfz11_4
          try clear hfz11_5
          try clear hfz5_0
          try clear hfz5_1
          try clear hfz5_2
          try clear hfz5_3
          try clear hfz5_4
          try clear hfz5_5
          try clear hfz6_0
          try clear hfz6_1
          try clear hfz6_2
          try clear hfz6_3
          try clear hfz6_4
          try clear hfz6_5
          try clear p2
          obtain ⟨kq, x18_7, rfl, HA, HJ7, BK264, HB⟩ := hcut
          cases kq with
          | zero => exact absurd HA.out (by simp [serinetteref17_Check.j1])
          | succ kj7 =>
            have H := HA.out
            clear HA
            simp only [serinetteref17_Check.j1] at H
            by_cases c12 : x18_7 = true
            · subst c12
              have H1 : (some 11) = some r := by rw [if_pos rfl] at H; exact H
              clear H
              have H := H1
              clear H1
              obtain rfl := Option.some.inj H
              go_wp2
              go_ret
              exact ⟨by first | rfl | (simp [errW_none, errW_some] <;> rfl) | (simp [*, errW_none, errW_some] <;> rfl), by repeat (first | (with_reducible first | exact HB.out | apply below_alloc | apply pw_below_drewN | apply below_drew1 | refine below_set ?_ GE264.out) | exact HB.out)⟩
            · replace c12 := Bool.eq_false_iff.mpr c12
              subst c12
              have H1 : (if a0_2 < 0 then (serinetteref17_Check.j2 kj7 true a0_0 a0_1 a0_2 a0_3 a0_4 a0_5) else (serinetteref17_Check.j2 kj7 (decide (a0_2 > 10)) a0_0 a0_1 a0_2 a0_3 a0_4 a0_5)) = some r := by rw [if_neg (show ¬ (false = true) by decide)] at H; exact H
              clear H
              have H := H1
              clear H1
              have HC13 := Aside0.mk H
              clear H
              go_upto_region 5 with (fail)
              go_cut [26] (fun v26 wc => ∃ (kq : Nat) (x26_12 : Bool), v26 = .bool x26_12 ∧ Aside0 (serinetteref17_Check.j2 kq x26_12 a0_0 a0_1 a0_2 a0_3 a0_4 a0_5 = some r) ∧ Aside0 (kq ≤ kj7) ∧ Aside0 (wc.heap[gb264]? = some (.cells #[.int .i64 a0_0, .int .i64 a0_1, .int .i64 a0_2, .int .i64 a0_3, .int .i64 a0_4, .bool a0_5] 70 (0, 0))) ∧ Aside0 (Below w.heap.size w wc))
              case first =>
                have H := HC13.out
                clear HC13
                by_cases c14 : a0_2 < 0
                · rw [if_pos c14] at H
                  have c14b0 : decide (a0_2 < 0) = true := decide_eq_true c14
                  clear c14
                  (first | rw [c14b0] | (simp only [i64_w, i32_w]; rw [c14b0]) | skip)
                  have H' := Aside0.mk H
                  clear H
                  have hcz15_0 : wc.cell? ⟨gb264, 0, none⟩ = some (.int .i64 a0_0) := (blk_cell BK264.out 0).trans rfl
                  have hcz15_1 : wc.cell? ⟨gb264, 1, none⟩ = some (.int .i64 a0_1) := (blk_cell BK264.out 1).trans rfl
                  have hcz15_2 : wc.cell? ⟨gb264, 2, none⟩ = some (.int .i64 a0_2) := (blk_cell BK264.out 2).trans rfl
                  have hcz15_3 : wc.cell? ⟨gb264, 3, none⟩ = some (.int .i64 a0_3) := (blk_cell BK264.out 3).trans rfl
                  have hcz15_4 : wc.cell? ⟨gb264, 4, none⟩ = some (.int .i64 a0_4) := (blk_cell BK264.out 4).trans rfl
                  have hcz15_5 : wc.cell? ⟨gb264, 5, none⟩ = some (.bool a0_5) := (blk_cell BK264.out 5).trans rfl
                  have hfz15_0 := blk_frozen BK264.out 0
                  have hfz15_1 := blk_frozen BK264.out 1
                  have hfz15_2 := blk_frozen BK264.out 2
                  have hfz15_3 := blk_frozen BK264.out 3
                  have hfz15_4 := blk_frozen BK264.out 4
                  have hfz15_5 := blk_frozen BK264.out 5
                  go_wp2
                  go_meet
                  case rel => exact ⟨_, (true), (by first | rfl | (simp; done) | (simp [*]; done)), H', ⟨by have := HJ1.out; have := HJ7.out; first | omega | exact Nat.le_refl _⟩, ⟨by (with_reducible repeat (first | refine blk_drewN ?_ _ | refine blk_drew ?_ | refine blk_alloc ?_ _)); exact BK264.out⟩, ⟨by repeat (first | (with_reducible first | exact HB.out | apply below_alloc | apply pw_below_drewN | apply below_drew1 | refine below_set ?_ GE264.out) | exact HB.out)⟩⟩
                · rw [if_neg c14] at H
                  have c14b0 : decide (a0_2 < 0) = false := decide_eq_false c14
                  clear c14
                  (first | rw [c14b0] | (simp only [i64_w, i32_w]; rw [c14b0]) | skip)
                  have H' := Aside0.mk H
                  clear H
                  have hcz16_0 : wc.cell? ⟨gb264, 0, none⟩ = some (.int .i64 a0_0) := (blk_cell BK264.out 0).trans rfl
                  have hcz16_1 : wc.cell? ⟨gb264, 1, none⟩ = some (.int .i64 a0_1) := (blk_cell BK264.out 1).trans rfl
                  have hcz16_2 : wc.cell? ⟨gb264, 2, none⟩ = some (.int .i64 a0_2) := (blk_cell BK264.out 2).trans rfl
                  have hcz16_3 : wc.cell? ⟨gb264, 3, none⟩ = some (.int .i64 a0_3) := (blk_cell BK264.out 3).trans rfl
                  have hcz16_4 : wc.cell? ⟨gb264, 4, none⟩ = some (.int .i64 a0_4) := (blk_cell BK264.out 4).trans rfl
                  have hcz16_5 : wc.cell? ⟨gb264, 5, none⟩ = some (.bool a0_5) := (blk_cell BK264.out 5).trans rfl
                  have hfz16_0 := blk_frozen BK264.out 0
                  have hfz16_1 := blk_frozen BK264.out 1
                  have hfz16_2 := blk_frozen BK264.out 2
                  have hfz16_3 := blk_frozen BK264.out 3
                  have hfz16_4 := blk_frozen BK264.out 4
                  have hfz16_5 := blk_frozen BK264.out 5
                  go_wp2
                  go_meet
                  case rel => exact ⟨_, (decide (a0_2 > 10)), (by first | rfl | (simp; done) | (simp [*]; done)), H', ⟨by have := HJ1.out; have := HJ7.out; first | omega | exact Nat.le_refl _⟩, ⟨by (with_reducible repeat (first | refine blk_drewN ?_ _ | refine blk_drew ?_ | refine blk_alloc ?_ _)); exact BK264.out⟩, ⟨by repeat (first | (with_reducible first | exact HB.out | apply below_alloc | apply pw_below_drewN | apply below_drew1 | refine below_set ?_ GE264.out) | exact HB.out)⟩⟩
              case rest =>
                clear HC13
                try clear c1
                try clear p2
                try clear c4
                try clear c4b0
                try clear c7
                try clear c9
                try clear c9b0
                try clear c12
                try clear c14
                try clear c14b0
                try clear hcz10_0
                try clear hcz10_1
                try clear hcz10_2
                try clear hcz10_3
                try clear hcz10_4
                try clear hcz10_5
                try clear hcz11_0
                try clear hcz11_1
                try clear hcz11_2
                try clear hcz11_3
                try clear hcz11_4
                try clear hcz11_5
                try clear hcz15_0
                try clear hcz15_1
                try clear hcz15_2
                try clear hcz15_3
                try clear hcz15_4
                try clear hcz15_5
                try clear hcz16_0
                try clear hcz16_1
                try clear hcz16_2
                try clear hcz16_3
                try clear hcz16_4
                try clear hcz16_5
                try clear hcz5_0
                try clear hcz5_1
                try clear hcz5_2
                try clear hcz5_3
                try clear hcz5_4
                try clear hcz5_5
                try clear hcz6_0
                try clear hcz6_1
                try clear hcz6_2
                try clear hcz6_3
                try clear hcz6_4
                try clear hcz6_5
                try clear hfz10_0
                try clear hfz10_1
                try clear hfz10_2
                try clear hfz10_3
                try clear hfz10_4
                try clear hfz10_5
                try clear hfz11_0
                try clear hfz11_1
                try clear hfz11_2
                try clear hfz11_3
                try clear hfz11_4
                try clear hfz11_5
                try clear hfz15_0
                try clear hfz15_1
                try clear hfz15_2
                try clear hfz15_3
                try clear hfz15_4
                try clear hfz15_5
                try clear hfz16_0
                try clear hfz16_1
                try clear hfz16_2
                try clear hfz16_3
                try clear hfz16_4
                try clear hfz16_5
                try clear hfz5_0
                try clear hfz5_1
                try clear hfz5_2
                try clear hfz5_3
                try clear hfz5_4
                try clear hfz5_5
                try clear hfz6_0
                try clear hfz6_1
                try clear hfz6_2
                try clear hfz6_3
                try clear hfz6_4
                try clear hfz6_5
                try clear p2
                obtain ⟨kq, x26_12, rfl, HA, HJ12, BK264, HB⟩ := hcut
                cases kq with
                | zero => exact absurd HA.out (by simp [serinetteref17_Check.j2])
                | succ kj12 =>
                  have H := HA.out
                  clear HA
                  simp only [serinetteref17_Check.j2] at H
                  by_cases c17 : x26_12 = true
                  · subst c17
                    have H1 : (some 12) = some r := by rw [if_pos rfl] at H; exact H
                    clear H
                    have H := H1
                    clear H1
                    obtain rfl := Option.some.inj H
                    go_wp2
                    go_ret
                    exact ⟨by first | rfl | (simp [errW_none, errW_some] <;> rfl) | (simp [*, errW_none, errW_some] <;> rfl), by repeat (first | (with_reducible first | exact HB.out | apply below_alloc | apply pw_below_drewN | apply below_drew1 | refine below_set ?_ GE264.out) | exact HB.out)⟩
                  · replace c17 := Bool.eq_false_iff.mpr c17
                    subst c17
                    have H1 : (if a0_3 = 0 then (serinetteref17_Check.j3 kj12 false a0_0 a0_1 a0_2 a0_3 a0_4 a0_5) else (if a0_3 < 4 then (serinetteref17_Check.j3 kj12 true a0_0 a0_1 a0_2 a0_3 a0_4 a0_5) else (serinetteref17_Check.j3 kj12 (decide (a0_3 > 32)) a0_0 a0_1 a0_2 a0_3 a0_4 a0_5))) = some r := by rw [if_neg (show ¬ (false = true) by decide)] at H; exact H
                    clear H
                    have H := H1
                    clear H1
                    have HC18 := Aside0.mk H
                    clear H
                    go_upto_region 7 with (fail)
                    go_cut [39] (fun v39 wc => ∃ (kq : Nat) (x39_17 : Bool), v39 = .bool x39_17 ∧ Aside0 (serinetteref17_Check.j3 kq x39_17 a0_0 a0_1 a0_2 a0_3 a0_4 a0_5 = some r) ∧ Aside0 (kq ≤ kj12) ∧ Aside0 (wc.heap[gb264]? = some (.cells #[.int .i64 a0_0, .int .i64 a0_1, .int .i64 a0_2, .int .i64 a0_3, .int .i64 a0_4, .bool a0_5] 70 (0, 0))) ∧ Aside0 (Below w.heap.size w wc))
                    case first =>
                      have H := HC18.out
                      clear HC18
                      by_cases c19 : a0_3 = 0
                      · rw [if_pos c19] at H
                        have c19b0 : (a0_3 == 0) = true := beq_iff_eq.mpr c19
                        have c19b1 : (a0_3 != 0) = false := bne_eq_false_iff_eq.mpr c19
                        clear c19
                        (first | rw [c19b0] | (simp only [i64_w, i32_w]; rw [c19b0]) | skip)
                        have H' := Aside0.mk H
                        clear H
                        have hcz20_0 : wc.cell? ⟨gb264, 0, none⟩ = some (.int .i64 a0_0) := (blk_cell BK264.out 0).trans rfl
                        have hcz20_1 : wc.cell? ⟨gb264, 1, none⟩ = some (.int .i64 a0_1) := (blk_cell BK264.out 1).trans rfl
                        have hcz20_2 : wc.cell? ⟨gb264, 2, none⟩ = some (.int .i64 a0_2) := (blk_cell BK264.out 2).trans rfl
                        have hcz20_3 : wc.cell? ⟨gb264, 3, none⟩ = some (.int .i64 a0_3) := (blk_cell BK264.out 3).trans rfl
                        have hcz20_4 : wc.cell? ⟨gb264, 4, none⟩ = some (.int .i64 a0_4) := (blk_cell BK264.out 4).trans rfl
                        have hcz20_5 : wc.cell? ⟨gb264, 5, none⟩ = some (.bool a0_5) := (blk_cell BK264.out 5).trans rfl
                        have hfz20_0 := blk_frozen BK264.out 0
                        have hfz20_1 := blk_frozen BK264.out 1
                        have hfz20_2 := blk_frozen BK264.out 2
                        have hfz20_3 := blk_frozen BK264.out 3
                        have hfz20_4 := blk_frozen BK264.out 4
                        have hfz20_5 := blk_frozen BK264.out 5
                        go_wp2
                        go_meet
                        case rel => exact ⟨_, (false), (by first | rfl | (simp; done) | (simp [*]; done)), H', ⟨by have := HJ1.out; have := HJ7.out; have := HJ12.out; first | omega | exact Nat.le_refl _⟩, ⟨by (with_reducible repeat (first | refine blk_drewN ?_ _ | refine blk_drew ?_ | refine blk_alloc ?_ _)); exact BK264.out⟩, ⟨by repeat (first | (with_reducible first | exact HB.out | apply below_alloc | apply pw_below_drewN | apply below_drew1 | refine below_set ?_ GE264.out) | exact HB.out)⟩⟩
                      · rw [if_neg c19] at H
                        have c19b0 : (a0_3 == 0) = false := beq_eq_false_iff_ne.mpr c19
                        have c19b1 : (a0_3 != 0) = true := bne_iff_ne.mpr c19
                        (first | rw [c19b0] | (simp only [i64_w, i32_w]; rw [c19b0]) | skip)
                        by_cases c21 : a0_3 < 4
                        · rw [if_pos c21] at H
                          have c21b0 : decide (a0_3 < 4) = true := decide_eq_true c21
                          clear c21
                          have H' := Aside0.mk H
                          clear H
                          have hcz22_0 : wc.cell? ⟨gb264, 0, none⟩ = some (.int .i64 a0_0) := (blk_cell BK264.out 0).trans rfl
                          have hcz22_1 : wc.cell? ⟨gb264, 1, none⟩ = some (.int .i64 a0_1) := (blk_cell BK264.out 1).trans rfl
                          have hcz22_2 : wc.cell? ⟨gb264, 2, none⟩ = some (.int .i64 a0_2) := (blk_cell BK264.out 2).trans rfl
                          have hcz22_3 : wc.cell? ⟨gb264, 3, none⟩ = some (.int .i64 a0_3) := (blk_cell BK264.out 3).trans rfl
                          have hcz22_4 : wc.cell? ⟨gb264, 4, none⟩ = some (.int .i64 a0_4) := (blk_cell BK264.out 4).trans rfl
                          have hcz22_5 : wc.cell? ⟨gb264, 5, none⟩ = some (.bool a0_5) := (blk_cell BK264.out 5).trans rfl
                          have hfz22_0 := blk_frozen BK264.out 0
                          have hfz22_1 := blk_frozen BK264.out 1
                          have hfz22_2 := blk_frozen BK264.out 2
                          have hfz22_3 := blk_frozen BK264.out 3
                          have hfz22_4 := blk_frozen BK264.out 4
                          have hfz22_5 := blk_frozen BK264.out 5
                          go_wp2
                          go_meet
                          case rel => exact ⟨_, (true), (by first | rfl | (simp; done) | (simp [*]; done)), H', ⟨by have := HJ1.out; have := HJ7.out; have := HJ12.out; first | omega | exact Nat.le_refl _⟩, ⟨by (with_reducible repeat (first | refine blk_drewN ?_ _ | refine blk_drew ?_ | refine blk_alloc ?_ _)); exact BK264.out⟩, ⟨by repeat (first | (with_reducible first | exact HB.out | apply below_alloc | apply pw_below_drewN | apply below_drew1 | refine below_set ?_ GE264.out) | exact HB.out)⟩⟩
                        · rw [if_neg c21] at H
                          have c21b0 : decide (a0_3 < 4) = false := decide_eq_false c21
                          clear c21
                          have H' := Aside0.mk H
                          clear H
                          have hcz23_0 : wc.cell? ⟨gb264, 0, none⟩ = some (.int .i64 a0_0) := (blk_cell BK264.out 0).trans rfl
                          have hcz23_1 : wc.cell? ⟨gb264, 1, none⟩ = some (.int .i64 a0_1) := (blk_cell BK264.out 1).trans rfl
                          have hcz23_2 : wc.cell? ⟨gb264, 2, none⟩ = some (.int .i64 a0_2) := (blk_cell BK264.out 2).trans rfl
                          have hcz23_3 : wc.cell? ⟨gb264, 3, none⟩ = some (.int .i64 a0_3) := (blk_cell BK264.out 3).trans rfl
                          have hcz23_4 : wc.cell? ⟨gb264, 4, none⟩ = some (.int .i64 a0_4) := (blk_cell BK264.out 4).trans rfl
                          have hcz23_5 : wc.cell? ⟨gb264, 5, none⟩ = some (.bool a0_5) := (blk_cell BK264.out 5).trans rfl
                          have hfz23_0 := blk_frozen BK264.out 0
                          have hfz23_1 := blk_frozen BK264.out 1
                          have hfz23_2 := blk_frozen BK264.out 2
                          have hfz23_3 := blk_frozen BK264.out 3
                          have hfz23_4 := blk_frozen BK264.out 4
                          have hfz23_5 := blk_frozen BK264.out 5
                          go_wp2
                          go_meet
                          case rel => exact ⟨_, (decide (a0_3 > 32)), (by first | rfl | (simp; done) | (simp [*]; done)), H', ⟨by have := HJ1.out; have := HJ7.out; have := HJ12.out; first | omega | exact Nat.le_refl _⟩, ⟨by (with_reducible repeat (first | refine blk_drewN ?_ _ | refine blk_drew ?_ | refine blk_alloc ?_ _)); exact BK264.out⟩, ⟨by repeat (first | (with_reducible first | exact HB.out | apply below_alloc | apply pw_below_drewN | apply below_drew1 | refine below_set ?_ GE264.out) | exact HB.out)⟩⟩
                    case rest =>
                      clear HC18
                      try clear c1
                      try clear c2
                      try clear p2
                      try clear c4
                      try clear c4b0
                      try clear c7
                      try clear c9
                      try clear c9b0
                      try clear c12
                      try clear c14
                      try clear c14b0
                      try clear c17
                      try clear c19
                      try clear c19b0
                      try clear c19b1
                      try clear c21
                      try clear c21b0
                      try clear hcz10_0
                      try clear hcz10_1
                      try clear hcz10_2
                      try clear hcz10_3
                      try clear hcz10_4
                      try clear hcz10_5
                      try clear hcz11_0
                      try clear hcz11_1
                      try clear hcz11_2
                      try clear hcz11_3
                      try clear hcz11_4
                      try clear hcz11_5
                      try clear hcz15_0
                      try clear hcz15_1
                      try clear hcz15_2
                      try clear hcz15_3
                      try clear hcz15_4
                      try clear hcz15_5
                      try clear hcz16_0
                      try clear hcz16_1
                      try clear hcz16_2
                      try clear hcz16_3
                      try clear hcz16_4
                      try clear hcz16_5
                      try clear hcz20_0
                      try clear hcz20_1
                      try clear hcz20_2
                      try clear hcz20_3
                      try clear hcz20_4
                      try clear hcz20_5
                      try clear hcz22_0
                      try clear hcz22_1
                      try clear hcz22_2
                      try clear hcz22_3
                      try clear hcz22_4
                      try clear hcz22_5
                      try clear hcz23_0
                      try clear hcz23_1
                      try clear hcz23_2
                      try clear hcz23_3
                      try clear hcz23_4
                      try clear hcz23_5
                      try clear hcz5_0
                      try clear hcz5_1
                      try clear hcz5_2
                      try clear hcz5_3
                      try clear hcz5_4
                      try clear hcz5_5
                      try clear hcz6_0
                      try clear hcz6_1
                      try clear hcz6_2
                      try clear hcz6_3
                      try clear hcz6_4
                      try clear hcz6_5
                      try clear hfz10_0
                      try clear hfz10_1
                      try clear hfz10_2
                      try clear hfz10_3
                      try clear hfz10_4
                      try clear hfz10_5
                      try clear hfz11_0
                      try clear hfz11_1
                      try clear hfz11_2
                      try clear hfz11_3
                      try clear hfz11_4
                      try clear hfz11_5
                      try clear hfz15_0
                      try clear hfz15_1
                      try clear hfz15_2
                      try clear hfz15_3
                      try clear hfz15_4
                      try clear hfz15_5
                      try clear hfz16_0
                      try clear hfz16_1
                      try clear hfz16_2
                      try clear hfz16_3
                      try clear hfz16_4
                      try clear hfz16_5
                      try clear hfz20_0
                      try clear hfz20_1
                      try clear hfz20_2
                      try clear hfz20_3
                      try clear hfz20_4
                      try clear hfz20_5
                      try clear hfz22_0
                      try clear hfz22_1
                      try clear hfz22_2
                      try clear hfz22_3
                      try clear hfz22_4
                      try clear hfz22_5
                      try clear hfz23_0
                      try clear hfz23_1
                      try clear hfz23_2
                      try clear hfz23_3
                      try clear hfz23_4
                      try clear hfz23_5
                      try clear hfz5_0
                      try clear hfz5_1
                      try clear hfz5_2
                      try clear hfz5_3
                      try clear hfz5_4
                      try clear hfz5_5
                      try clear hfz6_0
                      try clear hfz6_1
                      try clear hfz6_2
                      try clear hfz6_3
                      try clear hfz6_4
                      try clear hfz6_5
                      try clear p2
                      obtain ⟨kq, x39_17, rfl, HA, HJ17, BK264, HB⟩ := hcut
                      cases kq with
                      | zero => exact absurd HA.out (by simp [serinetteref17_Check.j3])
                      | succ kj17 =>
                        have H := HA.out
                        clear HA
                        simp only [serinetteref17_Check.j3] at H
                        by_cases c24 : x39_17 = true
                        · subst c24
                          have H1 : (some 10) = some r := by rw [if_pos rfl] at H; exact H
                          clear H
                          have H := H1
                          clear H1
                          obtain rfl := Option.some.inj H
                          go_wp2
                          go_ret
                          exact ⟨by first | rfl | (simp [errW_none, errW_some] <;> rfl) | (simp [*, errW_none, errW_some] <;> rfl), by repeat (first | (with_reducible first | exact HB.out | apply below_alloc | apply pw_below_drewN | apply below_drew1 | refine below_set ?_ GE264.out) | exact HB.out)⟩
                        · replace c24 := Bool.eq_false_iff.mpr c24
                          subst c24
                          have H1 : (if a0_4 < 0 then (some 6) else (if a0_4 > 68719476735 then (some 6) else (if a0_5 = true then (some 0) else (if a0_4 > 2147483647 then (some 6) else (some 0))))) = some r := by rw [if_neg (show ¬ (false = true) by decide)] at H; exact H
                          clear H
                          have H := H1
                          clear H1
                          by_cases c25 : a0_4 < 0
                          · rw [if_pos c25] at H
                            have c25b0 : decide (a0_4 < 0) = true := decide_eq_true c25
                            clear c25
                            obtain rfl := Option.some.inj H
                            have hcz26_0 : wc.cell? ⟨gb264, 0, none⟩ = some (.int .i64 a0_0) := (blk_cell BK264.out 0).trans rfl
                            have hcz26_1 : wc.cell? ⟨gb264, 1, none⟩ = some (.int .i64 a0_1) := (blk_cell BK264.out 1).trans rfl
                            have hcz26_2 : wc.cell? ⟨gb264, 2, none⟩ = some (.int .i64 a0_2) := (blk_cell BK264.out 2).trans rfl
                            have hcz26_3 : wc.cell? ⟨gb264, 3, none⟩ = some (.int .i64 a0_3) := (blk_cell BK264.out 3).trans rfl
                            have hcz26_4 : wc.cell? ⟨gb264, 4, none⟩ = some (.int .i64 a0_4) := (blk_cell BK264.out 4).trans rfl
                            have hcz26_5 : wc.cell? ⟨gb264, 5, none⟩ = some (.bool a0_5) := (blk_cell BK264.out 5).trans rfl
                            have hfz26_0 := blk_frozen BK264.out 0
                            have hfz26_1 := blk_frozen BK264.out 1
                            have hfz26_2 := blk_frozen BK264.out 2
                            have hfz26_3 := blk_frozen BK264.out 3
                            have hfz26_4 := blk_frozen BK264.out 4
                            have hfz26_5 := blk_frozen BK264.out 5
                            go_wp2
                            go_ret
                            exact ⟨by first | rfl | (simp [errW_none, errW_some] <;> rfl) | (simp [*, errW_none, errW_some] <;> rfl), by repeat (first | (with_reducible first | exact HB.out | apply below_alloc | apply pw_below_drewN | apply below_drew1 | refine below_set ?_ GE264.out) | exact HB.out)⟩
                          · rw [if_neg c25] at H
                            have c25b0 : decide (a0_4 < 0) = false := decide_eq_false c25
                            clear c25
                            by_cases c27 : a0_4 > 68719476735
                            · rw [if_pos c27] at H
                              have c27b0 : decide (68719476735 < a0_4) = true := decide_eq_true c27
                              clear c27
                              obtain rfl := Option.some.inj H
                              have hcz28_0 : wc.cell? ⟨gb264, 0, none⟩ = some (.int .i64 a0_0) := (blk_cell BK264.out 0).trans rfl
                              have hcz28_1 : wc.cell? ⟨gb264, 1, none⟩ = some (.int .i64 a0_1) := (blk_cell BK264.out 1).trans rfl
                              have hcz28_2 : wc.cell? ⟨gb264, 2, none⟩ = some (.int .i64 a0_2) := (blk_cell BK264.out 2).trans rfl
                              have hcz28_3 : wc.cell? ⟨gb264, 3, none⟩ = some (.int .i64 a0_3) := (blk_cell BK264.out 3).trans rfl
                              have hcz28_4 : wc.cell? ⟨gb264, 4, none⟩ = some (.int .i64 a0_4) := (blk_cell BK264.out 4).trans rfl
                              have hcz28_5 : wc.cell? ⟨gb264, 5, none⟩ = some (.bool a0_5) := (blk_cell BK264.out 5).trans rfl
                              have hfz28_0 := blk_frozen BK264.out 0
                              have hfz28_1 := blk_frozen BK264.out 1
                              have hfz28_2 := blk_frozen BK264.out 2
                              have hfz28_3 := blk_frozen BK264.out 3
                              have hfz28_4 := blk_frozen BK264.out 4
                              have hfz28_5 := blk_frozen BK264.out 5
                              go_wp2
                              go_ret
                              exact ⟨by first | rfl | (simp [errW_none, errW_some] <;> rfl) | (simp [*, errW_none, errW_some] <;> rfl), by repeat (first | (with_reducible first | exact HB.out | apply below_alloc | apply pw_below_drewN | apply below_drew1 | refine below_set ?_ GE264.out) | exact HB.out)⟩
                            · rw [if_neg c27] at H
                              have c27b0 : decide (68719476735 < a0_4) = false := decide_eq_false c27
                              clear c27
                              by_cases c29 : a0_5 = true
                              · subst c29
                                have H1 : (some 0) = some r := by rw [if_pos rfl] at H; exact H
                                clear H
                                have H := H1
                                clear H1
                                obtain rfl := Option.some.inj H
                                have hcz30_0 : wc.cell? ⟨gb264, 0, none⟩ = some (.int .i64 a0_0) := (blk_cell BK264.out 0).trans rfl
                                have hcz30_1 : wc.cell? ⟨gb264, 1, none⟩ = some (.int .i64 a0_1) := (blk_cell BK264.out 1).trans rfl
                                have hcz30_2 : wc.cell? ⟨gb264, 2, none⟩ = some (.int .i64 a0_2) := (blk_cell BK264.out 2).trans rfl
                                have hcz30_3 : wc.cell? ⟨gb264, 3, none⟩ = some (.int .i64 a0_3) := (blk_cell BK264.out 3).trans rfl
                                have hcz30_4 : wc.cell? ⟨gb264, 4, none⟩ = some (.int .i64 a0_4) := (blk_cell BK264.out 4).trans rfl
                                have hcz30_5 : wc.cell? ⟨gb264, 5, none⟩ = some (.bool true) := (blk_cell BK264.out 5).trans rfl
                                have hfz30_0 := blk_frozen BK264.out 0
                                have hfz30_1 := blk_frozen BK264.out 1
                                have hfz30_2 := blk_frozen BK264.out 2
                                have hfz30_3 := blk_frozen BK264.out 3
                                have hfz30_4 := blk_frozen BK264.out 4
                                have hfz30_5 := blk_frozen BK264.out 5
                                go_wp2
                                go_ret
                                exact ⟨by first | rfl | (simp [errW_none, errW_some] <;> rfl) | (simp [*, errW_none, errW_some] <;> rfl), by repeat (first | (with_reducible first | exact HB.out | apply below_alloc | apply pw_below_drewN | apply below_drew1 | refine below_set ?_ GE264.out) | exact HB.out)⟩
                              · replace c29 := Bool.eq_false_iff.mpr c29
                                subst c29
                                have H1 : (if a0_4 > 2147483647 then (some 6) else (some 0)) = some r := by rw [if_neg (show ¬ (false = true) by decide)] at H; exact H
                                clear H
                                have H := H1
                                clear H1
                                by_cases c31 : a0_4 > 2147483647
                                · rw [if_pos c31] at H
                                  have c31b0 : decide (2147483647 < a0_4) = true := decide_eq_true c31
                                  clear c31
                                  obtain rfl := Option.some.inj H
                                  have hcz32_0 : wc.cell? ⟨gb264, 0, none⟩ = some (.int .i64 a0_0) := (blk_cell BK264.out 0).trans rfl
                                  have hcz32_1 : wc.cell? ⟨gb264, 1, none⟩ = some (.int .i64 a0_1) := (blk_cell BK264.out 1).trans rfl
                                  have hcz32_2 : wc.cell? ⟨gb264, 2, none⟩ = some (.int .i64 a0_2) := (blk_cell BK264.out 2).trans rfl
                                  have hcz32_3 : wc.cell? ⟨gb264, 3, none⟩ = some (.int .i64 a0_3) := (blk_cell BK264.out 3).trans rfl
                                  have hcz32_4 : wc.cell? ⟨gb264, 4, none⟩ = some (.int .i64 a0_4) := (blk_cell BK264.out 4).trans rfl
                                  have hcz32_5 : wc.cell? ⟨gb264, 5, none⟩ = some (.bool false) := (blk_cell BK264.out 5).trans rfl
                                  have hfz32_0 := blk_frozen BK264.out 0
                                  have hfz32_1 := blk_frozen BK264.out 1
                                  have hfz32_2 := blk_frozen BK264.out 2
                                  have hfz32_3 := blk_frozen BK264.out 3
                                  have hfz32_4 := blk_frozen BK264.out 4
                                  have hfz32_5 := blk_frozen BK264.out 5
                                  go_wp2
                                  go_ret
                                  exact ⟨by first | rfl | (simp [errW_none, errW_some] <;> rfl) | (simp [*, errW_none, errW_some] <;> rfl), by repeat (first | (with_reducible first | exact HB.out | apply below_alloc | apply pw_below_drewN | apply below_drew1 | refine below_set ?_ GE264.out) | exact HB.out)⟩
                                · rw [if_neg c31] at H
                                  have c31b0 : decide (2147483647 < a0_4) = false := decide_eq_false c31
                                  clear c31
                                  obtain rfl := Option.some.inj H
                                  have hcz33_0 : wc.cell? ⟨gb264, 0, none⟩ = some (.int .i64 a0_0) := (blk_cell BK264.out 0).trans rfl
                                  have hcz33_1 : wc.cell? ⟨gb264, 1, none⟩ = some (.int .i64 a0_1) := (blk_cell BK264.out 1).trans rfl
                                  have hcz33_2 : wc.cell? ⟨gb264, 2, none⟩ = some (.int .i64 a0_2) := (blk_cell BK264.out 2).trans rfl
                                  have hcz33_3 : wc.cell? ⟨gb264, 3, none⟩ = some (.int .i64 a0_3) := (blk_cell BK264.out 3).trans rfl
                                  have hcz33_4 : wc.cell? ⟨gb264, 4, none⟩ = some (.int .i64 a0_4) := (blk_cell BK264.out 4).trans rfl
                                  have hcz33_5 : wc.cell? ⟨gb264, 5, none⟩ = some (.bool false) := (blk_cell BK264.out 5).trans rfl
                                  have hfz33_0 := blk_frozen BK264.out 0
                                  have hfz33_1 := blk_frozen BK264.out 1
                                  have hfz33_2 := blk_frozen BK264.out 2
                                  have hfz33_3 := blk_frozen BK264.out 3
                                  have hfz33_4 := blk_frozen BK264.out 4
                                  have hfz33_5 := blk_frozen BK264.out 5
                                  go_wp2
                                  go_ret
                                  exact ⟨by first | rfl | (simp [errW_none, errW_some] <;> rfl) | (simp [*, errW_none, errW_some] <;> rfl), by repeat (first | (with_reducible first | exact HB.out | apply below_alloc | apply pw_below_drewN | apply below_drew1 | refine below_set ?_ GE264.out) | exact HB.out)⟩

end Go.Proofs.Ytdacblackoaphaa.PBoundFrames
