-- written by this session's program wip/reprint.sh (a turned copy of the kit's print): the session's own text
import Derived.Test.YtdacblackoaphaaPBoundFramesx0
namespace Go.Proofs.Ytdacblackoaphaa.PBoundFrames
open Go.RowKit Go.Proofs.YtdacblackoaphaaW.PrintWords Go.Proofs.YtdacblackoaphaaW.PrintLast Go.Proofs.YtdacblackoaphaaW.PrintMore Go.Proofs.Ytdacblackoaphaa.H
attribute [local go_sem] max2_int min2_int max_two min_two max_three min_three max_four min_four   -- for this text's walks alone
set_option linter.unusedVariables false
set_option linter.unusedSimpArgs false

/-! ### serinetteref23_Few: function 10 -/
mutual
def serinetteref23_Few.j0 : Nat → Bool → Int → Int → List (List Int) → Int → Bool → Int → Int → List Int → List Int → Int → Bool → ByteArray → List ByteArray → Int → Int → Option (Bool)
  | 0, _, _, _, _, _, _, _, _, _, _, _, _, _, _, _, _ => none
  | k + 1, x24, x149000, x149001, x149002, x150000, x150001, x150002, x150003, x150004, x150005, x150006, x150007, x151000, x151001, x151002, x151003 => if x24 = true then (some false) else (serinetteref23_Few.l0 k 0 x149000 x149001 x149002 x150000 x150001 x150002 x150003 x150004 x150005 x150006 x150007 x151000 x151001 x151002 x151003)
def serinetteref23_Few.l0 : Nat → Int → Int → Int → List (List Int) → Int → Bool → Int → Int → List Int → List Int → Int → Bool → ByteArray → List ByteArray → Int → Int → Option (Bool)
  | 0, _, _, _, _, _, _, _, _, _, _, _, _, _, _, _, _ => none
  | k + 1, x7, x149000, x149001, x149002, x150000, x150001, x150002, x150003, x150004, x150005, x150006, x150007, x151000, x151001, x151002, x151003 => if x7 < (x149002.length : Int) then (if 0 ≤ x7 then (if ((rd_L3 x149002 x7).length : Int) > 24 then (some false) else (serinetteref23_Few.l0 k (wrap64 (x7 + 1)) x149000 x149001 x149002 x150000 x150001 x150002 x150003 x150004 x150005 x150006 x150007 x151000 x151001 x151002 x151003)) else (none)) else (serinetteref23_Few.l1 k 0 x150000 x150001 x150002 x150003 x150004 x150005 x150006 x150007 x151000 x151001 x151002 x151003)
def serinetteref23_Few.l1 : Nat → Int → Int → Bool → Int → Int → List Int → List Int → Int → Bool → ByteArray → List ByteArray → Int → Int → Option (Bool)
  | 0, _, _, _, _, _, _, _, _, _, _, _, _, _ => none
  | k + 1, x8, x150000, x150001, x150002, x150003, x150004, x150005, x150006, x150007, x151000, x151001, x151002, x151003 => if x8 < (x151001.length : Int) then (if 0 ≤ x8 then (if ((rdOf ByteArray.empty x151001 x8).size : Int) > 50 then (some false) else (serinetteref23_Few.l1 k (wrap64 (x8 + 1)) x150000 x150001 x150002 x150003 x150004 x150005 x150006 x150007 x151000 x151001 x151002 x151003)) else (none)) else (if x150003 ≤ 4 then (if (x150005.length : Int) ≤ 5 then (if (x150004.length : Int) ≤ 5 then (if (x151000.size : Int) ≤ 50 then (if (x151001.length : Int) ≤ 10 then (if x151003 ≤ 50 then (some true) else (some (decide (x151003 > 16777215)))) else (some false)) else (some false)) else (some false)) else (some false)) else (some false))
end
def serinetteref23_Few.f (k : Nat) (a0_0 : Int) (a0_1 : Int) (l0_2 : List (List Int)) (a1_0 : Int) (a1_1 : Bool) (a1_2 : Int) (a1_3 : Int) (l1_4 : List Int) (l1_5 : List Int) (a1_6 : Int) (a1_7 : Bool) (a2_0 : ByteArray) (l2_1 : List ByteArray) (a2_2 : Int) (a2_3 : Int) : Option (Bool) := if (l0_2.length : Int) > 10 then (serinetteref23_Few.j0 k true a0_0 a0_1 l0_2 a1_0 a1_1 a1_2 a1_3 l1_4 l1_5 a1_6 a1_7 a2_0 l2_1 a2_2 a2_3) else (if (l0_2.length : Int) > 2 then (serinetteref23_Few.j0 k (decide ((l0_2.length : Int) < 9)) a0_0 a0_1 l0_2 a1_0 a1_1 a1_2 a1_3 l1_4 l1_5 a1_6 a1_7 a2_0 l2_1 a2_2 a2_3) else (serinetteref23_Few.j0 k false a0_0 a0_1 l0_2 a1_0 a1_1 a1_2 a1_3 l1_4 l1_5 a1_6 a1_7 a2_0 l2_1 a2_2 a2_3))
theorem serinetteref23_Few.mono_l : ∀ k, (∀ y0 y1 y2 y3 y4 y5 y6 y7 y8 y9 y10 y11 y12 y13 y14 y15, LeO (serinetteref23_Few.j0 k y0 y1 y2 y3 y4 y5 y6 y7 y8 y9 y10 y11 y12 y13 y14 y15) (serinetteref23_Few.j0 (k + 1) y0 y1 y2 y3 y4 y5 y6 y7 y8 y9 y10 y11 y12 y13 y14 y15)) ∧ (∀ y0 y1 y2 y3 y4 y5 y6 y7 y8 y9 y10 y11 y12 y13 y14 y15, LeO (serinetteref23_Few.l0 k y0 y1 y2 y3 y4 y5 y6 y7 y8 y9 y10 y11 y12 y13 y14 y15) (serinetteref23_Few.l0 (k + 1) y0 y1 y2 y3 y4 y5 y6 y7 y8 y9 y10 y11 y12 y13 y14 y15)) ∧ (∀ y0 y1 y2 y3 y4 y5 y6 y7 y8 y9 y10 y11 y12, LeO (serinetteref23_Few.l1 k y0 y1 y2 y3 y4 y5 y6 y7 y8 y9 y10 y11 y12) (serinetteref23_Few.l1 (k + 1) y0 y1 y2 y3 y4 y5 y6 y7 y8 y9 y10 y11 y12))
  | 0 => ⟨fun _ _ _ _ _ _ _ _ _ _ _ _ _ _ _ _ r h => by simp [serinetteref23_Few.j0] at h, fun _ _ _ _ _ _ _ _ _ _ _ _ _ _ _ _ r h => by simp [serinetteref23_Few.l0] at h, fun _ _ _ _ _ _ _ _ _ _ _ _ _ r h => by simp [serinetteref23_Few.l1] at h⟩
  | k + 1 => by
    obtain ⟨ih0, ih1, ih2⟩ := serinetteref23_Few.mono_l k
    refine ⟨?_, ?_, ?_⟩
    · intro y0 y1 y2 y3 y4 y5 y6 y7 y8 y9 y10 y11 y12 y13 y14 y15
      unfold serinetteref23_Few.j0
      repeat' first
      | (with_reducible exact ih0 _ _ _ _ _ _ _ _ _ _ _ _ _ _ _ _)
      | (with_reducible exact ih1 _ _ _ _ _ _ _ _ _ _ _ _ _ _ _ _)
      | (with_reducible exact ih2 _ _ _ _ _ _ _ _ _ _ _ _ _)
      | (with_reducible exact LeO.refl _)
      | (with_reducible exact LeO.none _)
      | (with_reducible refine LeO.ite ?_ ?_)
      | (with_reducible refine LeO.bind ?_ (fun _ => ?_))
      | exact ih0 _ _ _ _ _ _ _ _ _ _ _ _ _ _ _ _
      | exact ih1 _ _ _ _ _ _ _ _ _ _ _ _ _ _ _ _
      | exact ih2 _ _ _ _ _ _ _ _ _ _ _ _ _
      | exact LeO.none _
      | refine LeO.ite ?_ ?_
      | refine LeO.bind ?_ (fun _ => ?_)
    · intro y0 y1 y2 y3 y4 y5 y6 y7 y8 y9 y10 y11 y12 y13 y14 y15
      unfold serinetteref23_Few.l0
      repeat' first
      | (with_reducible exact ih0 _ _ _ _ _ _ _ _ _ _ _ _ _ _ _ _)
      | (with_reducible exact ih1 _ _ _ _ _ _ _ _ _ _ _ _ _ _ _ _)
      | (with_reducible exact ih2 _ _ _ _ _ _ _ _ _ _ _ _ _)
      | (with_reducible exact LeO.refl _)
      | (with_reducible exact LeO.none _)
      | (with_reducible refine LeO.ite ?_ ?_)
      | (with_reducible refine LeO.bind ?_ (fun _ => ?_))
      | exact ih0 _ _ _ _ _ _ _ _ _ _ _ _ _ _ _ _
      | exact ih1 _ _ _ _ _ _ _ _ _ _ _ _ _ _ _ _
      | exact ih2 _ _ _ _ _ _ _ _ _ _ _ _ _
      | exact LeO.none _
      | refine LeO.ite ?_ ?_
      | refine LeO.bind ?_ (fun _ => ?_)
    · intro y0 y1 y2 y3 y4 y5 y6 y7 y8 y9 y10 y11 y12
      unfold serinetteref23_Few.l1
      repeat' first
      | (with_reducible exact ih0 _ _ _ _ _ _ _ _ _ _ _ _ _ _ _ _)
      | (with_reducible exact ih1 _ _ _ _ _ _ _ _ _ _ _ _ _ _ _ _)
      | (with_reducible exact ih2 _ _ _ _ _ _ _ _ _ _ _ _ _)
      | (with_reducible exact LeO.refl _)
      | (with_reducible exact LeO.none _)
      | (with_reducible refine LeO.ite ?_ ?_)
      | (with_reducible refine LeO.bind ?_ (fun _ => ?_))
      | exact ih0 _ _ _ _ _ _ _ _ _ _ _ _ _ _ _ _
      | exact ih1 _ _ _ _ _ _ _ _ _ _ _ _ _ _ _ _
      | exact ih2 _ _ _ _ _ _ _ _ _ _ _ _ _
      | exact LeO.none _
      | refine LeO.ite ?_ ?_
      | refine LeO.bind ?_ (fun _ => ?_)
theorem serinetteref23_Few.mono : ∀ a0 a1 a2 a3 a4 a5 a6 a7 a8 a9 a10 a11 a12 a13 a14 k, LeO (serinetteref23_Few.f k a0 a1 a2 a3 a4 a5 a6 a7 a8 a9 a10 a11 a12 a13 a14) (serinetteref23_Few.f (k + 1) a0 a1 a2 a3 a4 a5 a6 a7 a8 a9 a10 a11 a12 a13 a14) := by
  intro a0 a1 a2 a3 a4 a5 a6 a7 a8 a9 a10 a11 a12 a13 a14 k
  obtain ⟨ih0, ih1, ih2⟩ := serinetteref23_Few.mono_l k
  unfold serinetteref23_Few.f
  repeat' first
      | (with_reducible exact ih0 _ _ _ _ _ _ _ _ _ _ _ _ _ _ _ _)
      | (with_reducible exact ih1 _ _ _ _ _ _ _ _ _ _ _ _ _ _ _ _)
      | (with_reducible exact ih2 _ _ _ _ _ _ _ _ _ _ _ _ _)
      | (with_reducible exact LeO.refl _)
      | (with_reducible exact LeO.none _)
      | (with_reducible refine LeO.ite ?_ ?_)
      | (with_reducible refine LeO.bind ?_ (fun _ => ?_))
      | exact ih0 _ _ _ _ _ _ _ _ _ _ _ _ _ _ _ _
      | exact ih1 _ _ _ _ _ _ _ _ _ _ _ _ _ _ _ _
      | exact ih2 _ _ _ _ _ _ _ _ _ _ _ _ _
      | exact LeO.none _
      | refine LeO.ite ?_ ?_
      | refine LeO.bind ?_ (fun _ => ?_)
set_option maxHeartbeats 8000000 in
set_option maxRecDepth 100000 in
theorem serinetteref23_Few.calls (k : Nat) (a0_0 : Int) (a0_1 : Int) (A0_2 : Option Addr) (c0_2 : Nat) (l0_2 : List (List Int)) (a1_0 : Int) (a1_1 : Bool) (a1_2 : Int) (a1_3 : Int) (A1_4 : Option Addr) (c1_4 : Nat) (l1_4 : List Int) (A1_5 : Option Addr) (c1_5 : Nat) (l1_5 : List Int) (a1_6 : Int) (a1_7 : Bool) (a2_0 : ByteArray) (A2_1 : Option Addr) (c2_1 : Nat) (l2_1 : List ByteArray) (a2_2 : Int) (a2_3 : Int) (r : Bool) (w : World) (hr0_2 : Kd.C (Kd.slice 3 (Kd.int .i64)) w A0_2 l0_2.length l0_2) (hc0_2 : l0_2.length ≤ c0_2) (hr1_4 : Kd.C (Kd.int .i64) w A1_4 l1_4.length l1_4) (hc1_4 : l1_4.length ≤ c1_4) (hr1_5 : Kd.C (Kd.int .i64) w A1_5 l1_5.length l1_5) (hc1_5 : l1_5.length ≤ c1_5) (hr2_1 : Kd.C Kd.string w A2_1 l2_1.length l2_1) (hc2_1 : l2_1.length ≤ c2_1) (h : serinetteref23_Few.f k a0_0 a0_1 l0_2 a1_0 a1_1 a1_2 a1_3 l1_4 l1_5 a1_6 a1_7 a2_0 l2_1 a2_2 a2_3 = some r) :
    Calls Try.prog 10 #[.agg #[.int .i64 a0_0, .int .i64 a0_1, .slice A0_2 l0_2.length c0_2], .agg #[.int .i64 a1_0, .bool a1_1, .int .i64 a1_2, .int .i64 a1_3, .slice A1_4 l1_4.length c1_4, .slice A1_5 l1_5.length c1_5, .int .i64 a1_6, .bool a1_7], .agg #[.string a2_0, .slice A2_1 l2_1.length c2_1, .int .i64 a2_2, .int .i64 a2_3]] w fun e w' => e = .returned (.bool r) ∧ Below w.heap.size w w' := by
  have hu41 := Try.underlying41
  have hu44 := Try.underlying44
  have hu36 := Try.underlying36
  have HR0_2 := Aside0.mk hr0_2
  have HC0_2 := Aside0.mk hc0_2
  clear hr0_2 hc0_2
  have HR1_4 := Aside0.mk hr1_4
  have HC1_4 := Aside0.mk hc1_4
  clear hr1_4 hc1_4
  have HR1_5 := Aside0.mk hr1_5
  have HC1_5 := Aside0.mk hc1_5
  clear hr1_5 hc1_5
  have HR2_1 := Aside0.mk hr2_1
  have HC2_1 := Aside0.mk hc2_1
  clear hr2_1 hc2_1
  have HB := Aside0.mk (Below.refl w.heap.size w)
  have H : (if (l0_2.length : Int) > 10 then (serinetteref23_Few.j0 k true a0_0 a0_1 l0_2 a1_0 a1_1 a1_2 a1_3 l1_4 l1_5 a1_6 a1_7 a2_0 l2_1 a2_2 a2_3) else (if (l0_2.length : Int) > 2 then (serinetteref23_Few.j0 k (decide ((l0_2.length : Int) < 9)) a0_0 a0_1 l0_2 a1_0 a1_1 a1_2 a1_3 l1_4 l1_5 a1_6 a1_7 a2_0 l2_1 a2_2 a2_3) else (serinetteref23_Few.j0 k false a0_0 a0_1 l0_2 a1_0 a1_1 a1_2 a1_3 l1_4 l1_5 a1_6 a1_7 a2_0 l2_1 a2_2 a2_3))) = some r := h
  clear h
  have HC4 := Aside0.mk H
  clear H
  go_enter Try.func10, Try.ntmps10
  go_upto_region 1 with (first | ((with_reducible refine gate_dst (N := 3) rfl ?_); (try (refine gate_guard (by rfl) ?_; dsimp only)); refine box_event ?hg (N := 3) ?hd (cs := #[.int .i64 a0_0, .int .i64 a0_1, .slice A0_2 l0_2.length c0_2]) (t := 41) ?hr ?_; (case hd => rfl); (case hg => rfl); (case hr => first | (go_simp; done) | (go_simp; rfl)); intro gb148 hg w5 hbox hb; have n0_ := Aside0.mk (below_step (by repeat (first | (with_reducible first | exact HB.out | apply below_alloc | apply pw_below_drewN | apply below_drew1) | exact HB.out)) hb); have n1_ := Aside0.mk (hbox); have n2_ := Aside0.mk ((by rw [hg]; exact (below_size (by repeat (first | (with_reducible first | exact HB.out | apply below_alloc | apply pw_below_drewN | apply below_drew1) | exact HB.out))) : w.heap.size ≤ gb148)); have n3_ := Aside0.mk ((by rw [hg]; exact (below_size (by repeat (first | (with_reducible first | exact HB.out | apply below_alloc | apply pw_below_drewN | apply below_drew1) | exact HB.out))) : w.heap.size ≤ gb148)); clear HB; have HB := n0_; have BK148 := n1_; have GW148 := n2_; have GE148 := n3_; clear n0_ n1_ n2_ n3_; clear hb hbox hg) | ((with_reducible refine gate_dst (N := 4) rfl ?_); (try (refine gate_guard (by rfl) ?_; dsimp only)); refine box_event ?hg (N := 4) ?hd (cs := #[.int .i64 a1_0, .bool a1_1, .int .i64 a1_2, .int .i64 a1_3, .slice A1_4 l1_4.length c1_4, .slice A1_5 l1_5.length c1_5, .int .i64 a1_6, .bool a1_7]) (t := 44) ?hr ?_; (case hd => rfl); (case hg => rfl); (case hr => first | (go_simp; done) | (go_simp; rfl)); intro gb149 hg w6 hbox hb; have n0_ := Aside0.mk (blk_below (g := gb148) (o := .cells #[.int .i64 a0_0, .int .i64 a0_1, .slice A0_2 l0_2.length c0_2] 41 (0, 0)) (by (with_reducible repeat (first | refine blk_drewN ?_ _ | refine blk_drew ?_ | refine blk_alloc ?_ _)); exact BK148.out) hb); have n1_ := Aside0.mk (below_step (by repeat (first | (with_reducible first | exact HB.out | apply below_alloc | apply pw_below_drewN | apply below_drew1 | refine below_set ?_ GE148.out) | exact HB.out)) hb); have n2_ := Aside0.mk (hbox); have n3_ := Aside0.mk ((by rw [hg]; exact (below_size (by repeat (first | (with_reducible first | exact HB.out | apply below_alloc | apply pw_below_drewN | apply below_drew1 | refine below_set ?_ GE148.out) | exact HB.out))) : w.heap.size ≤ gb149)); have n4_ := Aside0.mk ((by rw [hg]; exact (below_size (by repeat (first | (with_reducible first | exact HB.out | apply below_alloc | apply pw_below_drewN | apply below_drew1 | refine below_set ?_ GE148.out) | exact HB.out))) : w.heap.size ≤ gb149)); have n5_ := Aside0.mk ((by rw [hg]; exact Nat.ne_of_lt (blk_lt (g := gb148) (o := .cells #[.int .i64 a0_0, .int .i64 a0_1, .slice A0_2 l0_2.length c0_2] 41 (0, 0)) (by (with_reducible repeat (first | refine blk_drewN ?_ _ | refine blk_drew ?_ | refine blk_alloc ?_ _)); exact BK148.out)) : gb148 ≠ gb149)); have n6_ := Aside0.mk ((by rw [hg]; exact Nat.ne_of_gt (blk_lt (g := gb148) (o := .cells #[.int .i64 a0_0, .int .i64 a0_1, .slice A0_2 l0_2.length c0_2] 41 (0, 0)) (by (with_reducible repeat (first | refine blk_drewN ?_ _ | refine blk_drew ?_ | refine blk_alloc ?_ _)); exact BK148.out)) : gb149 ≠ gb148)); clear BK148; clear HB; have BK148 := n0_; have HB := n1_; have BK149 := n2_; have GW149 := n3_; have GE149 := n4_; have NB148_149 := n5_; have NB149_148 := n6_; clear n0_ n1_ n2_ n3_ n4_ n5_ n6_; clear hb hbox hg) | ((with_reducible refine gate_dst (N := 5) rfl ?_); (try (refine gate_guard (by rfl) ?_; dsimp only)); refine box_event ?hg (N := 5) ?hd (cs := #[.string a2_0, .slice A2_1 l2_1.length c2_1, .int .i64 a2_2, .int .i64 a2_3]) (t := 36) ?hr ?_; (case hd => rfl); (case hg => rfl); (case hr => first | (go_simp; done) | (go_simp; rfl)); intro gb150 hg w7 hbox hb; have n0_ := Aside0.mk (blk_below (g := gb148) (o := .cells #[.int .i64 a0_0, .int .i64 a0_1, .slice A0_2 l0_2.length c0_2] 41 (0, 0)) (by (with_reducible repeat (first | refine blk_drewN ?_ _ | refine blk_drew ?_ | refine blk_alloc ?_ _)); exact BK148.out) hb); have n1_ := Aside0.mk (blk_below (g := gb149) (o := .cells #[.int .i64 a1_0, .bool a1_1, .int .i64 a1_2, .int .i64 a1_3, .slice A1_4 l1_4.length c1_4, .slice A1_5 l1_5.length c1_5, .int .i64 a1_6, .bool a1_7] 44 (0, 0)) (by (with_reducible repeat (first | refine blk_drewN ?_ _ | refine blk_drew ?_ | refine blk_alloc ?_ _)); exact BK149.out) hb); have n2_ := Aside0.mk (below_step (by repeat (first | (with_reducible first | exact HB.out | apply below_alloc | apply pw_below_drewN | apply below_drew1 | refine below_set ?_ GE148.out | refine below_set ?_ GE149.out) | exact HB.out)) hb); have n3_ := Aside0.mk (hbox); have n4_ := Aside0.mk ((by rw [hg]; exact (below_size (by repeat (first | (with_reducible first | exact HB.out | apply below_alloc | apply pw_below_drewN | apply below_drew1 | refine below_set ?_ GE148.out | refine below_set ?_ GE149.out) | exact HB.out))) : w.heap.size ≤ gb150)); have n5_ := Aside0.mk ((by rw [hg]; exact (below_size (by repeat (first | (with_reducible first | exact HB.out | apply below_alloc | apply pw_below_drewN | apply below_drew1 | refine below_set ?_ GE148.out | refine below_set ?_ GE149.out) | exact HB.out))) : w.heap.size ≤ gb150)); have n6_ := Aside0.mk ((by rw [hg]; exact Nat.ne_of_lt (blk_lt (g := gb148) (o := .cells #[.int .i64 a0_0, .int .i64 a0_1, .slice A0_2 l0_2.length c0_2] 41 (0, 0)) (by (with_reducible repeat (first | refine blk_drewN ?_ _ | refine blk_drew ?_ | refine blk_alloc ?_ _)); exact BK148.out)) : gb148 ≠ gb150)); have n7_ := Aside0.mk ((by rw [hg]; exact Nat.ne_of_gt (blk_lt (g := gb148) (o := .cells #[.int .i64 a0_0, .int .i64 a0_1, .slice A0_2 l0_2.length c0_2] 41 (0, 0)) (by (with_reducible repeat (first | refine blk_drewN ?_ _ | refine blk_drew ?_ | refine blk_alloc ?_ _)); exact BK148.out)) : gb150 ≠ gb148)); have n8_ := Aside0.mk ((by rw [hg]; exact Nat.ne_of_lt (blk_lt (g := gb149) (o := .cells #[.int .i64 a1_0, .bool a1_1, .int .i64 a1_2, .int .i64 a1_3, .slice A1_4 l1_4.length c1_4, .slice A1_5 l1_5.length c1_5, .int .i64 a1_6, .bool a1_7] 44 (0, 0)) (by (with_reducible repeat (first | refine blk_drewN ?_ _ | refine blk_drew ?_ | refine blk_alloc ?_ _)); exact BK149.out)) : gb149 ≠ gb150)); have n9_ := Aside0.mk ((by rw [hg]; exact Nat.ne_of_gt (blk_lt (g := gb149) (o := .cells #[.int .i64 a1_0, .bool a1_1, .int .i64 a1_2, .int .i64 a1_3, .slice A1_4 l1_4.length c1_4, .slice A1_5 l1_5.length c1_5, .int .i64 a1_6, .bool a1_7] 44 (0, 0)) (by (with_reducible repeat (first | refine blk_drewN ?_ _ | refine blk_drew ?_ | refine blk_alloc ?_ _)); exact BK149.out)) : gb150 ≠ gb149)); clear BK148; clear BK149; clear HB; have BK148 := n0_; have BK149 := n1_; have HB := n2_; have BK150 := n3_; have GW150 := n4_; have GE150 := n5_; have NB148_150 := n6_; have NB150_148 := n7_; have NB149_150 := n8_; have NB150_149 := n9_; clear n0_ n1_ n2_ n3_ n4_ n5_ n6_ n7_ n8_ n9_; clear hb hbox hg))
  (try simp only [Act.put, List.setIfInBounds_toArray, List.set_cons_zero, List.set_cons_succ])
  go_cut [24] (fun v24 wc => ∃ (kq : Nat) (x24_3 : Bool), v24 = .bool x24_3 ∧ Aside0 (serinetteref23_Few.j0 kq x24_3 a0_0 a0_1 l0_2 a1_0 a1_1 a1_2 a1_3 l1_4 l1_5 a1_6 a1_7 a2_0 l2_1 a2_2 a2_3 = some r) ∧ Aside0 (kq ≤ k) ∧ Aside0 (wc.heap[gb148]? = some (.cells #[.int .i64 a0_0, .int .i64 a0_1, (.slice A0_2 l0_2.length c0_2)] 41 (0, 0))) ∧ Aside0 (wc.heap[gb149]? = some (.cells #[.int .i64 a1_0, .bool a1_1, .int .i64 a1_2, .int .i64 a1_3, (.slice A1_4 l1_4.length c1_4), (.slice A1_5 l1_5.length c1_5), .int .i64 a1_6, .bool a1_7] 44 (0, 0))) ∧ Aside0 (wc.heap[gb150]? = some (.cells #[.string a2_0, (.slice A2_1 l2_1.length c2_1), .int .i64 a2_2, .int .i64 a2_3] 36 (0, 0))) ∧ Aside0 (Below w.heap.size w wc))
  case first =>
    have H := HC4.out
    clear HC4
    by_cases c8 : (l0_2.length : Int) > 10
    · rw [if_pos c8] at H
      have c8b0 : decide (10 < (l0_2.length : Int)) = true := decide_eq_true c8
      have c8b1 : decide (10 < l0_2.length) = true := decide_eq_true (by omega)
      clear c8
      (first | rw [c8b0] | (simp only [i64_w, i32_w]; rw [c8b0]) | skip)
      have H' := Aside0.mk H
      clear H
      have hnb9 := NB148_149.out
      have hnc9 := NB149_148.out
      have hnb10 := NB148_150.out
      have hnc10 := NB150_148.out
      have hcz11_0 : w7.cell? ⟨gb148, 0, none⟩ = some (.int .i64 a0_0) := (blk_cell BK148.out 0).trans rfl
      have hcz11_1 : w7.cell? ⟨gb148, 1, none⟩ = some (.int .i64 a0_1) := (blk_cell BK148.out 1).trans rfl
      have hcz11_2 : w7.cell? ⟨gb148, 2, none⟩ = some (.slice A0_2 l0_2.length c0_2) := (blk_cell BK148.out 2).trans rfl
      have hfz11_0 := blk_frozen BK148.out 0
      have hfz11_1 := blk_frozen BK148.out 1
      have hfz11_2 := blk_frozen BK148.out 2
      go_wp2
      go_meet
      case rel => exact ⟨_, (true), (by first | rfl | (simp; done) | (simp [*]; done)), H', ⟨by first | omega | exact Nat.le_refl _⟩, ⟨by (with_reducible repeat (first | refine blk_drewN ?_ _ | refine blk_drew ?_ | refine blk_alloc ?_ _)); exact BK148.out⟩, ⟨by (with_reducible repeat (first | refine blk_drewN ?_ _ | refine blk_drew ?_ | refine blk_alloc ?_ _)); exact BK149.out⟩, ⟨by (with_reducible repeat (first | refine blk_drewN ?_ _ | refine blk_drew ?_ | refine blk_alloc ?_ _)); exact BK150.out⟩, ⟨by repeat (first | (with_reducible first | exact HB.out | apply below_alloc | apply pw_below_drewN | apply below_drew1 | refine below_set ?_ GE148.out | refine below_set ?_ GE149.out | refine below_set ?_ GE150.out) | exact HB.out)⟩⟩
    · rw [if_neg c8] at H
      have c8b0 : decide (10 < (l0_2.length : Int)) = false := decide_eq_false c8
      have c8b1 : decide (10 < l0_2.length) = false := decide_eq_false (by omega)
      clear c8
      (first | rw [c8b0] | (simp only [i64_w, i32_w]; rw [c8b0]) | skip)
      by_cases c12 : (l0_2.length : Int) > 2
      · rw [if_pos c12] at H
        have c12b0 : decide (2 < (l0_2.length : Int)) = true := decide_eq_true c12
        have c12b1 : decide (2 < l0_2.length) = true := decide_eq_true (by omega)
        clear c12
        have H' := Aside0.mk H
        clear H
        have hnb13 := NB148_149.out
        have hnc13 := NB149_148.out
        have hnb14 := NB148_150.out
        have hnc14 := NB150_148.out
        have hcz15_0 : w7.cell? ⟨gb148, 0, none⟩ = some (.int .i64 a0_0) := (blk_cell BK148.out 0).trans rfl
        have hcz15_1 : w7.cell? ⟨gb148, 1, none⟩ = some (.int .i64 a0_1) := (blk_cell BK148.out 1).trans rfl
        have hcz15_2 : w7.cell? ⟨gb148, 2, none⟩ = some (.slice A0_2 l0_2.length c0_2) := (blk_cell BK148.out 2).trans rfl
        have hfz15_0 := blk_frozen BK148.out 0
        have hfz15_1 := blk_frozen BK148.out 1
        have hfz15_2 := blk_frozen BK148.out 2
        go_wp2
        go_meet
        case rel => exact ⟨_, (decide ((l0_2.length : Int) < 9)), (by first | rfl | (simp; done) | (simp [*]; done)), H', ⟨by first | omega | exact Nat.le_refl _⟩, ⟨by (with_reducible repeat (first | refine blk_drewN ?_ _ | refine blk_drew ?_ | refine blk_alloc ?_ _)); exact BK148.out⟩, ⟨by (with_reducible repeat (first | refine blk_drewN ?_ _ | refine blk_drew ?_ | refine blk_alloc ?_ _)); exact BK149.out⟩, ⟨by (with_reducible repeat (first | refine blk_drewN ?_ _ | refine blk_drew ?_ | refine blk_alloc ?_ _)); exact BK150.out⟩, ⟨by repeat (first | (with_reducible first | exact HB.out | apply below_alloc | apply pw_below_drewN | apply below_drew1 | refine below_set ?_ GE148.out | refine below_set ?_ GE149.out | refine below_set ?_ GE150.out) | exact HB.out)⟩⟩
      · rw [if_neg c12] at H
        have c12b0 : decide (2 < (l0_2.length : Int)) = false := decide_eq_false c12
        have c12b1 : decide (2 < l0_2.length) = false := decide_eq_false (by omega)
        clear c12
        have H' := Aside0.mk H
        clear H
        have hnb16 := NB148_149.out
        have hnc16 := NB149_148.out
        have hnb17 := NB148_150.out
        have hnc17 := NB150_148.out
        have hcz18_0 : w7.cell? ⟨gb148, 0, none⟩ = some (.int .i64 a0_0) := (blk_cell BK148.out 0).trans rfl
        have hcz18_1 : w7.cell? ⟨gb148, 1, none⟩ = some (.int .i64 a0_1) := (blk_cell BK148.out 1).trans rfl
        have hcz18_2 : w7.cell? ⟨gb148, 2, none⟩ = some (.slice A0_2 l0_2.length c0_2) := (blk_cell BK148.out 2).trans rfl
        have hfz18_0 := blk_frozen BK148.out 0
        have hfz18_1 := blk_frozen BK148.out 1
        have hfz18_2 := blk_frozen BK148.out 2
        go_wp2
        go_meet
        case rel => exact ⟨_, (false), (by first | rfl | (simp; done) | (simp [*]; done)), H', ⟨by first | omega | exact Nat.le_refl _⟩, ⟨by (with_reducible repeat (first | refine blk_drewN ?_ _ | refine blk_drew ?_ | refine blk_alloc ?_ _)); exact BK148.out⟩, ⟨by (with_reducible repeat (first | refine blk_drewN ?_ _ | refine blk_drew ?_ | refine blk_alloc ?_ _)); exact BK149.out⟩, ⟨by (with_reducible repeat (first | refine blk_drewN ?_ _ | refine blk_drew ?_ | refine blk_alloc ?_ _)); exact BK150.out⟩, ⟨by repeat (first | (with_reducible first | exact HB.out | apply below_alloc | apply pw_below_drewN | apply below_drew1 | refine below_set ?_ GE148.out | refine below_set ?_ GE149.out | refine below_set ?_ GE150.out) | exact HB.out)⟩⟩
  case rest =>
    clear HC4
    try clear c1
    try clear c2
    try clear p2
    try clear c8
    try clear c8b0
    try clear c8b1
    try clear c9
    try clear c10
    try clear c12
    try clear c12b0
    try clear c12b1
    try clear c13
    try clear c14
    try clear c16
    try clear c17
    try clear hcz11_0
    try clear hcz11_1
    try clear hcz11_2
    try clear hcz15_0
    try clear hcz15_1
    try clear hcz15_2
    try clear hcz18_0
    try clear hcz18_1
    try clear hcz18_2
    try clear hfz11_0
    try clear hfz11_1
    try clear hfz11_2
    try clear hfz15_0
    try clear hfz15_1
    try clear hfz15_2
    try clear hfz18_0
    try clear hfz18_1
    try clear hfz18_2
    obtain ⟨kq, x24_3, rfl, HA, HJ3, BK148, BK149, BK150, HB⟩ := hcut
    cases kq with
    | zero => exact absurd HA.out (by simp [serinetteref23_Few.j0])
    | succ kj3 =>
      have H := HA.out
      clear HA
      simp only [serinetteref23_Few.j0] at H
      by_cases c19 : x24_3 = true
      · subst c19
        have H1 : (some false) = some r := by rw [if_pos rfl] at H; exact H
        clear H
        have H := H1
        clear H1
        obtain rfl := Option.some.inj H
        go_wp2
        go_ret
        exact ⟨by first | rfl | (simp [errW_none, errW_some] <;> rfl) | (simp [*, errW_none, errW_some] <;> rfl), by repeat (first | (with_reducible first | exact HB.out | apply below_alloc | apply pw_below_drewN | apply below_drew1 | refine below_set ?_ GE148.out | refine below_set ?_ GE149.out | refine below_set ?_ GE150.out) | exact HB.out)⟩
      · replace c19 := Bool.eq_false_iff.mpr c19
        subst c19
        have H1 : (serinetteref23_Few.l0 kj3 0 a0_0 a0_1 l0_2 a1_0 a1_1 a1_2 a1_3 l1_4 l1_5 a1_6 a1_7 a2_0 l2_1 a2_2 a2_3) = some r := by rw [if_neg (show ¬ (false = true) by decide)] at H; exact H
        clear H
        have H := H1
        clear H1
        have H' := Aside0.mk H
        clear H
        go_wp2
        go_loopg [7] kj3 (fun kq v7 w' => ∃ (x7_2 : Int), v7 = .int .i64 x7_2 ∧ Aside0 (serinetteref23_Few.l0 kq x7_2 a0_0 a0_1 l0_2 a1_0 a1_1 a1_2 a1_3 l1_4 l1_5 a1_6 a1_7 a2_0 l2_1 a2_2 a2_3 = some r) ∧ Aside0 (kq ≤ kj3) ∧ Aside0 (w'.heap[gb148]? = some (.cells #[.int .i64 a0_0, .int .i64 a0_1, (.slice A0_2 l0_2.length c0_2)] 41 (0, 0))) ∧ Aside0 (w'.heap[gb149]? = some (.cells #[.int .i64 a1_0, .bool a1_1, .int .i64 a1_2, .int .i64 a1_3, (.slice A1_4 l1_4.length c1_4), (.slice A1_5 l1_5.length c1_5), .int .i64 a1_6, .bool a1_7] 44 (0, 0))) ∧ Aside0 (w'.heap[gb150]? = some (.cells #[.string a2_0, (.slice A2_1 l2_1.length c2_1), .int .i64 a2_2, .int .i64 a2_3] 36 (0, 0))) ∧ Aside0 (Below w.heap.size w w'))
        case atStart => exact ⟨(0), (by first | rfl | (simp; done) | (simp [*]; done)), H', ⟨Nat.le_refl _⟩, ⟨by (with_reducible repeat (first | refine blk_drewN ?_ _ | refine blk_drew ?_ | refine blk_alloc ?_ _)); exact BK148.out⟩, ⟨by (with_reducible repeat (first | refine blk_drewN ?_ _ | refine blk_drew ?_ | refine blk_alloc ?_ _)); exact BK149.out⟩, ⟨by (with_reducible repeat (first | refine blk_drewN ?_ _ | refine blk_drew ?_ | refine blk_alloc ?_ _)); exact BK150.out⟩, ⟨by repeat (first | (with_reducible first | exact HB.out | apply below_alloc | apply pw_below_drewN | apply below_drew1 | refine below_set ?_ GE148.out | refine below_set ?_ GE149.out | refine below_set ?_ GE150.out) | exact HB.out)⟩⟩
        case round =>
          clear H'
          try clear c1
          try clear c2
          try clear p2
          try clear c8
          try clear c8b0
          try clear c8b1
          try clear c9
          try clear c10
          try clear c12
          try clear c12b0
          try clear c12b1
          try clear c13
          try clear c14
          try clear c16
          try clear c17
          try clear c19
          try clear hcz11_0
          try clear hcz11_1
          try clear hcz11_2
          try clear hcz15_0
          try clear hcz15_1
          try clear hcz15_2
          try clear hcz18_0
          try clear hcz18_1
          try clear hcz18_2
          try clear hfz11_0
          try clear hfz11_1
          try clear hfz11_2
          try clear hfz15_0
          try clear hfz15_1
          try clear hfz15_2
          try clear hfz18_0
          try clear hfz18_1
          try clear hfz18_2
          try clear p2
          obtain ⟨x7_2, rfl, HA, HK2, BK148, BK149, BK150, HB⟩ := hrel
          cases gk with
          | zero => exact absurd HA.out (by simp [serinetteref23_Few.l0])
          | succ k2 =>
            have H := HA.out
            clear HA
            simp only [serinetteref23_Few.l0] at H
            by_cases c20 : x7_2 < (l0_2.length : Int)
            · rw [if_pos c20] at H
              have c20b0 : decide (x7_2 < (l0_2.length : Int)) = true := decide_eq_true c20
              clear c20
              by_cases c21 : 0 ≤ x7_2
              · rw [if_pos c21] at H
                have c21b0 : decide (0 ≤ x7_2) = true := decide_eq_true c21
                clear c21
                by_cases c22 : ((rd_L3 l0_2 x7_2).length : Int) > 24
                · rw [if_pos c22] at H
                  have c22b0 : decide (24 < ((rd_L3 l0_2 x7_2).length : Int)) = true := decide_eq_true c22
                  have c22b1 : decide (24 < (rd_L3 l0_2 x7_2).length) = true := decide_eq_true (by omega)
                  clear c22
                  obtain rfl := Option.some.inj H
                  have hnb23 := NB148_149.out
                  have hnc23 := NB149_148.out
                  have hnb24 := NB148_150.out
                  have hnc24 := NB150_148.out
                  have hcz25_0 : wr.cell? ⟨gb148, 0, none⟩ = some (.int .i64 a0_0) := (blk_cell BK148.out 0).trans rfl
                  have hcz25_1 : wr.cell? ⟨gb148, 1, none⟩ = some (.int .i64 a0_1) := (blk_cell BK148.out 1).trans rfl
                  have hcz25_2 : wr.cell? ⟨gb148, 2, none⟩ = some (.slice A0_2 l0_2.length c0_2) := (blk_cell BK148.out 2).trans rfl
                  have hfz25_0 := blk_frozen BK148.out 0
                  have hfz25_1 := blk_frozen BK148.out 1
                  have hfz25_2 := blk_frozen BK148.out 2
                  have p151 : 0 ≤ (x7_2 : Int) := of_decide_eq_true (by first | (with_reducible assumption) | assumption)
                  have q151 : x7_2 < (l0_2.length : Int) := of_decide_eq_true (by first | (with_reducible assumption) | assumption)
                  obtain ⟨ad151, A151_0, c151_0, e151, hx151_0, hl151_0, hi151_0⟩ := at_L3 HR0_2.out x7_2 p151 q151
                  cases e151
                  replace hx151_0 := (HB.out.cell (World.block_lt_of_cell? w _ hx151_0)).trans hx151_0
                  have HR151_0 := Aside0.mk hi151_0
                  have HC151_0 := Aside0.mk hl151_0
                  clear hi151_0 hl151_0
                  replace p151 := eq_true p151
                  replace q151 := eq_true q151
                  go_wp2
                  go_ret
                  exact ⟨by first | rfl | (simp [errW_none, errW_some] <;> rfl) | (simp [*, errW_none, errW_some] <;> rfl), by repeat (first | (with_reducible first | exact HB.out | apply below_alloc | apply pw_below_drewN | apply below_drew1 | refine below_set ?_ GE148.out | refine below_set ?_ GE149.out | refine below_set ?_ GE150.out) | exact HB.out)⟩
                · rw [if_neg c22] at H
                  have c22b0 : decide (24 < ((rd_L3 l0_2 x7_2).length : Int)) = false := decide_eq_false c22
                  have c22b1 : decide (24 < (rd_L3 l0_2 x7_2).length) = false := decide_eq_false (by omega)
                  clear c22
                  have H' := Aside0.mk H
                  clear H
                  have hnb26 := NB148_149.out
                  have hnc26 := NB149_148.out
                  have hnb27 := NB148_150.out
                  have hnc27 := NB150_148.out
                  have hcz28_0 : wr.cell? ⟨gb148, 0, none⟩ = some (.int .i64 a0_0) := (blk_cell BK148.out 0).trans rfl
                  have hcz28_1 : wr.cell? ⟨gb148, 1, none⟩ = some (.int .i64 a0_1) := (blk_cell BK148.out 1).trans rfl
                  have hcz28_2 : wr.cell? ⟨gb148, 2, none⟩ = some (.slice A0_2 l0_2.length c0_2) := (blk_cell BK148.out 2).trans rfl
                  have hfz28_0 := blk_frozen BK148.out 0
                  have hfz28_1 := blk_frozen BK148.out 1
                  have hfz28_2 := blk_frozen BK148.out 2
                  have p151 : 0 ≤ (x7_2 : Int) := of_decide_eq_true (by first | (with_reducible assumption) | assumption)
                  have q151 : x7_2 < (l0_2.length : Int) := of_decide_eq_true (by first | (with_reducible assumption) | assumption)
                  obtain ⟨ad151, A151_0, c151_0, e151, hx151_0, hl151_0, hi151_0⟩ := at_L3 HR0_2.out x7_2 p151 q151
                  cases e151
                  replace hx151_0 := (HB.out.cell (World.block_lt_of_cell? w _ hx151_0)).trans hx151_0
                  have HR151_0 := Aside0.mk hi151_0
                  have HC151_0 := Aside0.mk hl151_0
                  clear hi151_0 hl151_0
                  replace p151 := eq_true p151
                  replace q151 := eq_true q151
                  go_wp2
                  go_roundg k2
                  case measure => have := HJ3.out; have := HK2.out; omega
                  case rel => exact ⟨(wrap64 (x7_2 + 1)), (by first | rfl | (simp; done) | (simp [*]; done)), H', ⟨by have := HJ3.out; have := HK2.out; omega⟩, ⟨by (with_reducible repeat (first | refine blk_drewN ?_ _ | refine blk_drew ?_ | refine blk_alloc ?_ _)); exact BK148.out⟩, ⟨by (with_reducible repeat (first | refine blk_drewN ?_ _ | refine blk_drew ?_ | refine blk_alloc ?_ _)); exact BK149.out⟩, ⟨by (with_reducible repeat (first | refine blk_drewN ?_ _ | refine blk_drew ?_ | refine blk_alloc ?_ _)); exact BK150.out⟩, ⟨by repeat (first | (with_reducible first | exact HB.out | apply below_alloc | apply pw_below_drewN | apply below_drew1 | refine below_set ?_ GE148.out | refine below_set ?_ GE149.out | refine below_set ?_ GE150.out) | exact HB.out)⟩⟩
              · rw [if_neg c21] at H
                exact absurd H (by simp)
            · rw [if_neg c20] at H
              have c20b0 : decide (x7_2 < (l0_2.length : Int)) = false := decide_eq_false c20
              clear c20
              have H' := Aside0.mk H
              clear H
              have hnb29 := NB148_149.out
              have hnc29 := NB149_148.out
              have hnb30 := NB148_150.out
              have hnc30 := NB150_148.out
              have hcz31_0 : wr.cell? ⟨gb148, 0, none⟩ = some (.int .i64 a0_0) := (blk_cell BK148.out 0).trans rfl
              have hcz31_1 : wr.cell? ⟨gb148, 1, none⟩ = some (.int .i64 a0_1) := (blk_cell BK148.out 1).trans rfl
              have hcz31_2 : wr.cell? ⟨gb148, 2, none⟩ = some (.slice A0_2 l0_2.length c0_2) := (blk_cell BK148.out 2).trans rfl
              have hfz31_0 := blk_frozen BK148.out 0
              have hfz31_1 := blk_frozen BK148.out 1
              have hfz31_2 := blk_frozen BK148.out 2
              go_wp2
              go_loopg [8] k2 (fun kq v8 w' => ∃ (x8_3 : Int), v8 = .int .i64 x8_3 ∧ Aside0 (serinetteref23_Few.l1 kq x8_3 a1_0 a1_1 a1_2 a1_3 l1_4 l1_5 a1_6 a1_7 a2_0 l2_1 a2_2 a2_3 = some r) ∧ Aside0 (kq ≤ k2) ∧ Aside0 (w'.heap[gb148]? = some (.cells #[.int .i64 a0_0, .int .i64 a0_1, (.slice A0_2 l0_2.length c0_2)] 41 (0, 0))) ∧ Aside0 (w'.heap[gb149]? = some (.cells #[.int .i64 a1_0, .bool a1_1, .int .i64 a1_2, .int .i64 a1_3, (.slice A1_4 l1_4.length c1_4), (.slice A1_5 l1_5.length c1_5), .int .i64 a1_6, .bool a1_7] 44 (0, 0))) ∧ Aside0 (w'.heap[gb150]? = some (.cells #[.string a2_0, (.slice A2_1 l2_1.length c2_1), .int .i64 a2_2, .int .i64 a2_3] 36 (0, 0))) ∧ Aside0 (Below w.heap.size w w'))
              case atStart => exact ⟨(0), (by first | rfl | (simp; done) | (simp [*]; done)), H', ⟨Nat.le_refl _⟩, ⟨by (with_reducible repeat (first | refine blk_drewN ?_ _ | refine blk_drew ?_ | refine blk_alloc ?_ _)); exact BK148.out⟩, ⟨by (with_reducible repeat (first | refine blk_drewN ?_ _ | refine blk_drew ?_ | refine blk_alloc ?_ _)); exact BK149.out⟩, ⟨by (with_reducible repeat (first | refine blk_drewN ?_ _ | refine blk_drew ?_ | refine blk_alloc ?_ _)); exact BK150.out⟩, ⟨by repeat (first | (with_reducible first | exact HB.out | apply below_alloc | apply pw_below_drewN | apply below_drew1 | refine below_set ?_ GE148.out | refine below_set ?_ GE149.out | refine below_set ?_ GE150.out) | exact HB.out)⟩⟩
              case round =>
                clear H'
                try clear c1
                try clear p1
                try clear q1
                try clear hx1
                try clear c2
                try clear p2
                try clear c3
                try clear p6
                try clear c8
                try clear c8b0
                try clear c8b1
                try clear c9
                try clear c10
                try clear c12
                try clear c12b0
                try clear c12b1
                try clear c13
                try clear c14
                try clear c15
                try clear p15
                try clear q15
                try clear hx15
                try clear c16
                try clear c17
                try clear c19
                try clear c20
                try clear c20b0
                try clear c21
                try clear c21b0
                try clear c22
                try clear c22b0
                try clear c22b1
                try clear c23
                try clear c24
                try clear c26
                try clear c27
                try clear c29
                try clear c30
                try clear hcz11_0
                try clear hcz11_1
                try clear hcz11_2
                try clear hcz15_0
                try clear hcz15_1
                try clear hcz15_2
                try clear hcz18_0
                try clear hcz18_1
                try clear hcz18_2
                try clear hcz25_0
                try clear hcz25_1
                try clear hcz25_2
                try clear hcz28_0
                try clear hcz28_1
                try clear hcz28_2
                try clear hcz31_0
                try clear hcz31_1
                try clear hcz31_2
                try clear hfz11_0
                try clear hfz11_1
                try clear hfz11_2
                try clear hfz15_0
                try clear hfz15_1
                try clear hfz15_2
                try clear hfz18_0
                try clear hfz18_1
                try clear hfz18_2
                try clear hfz25_0
                try clear hfz25_1
                try clear hfz25_2
                try clear hfz28_0
                try clear hfz28_1
                try clear hfz28_2
                try clear hfz31_0
                try clear hfz31_1
                try clear hfz31_2
                try clear hx151_0
                try clear p151
                try clear p2
                try clear q151
                obtain ⟨x8_3, rfl, HA, HK3, BK148, BK149, BK150, HB⟩ := hrel
                cases gk with
                | zero => exact absurd HA.out (by simp [serinetteref23_Few.l1])
                | succ k3 =>
                  have H := HA.out
                  clear HA
                  simp only [serinetteref23_Few.l1] at H
                  by_cases c32 : x8_3 < (l2_1.length : Int)
                  · rw [if_pos c32] at H
                    have c32b0 : decide (x8_3 < (l2_1.length : Int)) = true := decide_eq_true c32
                    clear c32
                    by_cases c33 : 0 ≤ x8_3
                    · rw [if_pos c33] at H
                      have c33b0 : decide (0 ≤ x8_3) = true := decide_eq_true c33
                      clear c33
                      by_cases c34 : ((rdOf ByteArray.empty l2_1 x8_3).size : Int) > 50
                      · rw [if_pos c34] at H
                        have c34b0 : decide (50 < ((rdOf ByteArray.empty l2_1 x8_3).size : Int)) = true := decide_eq_true c34
                        have c34b1 : decide (50 < (rdOf ByteArray.empty l2_1 x8_3).size) = true := decide_eq_true (by omega)
                        clear c34
                        obtain rfl := Option.some.inj H
                        have hnb35 := NB150_148.out
                        have hnc35 := NB148_150.out
                        have hnb36 := NB150_149.out
                        have hnc36 := NB149_150.out
                        have hcz37_0 : wr.cell? ⟨gb150, 0, none⟩ = some (.string a2_0) := (blk_cell BK150.out 0).trans rfl
                        have hcz37_1 : wr.cell? ⟨gb150, 1, none⟩ = some (.slice A2_1 l2_1.length c2_1) := (blk_cell BK150.out 1).trans rfl
                        have hcz37_2 : wr.cell? ⟨gb150, 2, none⟩ = some (.int .i64 a2_2) := (blk_cell BK150.out 2).trans rfl
                        have hcz37_3 : wr.cell? ⟨gb150, 3, none⟩ = some (.int .i64 a2_3) := (blk_cell BK150.out 3).trans rfl
                        have hfz37_0 := blk_frozen BK150.out 0
                        have hfz37_1 := blk_frozen BK150.out 1
                        have hfz37_2 := blk_frozen BK150.out 2
                        have hfz37_3 := blk_frozen BK150.out 3
                        have p152 : 0 ≤ (x8_3 : Int) := of_decide_eq_true (by first | (with_reducible assumption) | assumption)
                        have q152 : x8_3 < (l2_1.length : Int) := of_decide_eq_true (by first | (with_reducible assumption) | assumption)
                        obtain ⟨ad152, e152, hx152_0⟩ := Kd.at_string HR2_1.out x8_3 p152 q152
                        cases e152
                        replace hx152_0 := (HB.out.cell (World.block_lt_of_cell? w _ hx152_0)).trans hx152_0
                        replace p152 := eq_true p152
                        replace q152 := eq_true q152
                        go_wp2
                        go_ret
                        exact ⟨by first | rfl | (simp [errW_none, errW_some] <;> rfl) | (simp [*, errW_none, errW_some] <;> rfl), by repeat (first | (with_reducible first | exact HB.out | apply below_alloc | apply pw_below_drewN | apply below_drew1 | refine below_set ?_ GE148.out | refine below_set ?_ GE149.out | refine below_set ?_ GE150.out) | exact HB.out)⟩
                      · rw [if_neg c34] at H
                        have c34b0 : decide (50 < ((rdOf ByteArray.empty l2_1 x8_3).size : Int)) = false := decide_eq_false c34
                        have c34b1 : decide (50 < (rdOf ByteArray.empty l2_1 x8_3).size) = false := decide_eq_false (by omega)
                        clear c34
                        have H' := Aside0.mk H
                        clear H
                        have hnb38 := NB150_148.out
                        have hnc38 := NB148_150.out
                        have hnb39 := NB150_149.out
                        have hnc39 := NB149_150.out
                        have hcz40_0 : wr.cell? ⟨gb150, 0, none⟩ = some (.string a2_0) := (blk_cell BK150.out 0).trans rfl
                        have hcz40_1 : wr.cell? ⟨gb150, 1, none⟩ = some (.slice A2_1 l2_1.length c2_1) := (blk_cell BK150.out 1).trans rfl
                        have hcz40_2 : wr.cell? ⟨gb150, 2, none⟩ = some (.int .i64 a2_2) := (blk_cell BK150.out 2).trans rfl
                        have hcz40_3 : wr.cell? ⟨gb150, 3, none⟩ = some (.int .i64 a2_3) := (blk_cell BK150.out 3).trans rfl
                        have hfz40_0 := blk_frozen BK150.out 0
                        have hfz40_1 := blk_frozen BK150.out 1
                        have hfz40_2 := blk_frozen BK150.out 2
                        have hfz40_3 := blk_frozen BK150.out 3
                        have p152 : 0 ≤ (x8_3 : Int) := of_decide_eq_true (by first | (with_reducible assumption) | assumption)
                        have q152 : x8_3 < (l2_1.length : Int) := of_decide_eq_true (by first | (with_reducible assumption) | assumption)
                        obtain ⟨ad152, e152, hx152_0⟩ := Kd.at_string HR2_1.out x8_3 p152 q152
                        cases e152
                        replace hx152_0 := (HB.out.cell (World.block_lt_of_cell? w _ hx152_0)).trans hx152_0
                        replace p152 := eq_true p152
                        replace q152 := eq_true q152
                        go_wp2
                        go_roundg k3
                        case measure => have := HJ3.out; have := HK2.out; have := HK3.out; omega
                        case rel => exact ⟨(wrap64 (x8_3 + 1)), (by first | rfl | (simp; done) | (simp [*]; done)), H', ⟨by have := HJ3.out; have := HK2.out; have := HK3.out; omega⟩, ⟨by (with_reducible repeat (first | refine blk_drewN ?_ _ | refine blk_drew ?_ | refine blk_alloc ?_ _)); exact BK148.out⟩, ⟨by (with_reducible repeat (first | refine blk_drewN ?_ _ | refine blk_drew ?_ | refine blk_alloc ?_ _)); exact BK149.out⟩, ⟨by (with_reducible repeat (first | refine blk_drewN ?_ _ | refine blk_drew ?_ | refine blk_alloc ?_ _)); exact BK150.out⟩, ⟨by repeat (first | (with_reducible first | exact HB.out | apply below_alloc | apply pw_below_drewN | apply below_drew1 | refine below_set ?_ GE148.out | refine below_set ?_ GE149.out | refine below_set ?_ GE150.out) | exact HB.out)⟩⟩
                    · rw [if_neg c33] at H
                      exact absurd H (by simp)
                  · rw [if_neg c32] at H
                    have c32b0 : decide (x8_3 < (l2_1.length : Int)) = false := decide_eq_false c32
                    clear c32
                    by_cases c41 : a1_3 ≤ 4
                    · rw [if_pos c41] at H
                      have c41b0 : decide (a1_3 ≤ 4) = true := decide_eq_true c41
                      clear c41
                      by_cases c42 : (l1_5.length : Int) ≤ 5
                      · rw [if_pos c42] at H
                        have c42b0 : decide ((l1_5.length : Int) ≤ 5) = true := decide_eq_true c42
                        have c42b1 : decide (l1_5.length ≤ 5) = true := decide_eq_true (by omega)
                        clear c42
                        by_cases c43 : (l1_4.length : Int) ≤ 5
                        · rw [if_pos c43] at H
                          have c43b0 : decide ((l1_4.length : Int) ≤ 5) = true := decide_eq_true c43
                          have c43b1 : decide (l1_4.length ≤ 5) = true := decide_eq_true (by omega)
                          clear c43
                          by_cases c44 : (a2_0.size : Int) ≤ 50
                          · rw [if_pos c44] at H
                            have c44b0 : decide ((a2_0.size : Int) ≤ 50) = true := decide_eq_true c44
                            have c44b1 : decide (a2_0.size ≤ 50) = true := decide_eq_true (by omega)
                            clear c44
                            by_cases c45 : (l2_1.length : Int) ≤ 10
                            · rw [if_pos c45] at H
                              have c45b0 : decide ((l2_1.length : Int) ≤ 10) = true := decide_eq_true c45
                              have c45b1 : decide (l2_1.length ≤ 10) = true := decide_eq_true (by omega)
                              clear c45
                              by_cases c46 : a2_3 ≤ 50
                              · rw [if_pos c46] at H
                                have c46b0 : decide (a2_3 ≤ 50) = true := decide_eq_true c46
                                clear c46
                                obtain rfl := Option.some.inj H
                                have hnb47 := NB150_148.out
                                have hnc47 := NB148_150.out
                                have hnb48 := NB150_149.out
                                have hnc48 := NB149_150.out
                                have hcz49_0 : wr.cell? ⟨gb150, 0, none⟩ = some (.string a2_0) := (blk_cell BK150.out 0).trans rfl
                                have hcz49_1 : wr.cell? ⟨gb150, 1, none⟩ = some (.slice A2_1 l2_1.length c2_1) := (blk_cell BK150.out 1).trans rfl
                                have hcz49_2 : wr.cell? ⟨gb150, 2, none⟩ = some (.int .i64 a2_2) := (blk_cell BK150.out 2).trans rfl
                                have hcz49_3 : wr.cell? ⟨gb150, 3, none⟩ = some (.int .i64 a2_3) := (blk_cell BK150.out 3).trans rfl
                                have hfz49_0 := blk_frozen BK150.out 0
                                have hfz49_1 := blk_frozen BK150.out 1
                                have hfz49_2 := blk_frozen BK150.out 2
                                have hfz49_3 := blk_frozen BK150.out 3
                                have hnb50 := NB149_148.out
                                have hnc50 := NB148_149.out
                                have hcz51_0 : wr.cell? ⟨gb149, 0, none⟩ = some (.int .i64 a1_0) := (blk_cell BK149.out 0).trans rfl
                                have hcz51_1 : wr.cell? ⟨gb149, 1, none⟩ = some (.bool a1_1) := (blk_cell BK149.out 1).trans rfl
                                have hcz51_2 : wr.cell? ⟨gb149, 2, none⟩ = some (.int .i64 a1_2) := (blk_cell BK149.out 2).trans rfl
                                have hcz51_3 : wr.cell? ⟨gb149, 3, none⟩ = some (.int .i64 a1_3) := (blk_cell BK149.out 3).trans rfl
                                have hcz51_4 : wr.cell? ⟨gb149, 4, none⟩ = some (.slice A1_4 l1_4.length c1_4) := (blk_cell BK149.out 4).trans rfl
                                have hcz51_5 : wr.cell? ⟨gb149, 5, none⟩ = some (.slice A1_5 l1_5.length c1_5) := (blk_cell BK149.out 5).trans rfl
                                have hcz51_6 : wr.cell? ⟨gb149, 6, none⟩ = some (.int .i64 a1_6) := (blk_cell BK149.out 6).trans rfl
                                have hcz51_7 : wr.cell? ⟨gb149, 7, none⟩ = some (.bool a1_7) := (blk_cell BK149.out 7).trans rfl
                                have hfz51_0 := blk_frozen BK149.out 0
                                have hfz51_1 := blk_frozen BK149.out 1
                                have hfz51_2 := blk_frozen BK149.out 2
                                have hfz51_3 := blk_frozen BK149.out 3
                                have hfz51_4 := blk_frozen BK149.out 4
                                have hfz51_5 := blk_frozen BK149.out 5
                                have hfz51_6 := blk_frozen BK149.out 6
                                have hfz51_7 := blk_frozen BK149.out 7
                                go_wp2
                                go_ret
                                exact ⟨by first | rfl | (simp [errW_none, errW_some] <;> rfl) | (simp [*, errW_none, errW_some] <;> rfl), by repeat (first | (with_reducible first | exact HB.out | apply below_alloc | apply pw_below_drewN | apply below_drew1 | refine below_set ?_ GE148.out | refine below_set ?_ GE149.out | refine below_set ?_ GE150.out) | exact HB.out)⟩
                              · rw [if_neg c46] at H
                                have c46b0 : decide (a2_3 ≤ 50) = false := decide_eq_false c46
                                clear c46
                                obtain rfl := Option.some.inj H
                                have hnb52 := NB150_148.out
                                have hnc52 := NB148_150.out
                                have hnb53 := NB150_149.out
                                have hnc53 := NB149_150.out
                                have hcz54_0 : wr.cell? ⟨gb150, 0, none⟩ = some (.string a2_0) := (blk_cell BK150.out 0).trans rfl
                                have hcz54_1 : wr.cell? ⟨gb150, 1, none⟩ = some (.slice A2_1 l2_1.length c2_1) := (blk_cell BK150.out 1).trans rfl
                                have hcz54_2 : wr.cell? ⟨gb150, 2, none⟩ = some (.int .i64 a2_2) := (blk_cell BK150.out 2).trans rfl
                                have hcz54_3 : wr.cell? ⟨gb150, 3, none⟩ = some (.int .i64 a2_3) := (blk_cell BK150.out 3).trans rfl
                                have hfz54_0 := blk_frozen BK150.out 0
                                have hfz54_1 := blk_frozen BK150.out 1
                                have hfz54_2 := blk_frozen BK150.out 2
                                have hfz54_3 := blk_frozen BK150.out 3
                                have hnb55 := NB149_148.out
                                have hnc55 := NB148_149.out
                                have hcz56_0 : wr.cell? ⟨gb149, 0, none⟩ = some (.int .i64 a1_0) := (blk_cell BK149.out 0).trans rfl
                                have hcz56_1 : wr.cell? ⟨gb149, 1, none⟩ = some (.bool a1_1) := (blk_cell BK149.out 1).trans rfl
                                have hcz56_2 : wr.cell? ⟨gb149, 2, none⟩ = some (.int .i64 a1_2) := (blk_cell BK149.out 2).trans rfl
                                have hcz56_3 : wr.cell? ⟨gb149, 3, none⟩ = some (.int .i64 a1_3) := (blk_cell BK149.out 3).trans rfl
                                have hcz56_4 : wr.cell? ⟨gb149, 4, none⟩ = some (.slice A1_4 l1_4.length c1_4) := (blk_cell BK149.out 4).trans rfl
                                have hcz56_5 : wr.cell? ⟨gb149, 5, none⟩ = some (.slice A1_5 l1_5.length c1_5) := (blk_cell BK149.out 5).trans rfl
                                have hcz56_6 : wr.cell? ⟨gb149, 6, none⟩ = some (.int .i64 a1_6) := (blk_cell BK149.out 6).trans rfl
                                have hcz56_7 : wr.cell? ⟨gb149, 7, none⟩ = some (.bool a1_7) := (blk_cell BK149.out 7).trans rfl
                                have hfz56_0 := blk_frozen BK149.out 0
                                have hfz56_1 := blk_frozen BK149.out 1
                                have hfz56_2 := blk_frozen BK149.out 2
                                have hfz56_3 := blk_frozen BK149.out 3
                                have hfz56_4 := blk_frozen BK149.out 4
                                have hfz56_5 := blk_frozen BK149.out 5
                                have hfz56_6 := blk_frozen BK149.out 6
                                have hfz56_7 := blk_frozen BK149.out 7
                                go_wp2
                                go_ret
                                exact ⟨by first | rfl | (simp [errW_none, errW_some] <;> rfl) | (simp [*, errW_none, errW_some] <;> rfl), by repeat (first | (with_reducible first | exact HB.out | apply below_alloc | apply pw_below_drewN | apply below_drew1 | refine below_set ?_ GE148.out | refine below_set ?_ GE149.out | refine below_set ?_ GE150.out) | exact HB.out)⟩
                            · rw [if_neg c45] at H
                              have c45b0 : decide ((l2_1.length : Int) ≤ 10) = false := decide_eq_false c45
                              have c45b1 : decide (l2_1.length ≤ 10) = false := decide_eq_false (by omega)
                              clear c45
                              obtain rfl := Option.some.inj H
                              have hnb57 := NB150_148.out
                              have hnc57 := NB148_150.out
                              have hnb58 := NB150_149.out
                              have hnc58 := NB149_150.out
                              have hcz59_0 : wr.cell? ⟨gb150, 0, none⟩ = some (.string a2_0) := (blk_cell BK150.out 0).trans rfl
                              have hcz59_1 : wr.cell? ⟨gb150, 1, none⟩ = some (.slice A2_1 l2_1.length c2_1) := (blk_cell BK150.out 1).trans rfl
                              have hcz59_2 : wr.cell? ⟨gb150, 2, none⟩ = some (.int .i64 a2_2) := (blk_cell BK150.out 2).trans rfl
                              have hcz59_3 : wr.cell? ⟨gb150, 3, none⟩ = some (.int .i64 a2_3) := (blk_cell BK150.out 3).trans rfl
                              have hfz59_0 := blk_frozen BK150.out 0
                              have hfz59_1 := blk_frozen BK150.out 1
                              have hfz59_2 := blk_frozen BK150.out 2
                              have hfz59_3 := blk_frozen BK150.out 3
                              have hnb60 := NB149_148.out
                              have hnc60 := NB148_149.out
                              have hcz61_0 : wr.cell? ⟨gb149, 0, none⟩ = some (.int .i64 a1_0) := (blk_cell BK149.out 0).trans rfl
                              have hcz61_1 : wr.cell? ⟨gb149, 1, none⟩ = some (.bool a1_1) := (blk_cell BK149.out 1).trans rfl
                              have hcz61_2 : wr.cell? ⟨gb149, 2, none⟩ = some (.int .i64 a1_2) := (blk_cell BK149.out 2).trans rfl
                              have hcz61_3 : wr.cell? ⟨gb149, 3, none⟩ = some (.int .i64 a1_3) := (blk_cell BK149.out 3).trans rfl
                              have hcz61_4 : wr.cell? ⟨gb149, 4, none⟩ = some (.slice A1_4 l1_4.length c1_4) := (blk_cell BK149.out 4).trans rfl
                              have hcz61_5 : wr.cell? ⟨gb149, 5, none⟩ = some (.slice A1_5 l1_5.length c1_5) := (blk_cell BK149.out 5).trans rfl
                              have hcz61_6 : wr.cell? ⟨gb149, 6, none⟩ = some (.int .i64 a1_6) := (blk_cell BK149.out 6).trans rfl
                              have hcz61_7 : wr.cell? ⟨gb149, 7, none⟩ = some (.bool a1_7) := (blk_cell BK149.out 7).trans rfl
                              have hfz61_0 := blk_frozen BK149.out 0
                              have hfz61_1 := blk_frozen BK149.out 1
                              have hfz61_2 := blk_frozen BK149.out 2
                              have hfz61_3 := blk_frozen BK149.out 3
                              have hfz61_4 := blk_frozen BK149.out 4
                              have hfz61_5 := blk_frozen BK149.out 5
                              have hfz61_6 := blk_frozen BK149.out 6
                              have hfz61_7 := blk_frozen BK149.out 7
                              go_wp2
                              go_ret
                              exact ⟨by first | rfl | (simp [errW_none, errW_some] <;> rfl) | (simp [*, errW_none, errW_some] <;> rfl), by repeat (first | (with_reducible first | exact HB.out | apply below_alloc | apply pw_below_drewN | apply below_drew1 | refine below_set ?_ GE148.out | refine below_set ?_ GE149.out | refine below_set ?_ GE150.out) | exact HB.out)⟩
                          · rw [if_neg c44] at H
                            have c44b0 : decide ((a2_0.size : Int) ≤ 50) = false := decide_eq_false c44
                            have c44b1 : decide (a2_0.size ≤ 50) = false := decide_eq_false (by omega)
                            clear c44
                            obtain rfl := Option.some.inj H
                            have hnb62 := NB150_148.out
                            have hnc62 := NB148_150.out
                            have hnb63 := NB150_149.out
                            have hnc63 := NB149_150.out
                            have hcz64_0 : wr.cell? ⟨gb150, 0, none⟩ = some (.string a2_0) := (blk_cell BK150.out 0).trans rfl
                            have hcz64_1 : wr.cell? ⟨gb150, 1, none⟩ = some (.slice A2_1 l2_1.length c2_1) := (blk_cell BK150.out 1).trans rfl
                            have hcz64_2 : wr.cell? ⟨gb150, 2, none⟩ = some (.int .i64 a2_2) := (blk_cell BK150.out 2).trans rfl
                            have hcz64_3 : wr.cell? ⟨gb150, 3, none⟩ = some (.int .i64 a2_3) := (blk_cell BK150.out 3).trans rfl
                            have hfz64_0 := blk_frozen BK150.out 0
                            have hfz64_1 := blk_frozen BK150.out 1
                            have hfz64_2 := blk_frozen BK150.out 2
                            have hfz64_3 := blk_frozen BK150.out 3
                            have hnb65 := NB149_148.out
                            have hnc65 := NB148_149.out
                            have hcz66_0 : wr.cell? ⟨gb149, 0, none⟩ = some (.int .i64 a1_0) := (blk_cell BK149.out 0).trans rfl
                            have hcz66_1 : wr.cell? ⟨gb149, 1, none⟩ = some (.bool a1_1) := (blk_cell BK149.out 1).trans rfl
                            have hcz66_2 : wr.cell? ⟨gb149, 2, none⟩ = some (.int .i64 a1_2) := (blk_cell BK149.out 2).trans rfl
                            have hcz66_3 : wr.cell? ⟨gb149, 3, none⟩ = some (.int .i64 a1_3) := (blk_cell BK149.out 3).trans rfl
                            have hcz66_4 : wr.cell? ⟨gb149, 4, none⟩ = some (.slice A1_4 l1_4.length c1_4) := (blk_cell BK149.out 4).trans rfl
                            have hcz66_5 : wr.cell? ⟨gb149, 5, none⟩ = some (.slice A1_5 l1_5.length c1_5) := (blk_cell BK149.out 5).trans rfl
                            have hcz66_6 : wr.cell? ⟨gb149, 6, none⟩ = some (.int .i64 a1_6) := (blk_cell BK149.out 6).trans rfl
                            have hcz66_7 : wr.cell? ⟨gb149, 7, none⟩ = some (.bool a1_7) := (blk_cell BK149.out 7).trans rfl
                            have hfz66_0 := blk_frozen BK149.out 0
                            have hfz66_1 := blk_frozen BK149.out 1
                            have hfz66_2 := blk_frozen BK149.out 2
                            have hfz66_3 := blk_frozen BK149.out 3
                            have hfz66_4 := blk_frozen BK149.out 4
                            have hfz66_5 := blk_frozen BK149.out 5
                            have hfz66_6 := blk_frozen BK149.out 6
                            have hfz66_7 := blk_frozen BK149.out 7
                            go_wp2
                            go_ret
                            exact ⟨by first | rfl | (simp [errW_none, errW_some] <;> rfl) | (simp [*, errW_none, errW_some] <;> rfl), by repeat (first | (with_reducible first | exact HB.out | apply below_alloc | apply pw_below_drewN | apply below_drew1 | refine below_set ?_ GE148.out | refine below_set ?_ GE149.out | refine below_set ?_ GE150.out) | exact HB.out)⟩
                        · rw [if_neg c43] at H
                          have c43b0 : decide ((l1_4.length : Int) ≤ 5) = false := decide_eq_false c43
                          have c43b1 : decide (l1_4.length ≤ 5) = false := decide_eq_false (by omega)
                          clear c43
                          obtain rfl := Option.some.inj H
                          have hnb67 := NB150_148.out
                          have hnc67 := NB148_150.out
                          have hnb68 := NB150_149.out
                          have hnc68 := NB149_150.out
                          have hcz69_0 : wr.cell? ⟨gb150, 0, none⟩ = some (.string a2_0) := (blk_cell BK150.out 0).trans rfl
                          have hcz69_1 : wr.cell? ⟨gb150, 1, none⟩ = some (.slice A2_1 l2_1.length c2_1) := (blk_cell BK150.out 1).trans rfl
                          have hcz69_2 : wr.cell? ⟨gb150, 2, none⟩ = some (.int .i64 a2_2) := (blk_cell BK150.out 2).trans rfl
                          have hcz69_3 : wr.cell? ⟨gb150, 3, none⟩ = some (.int .i64 a2_3) := (blk_cell BK150.out 3).trans rfl
                          have hfz69_0 := blk_frozen BK150.out 0
                          have hfz69_1 := blk_frozen BK150.out 1
                          have hfz69_2 := blk_frozen BK150.out 2
                          have hfz69_3 := blk_frozen BK150.out 3
                          have hnb70 := NB149_148.out
                          have hnc70 := NB148_149.out
                          have hcz71_0 : wr.cell? ⟨gb149, 0, none⟩ = some (.int .i64 a1_0) := (blk_cell BK149.out 0).trans rfl
                          have hcz71_1 : wr.cell? ⟨gb149, 1, none⟩ = some (.bool a1_1) := (blk_cell BK149.out 1).trans rfl
                          have hcz71_2 : wr.cell? ⟨gb149, 2, none⟩ = some (.int .i64 a1_2) := (blk_cell BK149.out 2).trans rfl
                          have hcz71_3 : wr.cell? ⟨gb149, 3, none⟩ = some (.int .i64 a1_3) := (blk_cell BK149.out 3).trans rfl
                          have hcz71_4 : wr.cell? ⟨gb149, 4, none⟩ = some (.slice A1_4 l1_4.length c1_4) := (blk_cell BK149.out 4).trans rfl
                          have hcz71_5 : wr.cell? ⟨gb149, 5, none⟩ = some (.slice A1_5 l1_5.length c1_5) := (blk_cell BK149.out 5).trans rfl
                          have hcz71_6 : wr.cell? ⟨gb149, 6, none⟩ = some (.int .i64 a1_6) := (blk_cell BK149.out 6).trans rfl
                          have hcz71_7 : wr.cell? ⟨gb149, 7, none⟩ = some (.bool a1_7) := (blk_cell BK149.out 7).trans rfl
                          have hfz71_0 := blk_frozen BK149.out 0
                          have hfz71_1 := blk_frozen BK149.out 1
                          have hfz71_2 := blk_frozen BK149.out 2
                          have hfz71_3 := blk_frozen BK149.out 3
                          have hfz71_4 := blk_frozen BK149.out 4
                          have hfz71_5 := blk_frozen BK149.out 5
                          have hfz71_6 := blk_frozen BK149.out 6
                          have hfz71_7 := blk_frozen BK149.out 7
                          go_wp2
                          go_ret
                          exact ⟨by first | rfl | (simp [errW_none, errW_some] <;> rfl) | (simp [*, errW_none, errW_some] <;> rfl), by repeat (first | (with_reducible first | exact HB.out | apply below_alloc | apply pw_below_drewN | apply below_drew1 | refine below_set ?_ GE148.out | refine below_set ?_ GE149.out | refine below_set ?_ GE150.out) | exact HB.out)⟩
                      · rw [if_neg c42] at H
                        have c42b0 : decide ((l1_5.length : Int) ≤ 5) = false := decide_eq_false c42
                        have c42b1 : decide (l1_5.length ≤ 5) = false := decide_eq_false (by omega)
                        clear c42
                        obtain rfl := Option.some.inj H
                        have hnb72 := NB150_148.out
                        have hnc72 := NB148_150.out
                        have hnb73 := NB150_149.out
                        have hnc73 := NB149_150.out
                        have hcz74_0 : wr.cell? ⟨gb150, 0, none⟩ = some (.string a2_0) := (blk_cell BK150.out 0).trans rfl
                        have hcz74_1 : wr.cell? ⟨gb150, 1, none⟩ = some (.slice A2_1 l2_1.length c2_1) := (blk_cell BK150.out 1).trans rfl
                        have hcz74_2 : wr.cell? ⟨gb150, 2, none⟩ = some (.int .i64 a2_2) := (blk_cell BK150.out 2).trans rfl
                        have hcz74_3 : wr.cell? ⟨gb150, 3, none⟩ = some (.int .i64 a2_3) := (blk_cell BK150.out 3).trans rfl
                        have hfz74_0 := blk_frozen BK150.out 0
                        have hfz74_1 := blk_frozen BK150.out 1
                        have hfz74_2 := blk_frozen BK150.out 2
                        have hfz74_3 := blk_frozen BK150.out 3
                        have hnb75 := NB149_148.out
                        have hnc75 := NB148_149.out
                        have hcz76_0 : wr.cell? ⟨gb149, 0, none⟩ = some (.int .i64 a1_0) := (blk_cell BK149.out 0).trans rfl
                        have hcz76_1 : wr.cell? ⟨gb149, 1, none⟩ = some (.bool a1_1) := (blk_cell BK149.out 1).trans rfl
                        have hcz76_2 : wr.cell? ⟨gb149, 2, none⟩ = some (.int .i64 a1_2) := (blk_cell BK149.out 2).trans rfl
                        have hcz76_3 : wr.cell? ⟨gb149, 3, none⟩ = some (.int .i64 a1_3) := (blk_cell BK149.out 3).trans rfl
                        have hcz76_4 : wr.cell? ⟨gb149, 4, none⟩ = some (.slice A1_4 l1_4.length c1_4) := (blk_cell BK149.out 4).trans rfl
                        have hcz76_5 : wr.cell? ⟨gb149, 5, none⟩ = some (.slice A1_5 l1_5.length c1_5) := (blk_cell BK149.out 5).trans rfl
                        have hcz76_6 : wr.cell? ⟨gb149, 6, none⟩ = some (.int .i64 a1_6) := (blk_cell BK149.out 6).trans rfl
                        have hcz76_7 : wr.cell? ⟨gb149, 7, none⟩ = some (.bool a1_7) := (blk_cell BK149.out 7).trans rfl
                        have hfz76_0 := blk_frozen BK149.out 0
                        have hfz76_1 := blk_frozen BK149.out 1
                        have hfz76_2 := blk_frozen BK149.out 2
                        have hfz76_3 := blk_frozen BK149.out 3
                        have hfz76_4 := blk_frozen BK149.out 4
                        have hfz76_5 := blk_frozen BK149.out 5
                        have hfz76_6 := blk_frozen BK149.out 6
                        have hfz76_7 := blk_frozen BK149.out 7
                        go_wp2
                        go_ret
                        exact ⟨by first | rfl | (simp [errW_none, errW_some] <;> rfl) | (simp [*, errW_none, errW_some] <;> rfl), by repeat (first | (with_reducible first | exact HB.out | apply below_alloc | apply pw_below_drewN | apply below_drew1 | refine below_set ?_ GE148.out | refine below_set ?_ GE149.out | refine below_set ?_ GE150.out) | exact HB.out)⟩
                    · rw [if_neg c41] at H
                      have c41b0 : decide (a1_3 ≤ 4) = false := decide_eq_false c41
                      clear c41
                      obtain rfl := Option.some.inj H
                      have hnb77 := NB150_148.out
                      have hnc77 := NB148_150.out
                      have hnb78 := NB150_149.out
                      have hnc78 := NB149_150.out
                      have hcz79_0 : wr.cell? ⟨gb150, 0, none⟩ = some (.string a2_0) := (blk_cell BK150.out 0).trans rfl
                      have hcz79_1 : wr.cell? ⟨gb150, 1, none⟩ = some (.slice A2_1 l2_1.length c2_1) := (blk_cell BK150.out 1).trans rfl
                      have hcz79_2 : wr.cell? ⟨gb150, 2, none⟩ = some (.int .i64 a2_2) := (blk_cell BK150.out 2).trans rfl
                      have hcz79_3 : wr.cell? ⟨gb150, 3, none⟩ = some (.int .i64 a2_3) := (blk_cell BK150.out 3).trans rfl
                      have hfz79_0 := blk_frozen BK150.out 0
                      have hfz79_1 := blk_frozen BK150.out 1
                      have hfz79_2 := blk_frozen BK150.out 2
                      have hfz79_3 := blk_frozen BK150.out 3
                      have hnb80 := NB149_148.out
                      have hnc80 := NB148_149.out
                      have hcz81_0 : wr.cell? ⟨gb149, 0, none⟩ = some (.int .i64 a1_0) := (blk_cell BK149.out 0).trans rfl
                      have hcz81_1 : wr.cell? ⟨gb149, 1, none⟩ = some (.bool a1_1) := (blk_cell BK149.out 1).trans rfl
                      have hcz81_2 : wr.cell? ⟨gb149, 2, none⟩ = some (.int .i64 a1_2) := (blk_cell BK149.out 2).trans rfl
                      have hcz81_3 : wr.cell? ⟨gb149, 3, none⟩ = some (.int .i64 a1_3) := (blk_cell BK149.out 3).trans rfl
                      have hcz81_4 : wr.cell? ⟨gb149, 4, none⟩ = some (.slice A1_4 l1_4.length c1_4) := (blk_cell BK149.out 4).trans rfl
                      have hcz81_5 : wr.cell? ⟨gb149, 5, none⟩ = some (.slice A1_5 l1_5.length c1_5) := (blk_cell BK149.out 5).trans rfl
                      have hcz81_6 : wr.cell? ⟨gb149, 6, none⟩ = some (.int .i64 a1_6) := (blk_cell BK149.out 6).trans rfl
                      have hcz81_7 : wr.cell? ⟨gb149, 7, none⟩ = some (.bool a1_7) := (blk_cell BK149.out 7).trans rfl
                      have hfz81_0 := blk_frozen BK149.out 0
                      have hfz81_1 := blk_frozen BK149.out 1
                      have hfz81_2 := blk_frozen BK149.out 2
                      have hfz81_3 := blk_frozen BK149.out 3
                      have hfz81_4 := blk_frozen BK149.out 4
                      have hfz81_5 := blk_frozen BK149.out 5
                      have hfz81_6 := blk_frozen BK149.out 6
                      have hfz81_7 := blk_frozen BK149.out 7
                      go_wp2
                      go_ret
                      exact ⟨by first | rfl | (simp [errW_none, errW_some] <;> rfl) | (simp [*, errW_none, errW_some] <;> rfl), by repeat (first | (with_reducible first | exact HB.out | apply below_alloc | apply pw_below_drewN | apply below_drew1 | refine below_set ?_ GE148.out | refine below_set ?_ GE149.out | refine below_set ?_ GE150.out) | exact HB.out)⟩

/-! ### serinetteref18_Little: function 35 -/
def serinetteref18_Little.f (a0 : Int) : Option (List Int) := some (([(Int.tmod a0 256) % 256, (Int.tmod (wrap64 (Int.tdiv a0 256)) 256) % 256, (Int.tmod (wrap64 (Int.tdiv a0 65536)) 256) % 256, (Int.tmod (wrap64 (Int.tdiv a0 16777216)) 256) % 256] : List Int))
set_option maxHeartbeats 8000000 in
set_option maxRecDepth 100000 in
theorem serinetteref18_Little.calls (a0 : Int) (r : List Int) (w : World) (h : serinetteref18_Little.f a0 = some r) :
    Calls Try.prog 35 #[.int .i64 a0] w fun e w' => ∃ v0_ : Value, e = .returned (v0_) ∧ Kd.R (Kd.int .u8) 5 w' w.heap.size (fun _ => True) v0_ r ∧ Below w.heap.size w w' := by
  have HB := Aside0.mk (Below.refl w.heap.size w)
  have H : (some (([(Int.tmod a0 256) % 256, (Int.tmod (wrap64 (Int.tdiv a0 256)) 256) % 256, (Int.tmod (wrap64 (Int.tdiv a0 65536)) 256) % 256, (Int.tmod (wrap64 (Int.tdiv a0 16777216)) 256) % 256] : List Int))) = some r := h
  clear h
  obtain ⟨y153, hy153⟩ : ∃ y_ : List Int, y_ = (([(Int.tmod a0 256) % 256, (Int.tmod (wrap64 (Int.tdiv a0 256)) 256) % 256, (Int.tmod (wrap64 (Int.tdiv a0 65536)) 256) % 256, (Int.tmod (wrap64 (Int.tdiv a0 16777216)) 256) % 256] : List Int)) := ⟨_, rfl⟩
  replace H : (some y153) = some r := by first | (rw [hy153]; with_reducible exact H) | (have H2_ := (Option.bind_some _ _).symm.trans H; rw [hy153]; with_reducible exact H2_) | (have H2_ := (Option.bind_some _ _).symm.trans H; with_reducible exact H2_) | with_reducible exact H | (rw [hy153]; exact H) | exact H
  have Ny153 := Aside0.mk hy153
  clear hy153
  obtain rfl := Option.some.inj H
  go_enter Try.func35, Try.ntmps35
  go_wp2_with (first | ((with_reducible refine gate_dst (N := 18) rfl ?_); refine Kd.R_lit (Kd.int .u8) _ 5 ?hg (N := 18) ?hd (xs := ([(Int.tmod a0 256) % 256, (Int.tmod (wrap64 (Int.tdiv a0 256)) 256) % 256, (Int.tmod (wrap64 (Int.tdiv a0 65536)) 256) % 256, (Int.tmod (wrap64 (Int.tdiv a0 16777216)) 256) % 256] : List Int)) (inner := [.int .u8 ((Int.tmod a0 256) % 256), .int .u8 ((Int.tmod (wrap64 (Int.tdiv a0 256)) 256) % 256), .int .u8 ((Int.tmod (wrap64 (Int.tdiv a0 65536)) 256) % 256), .int .u8 ((Int.tmod (wrap64 (Int.tdiv a0 16777216)) 256) % 256)]) (ok := fun _ => True) (okp := fun _ => True) ?hr ?hp (fun _ hk => hk) trivial (Below.refl _ _) (Nat.le_refl _) (by simp) ?_; (case hd => rfl); (case hg => rfl); (case hr => first | (go_simp; done) | (go_simp; rfl)); (case hp => exact (Reps.one (show Kd.M (Kd.int .u8) _ _ _ ((Int.tmod a0 256) % 256) [.int .u8 ((Int.tmod a0 256) % 256)] from rfl) (Reps.one (show Kd.M (Kd.int .u8) _ _ _ ((Int.tmod (wrap64 (Int.tdiv a0 256)) 256) % 256) [.int .u8 ((Int.tmod (wrap64 (Int.tdiv a0 256)) 256) % 256)] from rfl) (Reps.one (show Kd.M (Kd.int .u8) _ _ _ ((Int.tmod (wrap64 (Int.tdiv a0 65536)) 256) % 256) [.int .u8 ((Int.tmod (wrap64 (Int.tdiv a0 65536)) 256) % 256)] from rfl) (Reps.one (show Kd.M (Kd.int .u8) _ _ _ ((Int.tmod (wrap64 (Int.tdiv a0 16777216)) 256) % 256) [.int .u8 ((Int.tmod (wrap64 (Int.tdiv a0 16777216)) 256) % 256)] from rfl) (Reps.none _ _)))))); intro v154 w2 ho3 hb hg_ hnew_; clear hg_ hnew_; (first | rw [← Ny153.out] at ho3 | (simp only [Int.reduceToNat] at ho3; rw [← Ny153.out] at ho3)); have n0_ := Aside0.mk (Kd.R_lower ho3 (below_size (by repeat (first | (with_reducible first | exact HB.out | apply below_alloc | apply pw_below_drewN | apply below_drew1) | exact HB.out)))); have n1_ := Aside0.mk (below_step (by repeat (first | (with_reducible first | exact HB.out | apply below_alloc | apply pw_below_drewN | apply below_drew1) | exact HB.out)) hb); clear HB; have HO155 := n0_; have HB := n1_; clear n0_ n1_; clear hb ho3))
  go_ret
  exact ⟨_, by first | rfl | (simp [errW_none, errW_some] <;> rfl) | (simp [*, errW_none, errW_some] <;> rfl), by (with_reducible repeat (first | apply Kd.R_alloc | apply Kd.R_drewN | apply Kd.R_drew)); exact HO155.out, by repeat (first | (with_reducible first | exact HB.out | apply below_alloc | apply pw_below_drewN | apply below_drew1) | exact HB.out)⟩

end Go.Proofs.Ytdacblackoaphaa.PBoundFrames
