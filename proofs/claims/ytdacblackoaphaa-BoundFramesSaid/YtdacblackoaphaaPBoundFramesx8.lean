-- written by this session's program wip/reprint.sh (a turned copy of the kit's print): the session's own text
import Derived.Test.YtdacblackoaphaaPBoundFramesx0
import Derived.Test.YtdacblackoaphaaPBoundFramesx6
import Derived.Test.YtdacblackoaphaaPBoundFramesx7
namespace Go.Proofs.Ytdacblackoaphaa.PBoundFrames
open Go.RowKit Go.Proofs.YtdacblackoaphaaW.PrintWords Go.Proofs.YtdacblackoaphaaW.PrintLast Go.Proofs.YtdacblackoaphaaW.PrintMore Go.Proofs.Ytdacblackoaphaa.H
attribute [local go_sem] max2_int min2_int max_two min_two max_three min_three max_four min_four   -- for this text's walks alone
set_option linter.unusedVariables false
set_option linter.unusedSimpArgs false

/-! ### serinetteref24_Ahead: function 11 -/
mutual
def serinetteref24_Ahead.j1 : Nat → List (S57) → ByteArray → List ByteArray → ByteArray → List ByteArray → Int → Int → Option (Int)
  | 0, _, _, _, _, _, _, _ => none
  | k + 1, x7, x231000, x231001, x232000, x232001, x232002, x232003 => (serinetteref18_CommentBody.f k x231000 x231001).bind fun t244 => (if x7.length < 4398046511104 then ((some (x7 ++ [(⟨4, t244⟩ : S57)] : List (S57))).bind fun y247 => (if x232003 > 0 then (if 0 ≤ x232003 then (if (x232003 : Int).toNat ≤ 281474976710656 then (if y247.length < 4398046511104 then ((serinetteref18_Pack.f k (y247 ++ [(⟨1, (List.replicate (x232003 : Int).toNat 0)⟩ : S57)])).bind fun bt256 => (some (bt256.1.length : Int))) else (none)) else (none)) else (none)) else ((serinetteref18_Pack.f k y247).bind fun bt260 => (some (bt260.1.length : Int))))) else (none))
def serinetteref24_Ahead.l0 : Nat → Int → List (S57) → Int → Int → ByteArray → List ByteArray → ByteArray → List ByteArray → Int → Int → Option (Int)
  | 0, _, _, _, _, _, _, _, _, _, _ => none
  | k + 1, x1, x7, x8, x9, x231000, x231001, x232000, x232001, x232002, x232003 => if x9 < x1 then (if x232002 = 0 then (none) else (if (Int.tmod x9 x232002) = 0 then (serinetteref24_Ahead.l0 k x1 x7 (wrap64 (x8 + 1)) (wrap64 (x9 + 1)) x231000 x231001 x232000 x232001 x232002 x232003) else (serinetteref24_Ahead.l0 k x1 x7 x8 (wrap64 (x9 + 1)) x231000 x231001 x232000 x232001 x232002 x232003))) else (if 0 ≤ (wrap64 (18 * x8)) then (if (wrap64 (18 * x8) : Int).toNat ≤ 281474976710656 then (if x7.length < 4398046511104 then (serinetteref24_Ahead.j1 k (x7 ++ [(⟨3, (List.replicate (wrap64 (18 * x8) : Int).toNat 0)⟩ : S57)]) x231000 x231001 x232000 x232001 x232002 x232003) else (none)) else (none)) else (none))
end
def serinetteref24_Ahead.f (k : Nat) (a0_0 : ByteArray) (l0_1 : List ByteArray) (a1 : Int) (a2_0 : ByteArray) (l2_1 : List ByteArray) (a2_2 : Int) (a2_3 : Int) : Option (Int) := if 34 ≤ 281474976710656 then ((some (([(⟨0, (List.replicate 34 0)⟩ : S57)] : List (S57)) : List (S57))).bind fun y235 => (if a2_2 > 0 then (serinetteref24_Ahead.l0 k a1 y235 0 0 a0_0 l0_1 a2_0 l2_1 a2_2 a2_3) else (serinetteref24_Ahead.j1 k y235 a0_0 l0_1 a2_0 l2_1 a2_2 a2_3))) else (none)
theorem serinetteref24_Ahead.mono_l : ∀ k, (∀ y0 y1 y2 y3 y4 y5 y6, LeO (serinetteref24_Ahead.j1 k y0 y1 y2 y3 y4 y5 y6) (serinetteref24_Ahead.j1 (k + 1) y0 y1 y2 y3 y4 y5 y6)) ∧ (∀ y0 y1 y2 y3 y4 y5 y6 y7 y8 y9, LeO (serinetteref24_Ahead.l0 k y0 y1 y2 y3 y4 y5 y6 y7 y8 y9) (serinetteref24_Ahead.l0 (k + 1) y0 y1 y2 y3 y4 y5 y6 y7 y8 y9))
  | 0 => ⟨fun _ _ _ _ _ _ _ r h => by simp [serinetteref24_Ahead.j1] at h, fun _ _ _ _ _ _ _ _ _ _ r h => by simp [serinetteref24_Ahead.l0] at h⟩
  | k + 1 => by
    obtain ⟨ih0, ih1⟩ := serinetteref24_Ahead.mono_l k
    refine ⟨?_, ?_⟩
    · intro y0 y1 y2 y3 y4 y5 y6
      unfold serinetteref24_Ahead.j1
      repeat' first
      | (with_reducible exact ih0 _ _ _ _ _ _ _)
      | (with_reducible exact ih1 _ _ _ _ _ _ _ _ _ _)
      | (with_reducible exact serinetteref18_CommentBody.mono _ _ _)
      | (with_reducible exact serinetteref18_Pack.mono _ _)
      | (with_reducible exact LeO.refl _)
      | (with_reducible exact LeO.none _)
      | (with_reducible refine LeO.ite ?_ ?_)
      | (with_reducible refine LeO.bind ?_ (fun _ => ?_))
      | exact ih0 _ _ _ _ _ _ _
      | exact ih1 _ _ _ _ _ _ _ _ _ _
      | exact serinetteref18_CommentBody.mono _ _ _
      | exact serinetteref18_Pack.mono _ _
      | exact LeO.none _
      | refine LeO.ite ?_ ?_
      | refine LeO.bind ?_ (fun _ => ?_)
    · intro y0 y1 y2 y3 y4 y5 y6 y7 y8 y9
      unfold serinetteref24_Ahead.l0
      repeat' first
      | (with_reducible exact ih0 _ _ _ _ _ _ _)
      | (with_reducible exact ih1 _ _ _ _ _ _ _ _ _ _)
      | (with_reducible exact serinetteref18_CommentBody.mono _ _ _)
      | (with_reducible exact serinetteref18_Pack.mono _ _)
      | (with_reducible exact LeO.refl _)
      | (with_reducible exact LeO.none _)
      | (with_reducible refine LeO.ite ?_ ?_)
      | (with_reducible refine LeO.bind ?_ (fun _ => ?_))
      | exact ih0 _ _ _ _ _ _ _
      | exact ih1 _ _ _ _ _ _ _ _ _ _
      | exact serinetteref18_CommentBody.mono _ _ _
      | exact serinetteref18_Pack.mono _ _
      | exact LeO.none _
      | refine LeO.ite ?_ ?_
      | refine LeO.bind ?_ (fun _ => ?_)
theorem serinetteref24_Ahead.mono : ∀ a0 a1 a2 a3 a4 a5 a6 k, LeO (serinetteref24_Ahead.f k a0 a1 a2 a3 a4 a5 a6) (serinetteref24_Ahead.f (k + 1) a0 a1 a2 a3 a4 a5 a6) := by
  intro a0 a1 a2 a3 a4 a5 a6 k
  obtain ⟨ih0, ih1⟩ := serinetteref24_Ahead.mono_l k
  unfold serinetteref24_Ahead.f
  repeat' first
      | (with_reducible exact ih0 _ _ _ _ _ _ _)
      | (with_reducible exact ih1 _ _ _ _ _ _ _ _ _ _)
      | (with_reducible exact serinetteref18_CommentBody.mono _ _ _)
      | (with_reducible exact serinetteref18_Pack.mono _ _)
      | (with_reducible exact LeO.refl _)
      | (with_reducible exact LeO.none _)
      | (with_reducible refine LeO.ite ?_ ?_)
      | (with_reducible refine LeO.bind ?_ (fun _ => ?_))
      | exact ih0 _ _ _ _ _ _ _
      | exact ih1 _ _ _ _ _ _ _ _ _ _
      | exact serinetteref18_CommentBody.mono _ _ _
      | exact serinetteref18_Pack.mono _ _
      | exact LeO.none _
      | refine LeO.ite ?_ ?_
      | refine LeO.bind ?_ (fun _ => ?_)
set_option maxHeartbeats 8000000 in
set_option maxRecDepth 100000 in
theorem serinetteref24_Ahead.calls (k : Nat) (a0_0 : ByteArray) (A0_1 : Option Addr) (c0_1 : Nat) (l0_1 : List ByteArray) (a1 : Int) (a2_0 : ByteArray) (A2_1 : Option Addr) (c2_1 : Nat) (l2_1 : List ByteArray) (a2_2 : Int) (a2_3 : Int) (r : Int) (w : World) (hr0_1 : Kd.C Kd.string w A0_1 l0_1.length l0_1) (hc0_1 : l0_1.length ≤ c0_1) (hr2_1 : Kd.C Kd.string w A2_1 l2_1.length l2_1) (hc2_1 : l2_1.length ≤ c2_1) (h : serinetteref24_Ahead.f k a0_0 l0_1 a1 a2_0 l2_1 a2_2 a2_3 = some r) :
    Calls Try.prog 11 #[.agg #[.string a0_0, .slice A0_1 l0_1.length c0_1], .int .i64 a1, .agg #[.string a2_0, .slice A2_1 l2_1.length c2_1, .int .i64 a2_2, .int .i64 a2_3]] w fun e w' => e = .returned (.int .i64 r) ∧ Below w.heap.size w w' := by
  have hu34 := Try.underlying34
  have hu36 := Try.underlying36
  have hu57 := Try.underlying57
  have HR0_1 := Aside0.mk hr0_1
  have HC0_1 := Aside0.mk hc0_1
  clear hr0_1 hc0_1
  have HR2_1 := Aside0.mk hr2_1
  have HC2_1 := Aside0.mk hc2_1
  clear hr2_1 hc2_1
  have HB := Aside0.mk (Below.refl w.heap.size w)
  have H : (if 34 ≤ 281474976710656 then ((some (([(⟨0, (List.replicate 34 0)⟩ : S57)] : List (S57)) : List (S57))).bind fun y235 => (if a2_2 > 0 then (serinetteref24_Ahead.l0 k a1 y235 0 0 a0_0 l0_1 a2_0 l2_1 a2_2 a2_3) else (serinetteref24_Ahead.j1 k y235 a0_0 l0_1 a2_0 l2_1 a2_2 a2_3))) else (none)) = some r := h
  clear h
  by_cases c4 : 34 ≤ 281474976710656
  · rw [if_pos c4] at H
    have c4b0 := eq_true c4
    have c4b1 : decide (34 ≤ 281474976710656) = true := decide_eq_true c4
    clear c4
    obtain ⟨y232, hy232⟩ : ∃ y_ : List Int, y_ = (List.replicate 34 0) := ⟨_, rfl⟩
    replace H : ((some (([(⟨0, y232⟩ : S57)] : List (S57)) : List (S57))).bind fun y235 => (if a2_2 > 0 then (serinetteref24_Ahead.l0 k a1 y235 0 0 a0_0 l0_1 a2_0 l2_1 a2_2 a2_3) else (serinetteref24_Ahead.j1 k y235 a0_0 l0_1 a2_0 l2_1 a2_2 a2_3))) = some r := by first | (rw [hy232]; with_reducible exact H) | (have H2_ := (Option.bind_some _ _).symm.trans H; rw [hy232]; with_reducible exact H2_) | (have H2_ := (Option.bind_some _ _).symm.trans H; with_reducible exact H2_) | with_reducible exact H | (rw [hy232]; exact H) | exact H
    have Ny232 := Aside0.mk hy232
    clear hy232
    obtain ⟨y235, hy235⟩ : ∃ y_ : List (S57), y_ = (([(⟨0, y232⟩ : S57)] : List (S57))) := ⟨_, rfl⟩
    replace H : (if a2_2 > 0 then (serinetteref24_Ahead.l0 k a1 y235 0 0 a0_0 l0_1 a2_0 l2_1 a2_2 a2_3) else (serinetteref24_Ahead.j1 k y235 a0_0 l0_1 a2_0 l2_1 a2_2 a2_3)) = some r := by first | (rw [hy235]; with_reducible exact H) | (have H2_ := (Option.bind_some _ _).symm.trans H; rw [hy235]; with_reducible exact H2_) | (have H2_ := (Option.bind_some _ _).symm.trans H; with_reducible exact H2_) | with_reducible exact H | (rw [hy235]; exact H) | exact H
    have Ny235 := Aside0.mk hy235
    clear hy235
    have HC5 := Aside0.mk H
    clear H
    go_enter Try.func11, Try.ntmps11
    go_upto_if 17 with (first | ((with_reducible refine gate_dst (N := 3) rfl ?_); refine box_event ?hg (N := 3) ?hd (cs := #[.string a0_0, .slice A0_1 l0_1.length c0_1]) (t := 34) ?hr ?_; (case hd => rfl); (case hg => rfl); (case hr => first | (go_simp; done) | (go_simp; rfl)); intro gb230 hg w6 hbox hb; have n0_ := Aside0.mk (below_step (by repeat (first | (with_reducible first | exact HB.out | apply below_alloc | apply pw_below_drewN | apply below_drew1) | exact HB.out)) hb); have n1_ := Aside0.mk (hbox); have n2_ := Aside0.mk ((by rw [hg]; exact (below_size (by repeat (first | (with_reducible first | exact HB.out | apply below_alloc | apply pw_below_drewN | apply below_drew1) | exact HB.out))) : w.heap.size ≤ gb230)); have n3_ := Aside0.mk ((by rw [hg]; exact (below_size (by repeat (first | (with_reducible first | exact HB.out | apply below_alloc | apply pw_below_drewN | apply below_drew1) | exact HB.out))) : w.heap.size ≤ gb230)); clear HB; have HB := n0_; have BK230 := n1_; have GW230 := n2_; have GE230 := n3_; clear n0_ n1_ n2_ n3_; clear hb hbox hg) | ((with_reducible refine gate_dst (N := 5) rfl ?_); refine box_event ?hg (N := 5) ?hd (cs := #[.string a2_0, .slice A2_1 l2_1.length c2_1, .int .i64 a2_2, .int .i64 a2_3]) (t := 36) ?hr ?_; (case hd => rfl); (case hg => rfl); (case hr => first | (go_simp; done) | (go_simp; rfl)); intro gb231 hg w7 hbox hb; have n0_ := Aside0.mk (blk_below (g := gb230) (o := .cells #[.string a0_0, .slice A0_1 l0_1.length c0_1] 34 (0, 0)) (by (with_reducible repeat (first | refine blk_drewN ?_ _ | refine blk_drew ?_ | refine blk_alloc ?_ _)); exact BK230.out) hb); have n1_ := Aside0.mk (below_step (by repeat (first | (with_reducible first | exact HB.out | apply below_alloc | apply pw_below_drewN | apply below_drew1 | refine below_set ?_ GE230.out) | exact HB.out)) hb); have n2_ := Aside0.mk (hbox); have n3_ := Aside0.mk ((by rw [hg]; exact (below_size (by repeat (first | (with_reducible first | exact HB.out | apply below_alloc | apply pw_below_drewN | apply below_drew1 | refine below_set ?_ GE230.out) | exact HB.out))) : w.heap.size ≤ gb231)); have n4_ := Aside0.mk ((by rw [hg]; exact (below_size (by repeat (first | (with_reducible first | exact HB.out | apply below_alloc | apply pw_below_drewN | apply below_drew1 | refine below_set ?_ GE230.out) | exact HB.out))) : w.heap.size ≤ gb231)); have n5_ := Aside0.mk ((by rw [hg]; exact Nat.ne_of_lt (blk_lt (g := gb230) (o := .cells #[.string a0_0, .slice A0_1 l0_1.length c0_1] 34 (0, 0)) (by (with_reducible repeat (first | refine blk_drewN ?_ _ | refine blk_drew ?_ | refine blk_alloc ?_ _)); exact BK230.out)) : gb230 ≠ gb231)); have n6_ := Aside0.mk ((by rw [hg]; exact Nat.ne_of_gt (blk_lt (g := gb230) (o := .cells #[.string a0_0, .slice A0_1 l0_1.length c0_1] 34 (0, 0)) (by (with_reducible repeat (first | refine blk_drewN ?_ _ | refine blk_drew ?_ | refine blk_alloc ?_ _)); exact BK230.out)) : gb231 ≠ gb230)); clear BK230; clear HB; have BK230 := n0_; have HB := n1_; have BK231 := n2_; have GW231 := n3_; have GE231 := n4_; have NB230_231 := n5_; have NB231_230 := n6_; clear n0_ n1_ n2_ n3_ n4_ n5_ n6_; clear hb hbox hg) | ((with_reducible refine gate_dst (N := 12) rfl ?_); refine Kd.R_make (Kd.int .u8) _ 5 rfl (N := 12) rfl 23 _ _ rfl 34 rfl rfl Try.underlying23 (.int .u8 0) 1 info5 rfl (by decide) (by omega) 0 (ok := fun _ => True) (okp := fun _ => True) rfl (fun _ hk => hk) trivial (by omega) (by omega) (Below.refl _ _) (Nat.le_refl _) ?_; intro v233 w8 ho9 hb hg_ hnew_; clear hg_ hnew_; (first | rw [← Ny232.out] at ho9 | (simp only [Int.reduceToNat] at ho9; rw [← Ny232.out] at ho9)); have n0_ := Aside0.mk (Kd.R_lower ho9 (below_size (by repeat (first | (with_reducible first | exact HB.out | apply below_alloc | apply pw_below_drewN | apply below_drew1 | refine below_set ?_ GE230.out | refine below_set ?_ GE231.out) | exact HB.out)))); have n1_ := Aside0.mk (blk_below (g := gb230) (o := .cells #[.string a0_0, .slice A0_1 l0_1.length c0_1] 34 (0, 0)) (by (with_reducible repeat (first | refine blk_drewN ?_ _ | refine blk_drew ?_ | refine blk_alloc ?_ _)); exact BK230.out) hb); have n2_ := Aside0.mk (blk_below (g := gb231) (o := .cells #[.string a2_0, .slice A2_1 l2_1.length c2_1, .int .i64 a2_2, .int .i64 a2_3] 36 (0, 0)) (by (with_reducible repeat (first | refine blk_drewN ?_ _ | refine blk_drew ?_ | refine blk_alloc ?_ _)); exact BK231.out) hb); have n3_ := Aside0.mk (below_step (by repeat (first | (with_reducible first | exact HB.out | apply below_alloc | apply pw_below_drewN | apply below_drew1 | refine below_set ?_ GE230.out | refine below_set ?_ GE231.out) | exact HB.out)) hb); clear BK230; clear BK231; clear HB; have HO234 := n0_; have BK230 := n1_; have BK231 := n2_; have HB := n3_; clear n0_ n1_ n2_ n3_; clear hb ho9; obtain ⟨Ao10, co10, eo10⟩ := Kd.R_slice HO234.out; subst eo10) | ((with_reducible refine gate_dst (N := 14) rfl ?_); refine Kd.N_lit k57 _ 57 ?hg (N' := 14) ?hd (xs := ([(⟨0, y232⟩ : S57)] : List (S57))) (inner := [.int .i64 0, .slice Ao10 y232.length co10]) (ok := (fun k_ => k_ ≠ gb230 ∧ k_ ≠ gb231)) (okp := (fun k_ => k_ ≠ gb230 ∧ k_ ≠ gb231)) ?hr ?hp (fun _ hk => hk) ((show ∀ k_, w8.heap.size ≤ k_ → (fun k_ => k_ ≠ gb230 ∧ k_ ≠ gb231) k_ from fun k_ hk => ⟨Kd.freshB (g := gb230) (o := .cells #[.string a0_0, .slice A0_1 l0_1.length c0_1] 34 (0, 0)) (by (with_reducible repeat (first | refine blk_drewN ?_ _ | refine blk_drew ?_ | refine blk_alloc ?_ _)); exact BK230.out) k_ hk, Kd.freshB (g := gb231) (o := .cells #[.string a2_0, .slice A2_1 l2_1.length c2_1, .int .i64 a2_2, .int .i64 a2_3] 36 (0, 0)) (by (with_reducible repeat (first | refine blk_drewN ?_ _ | refine blk_drew ?_ | refine blk_alloc ?_ _)); exact BK231.out) k_ hk⟩) _ (Nat.le_refl _)) (Below.refl _ _) (Nat.le_refl _) (by simp) ?_; (case hd => rfl); (case hg => rfl); (case hr => first | (go_simp; done) | (go_simp; rfl)); (case hp => exact (Reps.c2 (show Kd.FK k57 _ _ (⟨0, y232⟩ : S57) [.int .i64 0, .slice Ao10 y232.length co10] from (k57_mkF _ _ (⟨0, y232⟩ : S57) (Kd.R_reads' (Kd.R_mono (ok' := (fun k_ => k_ ≠ gb230 ∧ k_ ≠ gb231)) (Kd.R_types (Kd.R_types (HO234.out) BK230.out (by decide)) BK231.out (by decide)) (fun k_ hk => ⟨hk.1.2, hk.2⟩))).2.1 (Kd.R_F (Kd.R_mono (ok' := (fun k_ => k_ ≠ gb230 ∧ k_ ≠ gb231)) (Kd.R_types (Kd.R_types (HO234.out) BK230.out (by decide)) BK231.out (by decide)) (fun k_ hk => ⟨hk.1.2, hk.2⟩))))) (Reps.none _ _))); intro v236 w11 ho12 hb hg_ hnew_; clear hg_ hnew_; (first | rw [← Ny235.out] at ho12 | (simp only [Int.reduceToNat] at ho12; rw [← Ny235.out] at ho12)); have n0_ := Aside0.mk (Kd.N_lower ho12 (below_size (by repeat (first | (with_reducible first | exact HB.out | apply below_alloc | apply pw_below_drewN | apply below_drew1 | refine below_set ?_ GE230.out | refine below_set ?_ GE231.out) | exact HB.out)))); have n1_ := Aside0.mk (blk_below (g := gb230) (o := .cells #[.string a0_0, .slice A0_1 l0_1.length c0_1] 34 (0, 0)) (by (with_reducible repeat (first | refine blk_drewN ?_ _ | refine blk_drew ?_ | refine blk_alloc ?_ _)); exact BK230.out) hb); have n2_ := Aside0.mk (blk_below (g := gb231) (o := .cells #[.string a2_0, .slice A2_1 l2_1.length c2_1, .int .i64 a2_2, .int .i64 a2_3] 36 (0, 0)) (by (with_reducible repeat (first | refine blk_drewN ?_ _ | refine blk_drew ?_ | refine blk_alloc ?_ _)); exact BK231.out) hb); have n3_ := Aside0.mk (below_step (by repeat (first | (with_reducible first | exact HB.out | apply below_alloc | apply pw_below_drewN | apply below_drew1 | refine below_set ?_ GE230.out | refine below_set ?_ GE231.out) | exact HB.out)) hb); clear BK230; clear BK231; clear HB; clear HO234; have HO237 := n0_; have BK230 := n1_; have BK231 := n2_; have HB := n3_; clear n0_ n1_ n2_ n3_; clear hb ho12; have hnb13 := NB231_230.out; have hnc13 := NB230_231.out; have hcz14_0 : w11.cell? ⟨gb231, 0, none⟩ = some (.string a2_0) := (blk_cell BK231.out 0).trans rfl; have hcz14_1 : w11.cell? ⟨gb231, 1, none⟩ = some (.slice A2_1 l2_1.length c2_1) := (blk_cell BK231.out 1).trans rfl; have hcz14_2 : w11.cell? ⟨gb231, 2, none⟩ = some (.int .i64 a2_2) := (blk_cell BK231.out 2).trans rfl; have hcz14_3 : w11.cell? ⟨gb231, 3, none⟩ = some (.int .i64 a2_3) := (blk_cell BK231.out 3).trans rfl; have hfz14_0 := blk_frozen BK231.out 0; have hfz14_1 := blk_frozen BK231.out 1; have hfz14_2 := blk_frozen BK231.out 2; have hfz14_3 := blk_frozen BK231.out 3))
    (try simp only [Act.put, List.setIfInBounds_toArray, List.set_cons_zero, List.set_cons_succ])
    go_cut [7] (fun v7 wc => ∃ (kq : Nat) (x7_4 : List (S57)), Aside0 (serinetteref24_Ahead.j1 kq x7_4 a0_0 l0_1 a2_0 l2_1 a2_2 a2_3 = some r) ∧ Aside0 (kq ≤ k) ∧ Aside0 (Kd.N k57 57 wc w.heap.size (fun k_ => k_ ≠ gb230 ∧ k_ ≠ gb231) v7 x7_4) ∧ Aside0 (wc.heap[gb230]? = some (.cells #[.string a0_0, (.slice A0_1 l0_1.length c0_1)] 34 (0, 0))) ∧ Aside0 (wc.heap[gb231]? = some (.cells #[.string a2_0, (.slice A2_1 l2_1.length c2_1), .int .i64 a2_2, .int .i64 a2_3] 36 (0, 0))) ∧ Aside0 (Below w.heap.size w wc))
    case first =>
      have H := HC5.out
      clear HC5
      by_cases c15 : a2_2 > 0
      · rw [if_pos c15] at H
        have c15b0 : decide (0 < a2_2) = true := decide_eq_true c15
        clear c15
        (first | rw [c15b0] | (simp only [i64_w, i32_w]; rw [c15b0]) | skip)
        have H' := Aside0.mk H
        clear H
        go_wp2
        go_loopg [8, 9] k (fun kq v8 v9 w' => ∃ (x8_1 : Int) (x9_1 : Int), v8 = .int .i64 x8_1 ∧ v9 = .int .i64 x9_1 ∧ Aside0 (serinetteref24_Ahead.l0 kq a1 y235 x8_1 x9_1 a0_0 l0_1 a2_0 l2_1 a2_2 a2_3 = some r) ∧ Aside0 (kq ≤ k) ∧ Aside0 (Kd.N k57 57 w' w.heap.size (fun k_ => k_ ≠ gb230 ∧ k_ ≠ gb231) v236 y235) ∧ Aside0 (w'.heap[gb230]? = some (.cells #[.string a0_0, (.slice A0_1 l0_1.length c0_1)] 34 (0, 0))) ∧ Aside0 (w'.heap[gb231]? = some (.cells #[.string a2_0, (.slice A2_1 l2_1.length c2_1), .int .i64 a2_2, .int .i64 a2_3] 36 (0, 0))) ∧ Aside0 (Below w.heap.size w w'))
        case atStart => exact ⟨(0), (0), (by first | rfl | (simp; done) | (simp [*]; done)), (by first | rfl | (simp; done) | (simp [*]; done)), H', ⟨Nat.le_refl _⟩, ⟨by (with_reducible repeat (first | apply Kd.N_alloc | apply Kd.N_drewN | apply Kd.N_drew)); exact HO237.out⟩, ⟨by (with_reducible repeat (first | refine blk_drewN ?_ _ | refine blk_drew ?_ | refine blk_alloc ?_ _)); exact BK230.out⟩, ⟨by (with_reducible repeat (first | refine blk_drewN ?_ _ | refine blk_drew ?_ | refine blk_alloc ?_ _)); exact BK231.out⟩, ⟨by repeat (first | (with_reducible first | exact HB.out | apply below_alloc | apply pw_below_drewN | apply below_drew1 | refine below_set ?_ GE230.out | refine below_set ?_ GE231.out) | exact HB.out)⟩⟩
        case round =>
          clear H'
          try clear c1
          try clear c2
          try clear p2
          try clear c4
          try clear c4b0
          try clear c4b1
          try clear c11
          try clear c13
          try clear c15
          try clear c15b0
          try clear hcz14_0
          try clear hcz14_1
          try clear hcz14_2
          try clear hcz14_3
          try clear hfz14_0
          try clear hfz14_1
          try clear hfz14_2
          try clear hfz14_3
          obtain ⟨x8_1, x9_1, rfl, rfl, HA, HK1, HO_7, BK230, BK231, HB⟩ := hrel
          cases gk with
          | zero => exact absurd HA.out (by simp [serinetteref24_Ahead.l0])
          | succ k1 =>
            have H := HA.out
            clear HA
            simp only [serinetteref24_Ahead.l0] at H
            by_cases c16 : x9_1 < a1
            · rw [if_pos c16] at H
              have c16b0 : decide (x9_1 < a1) = true := decide_eq_true c16
              clear c16
              by_cases c17 : a2_2 = 0
              · rw [if_pos c17] at H
                exact absurd H (by simp)
              · rw [if_neg c17] at H
                have c17b0 : (a2_2 == 0) = false := beq_eq_false_iff_ne.mpr c17
                have c17b1 : (a2_2 != 0) = true := bne_iff_ne.mpr c17
                by_cases c18 : (Int.tmod x9_1 a2_2) = 0
                · rw [if_pos c18] at H
                  have c18b0 : ((Int.tmod x9_1 a2_2) == 0) = true := beq_iff_eq.mpr c18
                  have c18b1 : ((Int.tmod x9_1 a2_2) != 0) = false := bne_eq_false_iff_eq.mpr c18
                  clear c18
                  have H' := Aside0.mk H
                  clear H
                  have hnb19 := NB231_230.out
                  have hnc19 := NB230_231.out
                  have hcz20_0 : wr.cell? ⟨gb231, 0, none⟩ = some (.string a2_0) := (blk_cell BK231.out 0).trans rfl
                  have hcz20_1 : wr.cell? ⟨gb231, 1, none⟩ = some (.slice A2_1 l2_1.length c2_1) := (blk_cell BK231.out 1).trans rfl
                  have hcz20_2 : wr.cell? ⟨gb231, 2, none⟩ = some (.int .i64 a2_2) := (blk_cell BK231.out 2).trans rfl
                  have hcz20_3 : wr.cell? ⟨gb231, 3, none⟩ = some (.int .i64 a2_3) := (blk_cell BK231.out 3).trans rfl
                  have hfz20_0 := blk_frozen BK231.out 0
                  have hfz20_1 := blk_frozen BK231.out 1
                  have hfz20_2 := blk_frozen BK231.out 2
                  have hfz20_3 := blk_frozen BK231.out 3
                  go_wp2
                  go_roundg k1
                  case measure => have := HK1.out; omega
                  case rel => exact ⟨(wrap64 (x8_1 + 1)), (wrap64 (x9_1 + 1)), (by first | rfl | (simp; done) | (simp [*]; done)), (by first | rfl | (simp; done) | (simp [*]; done)), H', ⟨by have := HK1.out; omega⟩, ⟨by (with_reducible repeat (first | apply Kd.N_alloc | apply Kd.N_drewN | apply Kd.N_drew)); exact HO_7.out⟩, ⟨by (with_reducible repeat (first | refine blk_drewN ?_ _ | refine blk_drew ?_ | refine blk_alloc ?_ _)); exact BK230.out⟩, ⟨by (with_reducible repeat (first | refine blk_drewN ?_ _ | refine blk_drew ?_ | refine blk_alloc ?_ _)); exact BK231.out⟩, ⟨by repeat (first | (with_reducible first | exact HB.out | apply below_alloc | apply pw_below_drewN | apply below_drew1 | refine below_set ?_ GE230.out | refine below_set ?_ GE231.out) | exact HB.out)⟩⟩
                · rw [if_neg c18] at H
                  have c18b0 : ((Int.tmod x9_1 a2_2) == 0) = false := beq_eq_false_iff_ne.mpr c18
                  have c18b1 : ((Int.tmod x9_1 a2_2) != 0) = true := bne_iff_ne.mpr c18
                  have H' := Aside0.mk H
                  clear H
                  have hnb21 := NB231_230.out
                  have hnc21 := NB230_231.out
                  have hcz22_0 : wr.cell? ⟨gb231, 0, none⟩ = some (.string a2_0) := (blk_cell BK231.out 0).trans rfl
                  have hcz22_1 : wr.cell? ⟨gb231, 1, none⟩ = some (.slice A2_1 l2_1.length c2_1) := (blk_cell BK231.out 1).trans rfl
                  have hcz22_2 : wr.cell? ⟨gb231, 2, none⟩ = some (.int .i64 a2_2) := (blk_cell BK231.out 2).trans rfl
                  have hcz22_3 : wr.cell? ⟨gb231, 3, none⟩ = some (.int .i64 a2_3) := (blk_cell BK231.out 3).trans rfl
                  have hfz22_0 := blk_frozen BK231.out 0
                  have hfz22_1 := blk_frozen BK231.out 1
                  have hfz22_2 := blk_frozen BK231.out 2
                  have hfz22_3 := blk_frozen BK231.out 3
                  go_wp2
                  go_roundg k1
                  case measure => have := HK1.out; omega
                  case rel => exact ⟨(x8_1), (wrap64 (x9_1 + 1)), (by first | rfl | (simp; done) | (simp [*]; done)), (by first | rfl | (simp; done) | (simp [*]; done)), H', ⟨by have := HK1.out; omega⟩, ⟨by (with_reducible repeat (first | apply Kd.N_alloc | apply Kd.N_drewN | apply Kd.N_drew)); exact HO_7.out⟩, ⟨by (with_reducible repeat (first | refine blk_drewN ?_ _ | refine blk_drew ?_ | refine blk_alloc ?_ _)); exact BK230.out⟩, ⟨by (with_reducible repeat (first | refine blk_drewN ?_ _ | refine blk_drew ?_ | refine blk_alloc ?_ _)); exact BK231.out⟩, ⟨by repeat (first | (with_reducible first | exact HB.out | apply below_alloc | apply pw_below_drewN | apply below_drew1 | refine below_set ?_ GE230.out | refine below_set ?_ GE231.out) | exact HB.out)⟩⟩
            · rw [if_neg c16] at H
              have c16b0 : decide (x9_1 < a1) = false := decide_eq_false c16
              clear c16
              obtain ⟨ji23, hji23⟩ : ∃ j_ : Int, (wrap64 (18 * x8_1)) = j_ := ⟨_, rfl⟩
              replace H : (if 0 ≤ (ji23) then (if (ji23 : Int).toNat ≤ 281474976710656 then (if y235.length < 4398046511104 then (serinetteref24_Ahead.j1 k1 (y235 ++ [(⟨3, (List.replicate (ji23 : Int).toNat 0)⟩ : S57)]) a0_0 l0_1 a2_0 l2_1 a2_2 a2_3) else (none)) else (none)) else (none)) = some r := by first | (rw [hji23] at H; exact H) | (simp only [hji23] at H ⊢; exact H)
              have hji23w : (IntKind.i64.wrap (18 * x8_1)) = ji23 := (i64_w _).trans hji23
              by_cases c24 : 0 ≤ (ji23)
              · rw [if_pos c24] at H
                have c24b0 := eq_true c24
                have c24b1 : decide (0 ≤ (ji23)) = true := decide_eq_true c24
                clear c24
                by_cases c25 : (ji23 : Int).toNat ≤ 281474976710656
                · rw [if_pos c25] at H
                  have c25b0 := eq_true c25
                  have c25b1 : decide ((ji23 : Int).toNat ≤ 281474976710656) = true := decide_eq_true c25
                  clear c25
                  obtain ⟨y238, hy238⟩ : ∃ y_ : List Int, y_ = (List.replicate (ji23 : Int).toNat 0) := ⟨_, rfl⟩
                  replace H : (if y235.length < 4398046511104 then (serinetteref24_Ahead.j1 k1 (y235 ++ [(⟨3, y238⟩ : S57)]) a0_0 l0_1 a2_0 l2_1 a2_2 a2_3) else (none)) = some r := by first | (rw [hy238]; with_reducible exact H) | (have H2_ := (Option.bind_some _ _).symm.trans H; rw [hy238]; with_reducible exact H2_) | (have H2_ := (Option.bind_some _ _).symm.trans H; with_reducible exact H2_) | with_reducible exact H | (rw [hy238]; exact H) | exact H
                  have Ny238 := Aside0.mk hy238
                  clear hy238
                  by_cases c26 : y235.length < 4398046511104
                  · rw [if_pos c26] at H
                    have LMc26 := Aside0.mk c26
                    clear c26
                    obtain ⟨y241, hy241⟩ : ∃ y_ : List (S57), y_ = (y235 ++ [(⟨3, y238⟩ : S57)]) := ⟨_, rfl⟩
                    replace H : (serinetteref24_Ahead.j1 k1 y241 a0_0 l0_1 a2_0 l2_1 a2_2 a2_3) = some r := by first | (rw [hy241]; with_reducible exact H) | (have H2_ := (Option.bind_some _ _).symm.trans H; rw [hy241]; with_reducible exact H2_) | (have H2_ := (Option.bind_some _ _).symm.trans H; with_reducible exact H2_) | with_reducible exact H | (rw [hy241]; exact H) | exact H
                    have Ny241 := Aside0.mk hy241
                    clear hy241
                    have H' := Aside0.mk H
                    clear H
                    go_wp2_with (first | ((with_reducible refine gate_dst (N := 33) rfl ?_); refine Kd.R_make (Kd.int .u8) _ 5 rfl (N := 33) rfl 23 _ _ rfl ji23 rfl rfl Try.underlying23 (.int .u8 0) 1 info5 rfl (by decide) (by omega) 0 (ok := fun _ => True) (okp := fun _ => True) rfl (fun _ hk => hk) trivial (of_decide_eq_true (by first | (with_reducible assumption) | assumption)) (Nat.le_trans (Nat.mul_le_mul_right _ (of_decide_eq_true (by first | (with_reducible assumption) | assumption) : ji23.toNat ≤ 281474976710656)) (by omega)) (Below.refl _ _) (Nat.le_refl _) ?_; intro v239 w27 ho28 hb hg_ hnew_; clear hg_ hnew_; (first | rw [← Ny238.out] at ho28 | (simp only [Int.reduceToNat] at ho28; rw [← Ny238.out] at ho28)); have n0_ := Aside0.mk (Kd.N_elder' (by (with_reducible repeat (first | apply Kd.N_alloc | apply Kd.N_drewN | apply Kd.N_drew)); exact HO_7.out) (Kd.R_base ho28) hb); have n1_ := Aside0.mk (Kd.R_lower ho28 (below_size (by repeat (first | (with_reducible first | exact HB.out | apply below_alloc | apply pw_below_drewN | apply below_drew1 | refine below_set ?_ GE230.out | refine below_set ?_ GE231.out) | exact HB.out)))); have n2_ := Aside0.mk (blk_below (g := gb230) (o := .cells #[.string a0_0, .slice A0_1 l0_1.length c0_1] 34 (0, 0)) (by (with_reducible repeat (first | refine blk_drewN ?_ _ | refine blk_drew ?_ | refine blk_alloc ?_ _)); exact BK230.out) hb); have n3_ := Aside0.mk (blk_below (g := gb231) (o := .cells #[.string a2_0, .slice A2_1 l2_1.length c2_1, .int .i64 a2_2, .int .i64 a2_3] 36 (0, 0)) (by (with_reducible repeat (first | refine blk_drewN ?_ _ | refine blk_drew ?_ | refine blk_alloc ?_ _)); exact BK231.out) hb); have n4_ := Aside0.mk (below_step (by repeat (first | (with_reducible first | exact HB.out | apply below_alloc | apply pw_below_drewN | apply below_drew1 | refine below_set ?_ GE230.out | refine below_set ?_ GE231.out) | exact HB.out)) hb); clear HO_7; clear BK230; clear BK231; clear HB; have HO_7 := n0_; have HO240 := n1_; have BK230 := n2_; have BK231 := n3_; have HB := n4_; clear n0_ n1_ n2_ n3_ n4_; clear hb ho28; obtain ⟨Ao29, co29, eo29⟩ := Kd.R_slice HO240.out; subst eo29) | ((with_reducible refine gate_builtin (b := .append) (xs := #[.tmp 30, .tmp 35]) rfl ?_); at_builtin; refine Kd.N_append k57 (w0 := w) w.heap.size rfl (.tmp 30) (.tmp 35) 58 57 (.agg #[(.int .i64 0), (.slice none 0 0)]) 32 rfl Try.underlying58 info57 rfl (by decide) (by omega) v236 y235 (⟨3, y238⟩ : S57) [.int .i64 3, .slice Ao29 y238.length co29] (fun k_ => k_ ≠ gb230 ∧ k_ ≠ gb231) (fun k_ => ((fun k_ => k_ ≠ gb230 ∧ k_ ≠ gb231)) k_ ∧ some k_ ≠ (v236 : Value).ownBlock) rfl rfl ?aP (fun _ hk => hk) ?aF ?aO ?aB ?aS ?aL ?_; (case aP => exact (k57_mkF _ _ (⟨3, y238⟩ : S57) (Kd.R_reads' (Kd.R_mono (ok' := (fun k_ => ((fun k_ => k_ ≠ gb230 ∧ k_ ≠ gb231)) k_ ∧ some k_ ≠ (v236 : Value).ownBlock)) (Kd.R_types (Kd.R_types (Kd.R_apart' (HO240.out) (Kd.N_typed HO_7.out) (by decide)) BK230.out (by decide)) BK231.out (by decide)) (fun k_ hk => ⟨⟨hk.1.2, hk.2⟩, hk.1.1.2⟩))).2.1 (Kd.R_F (Kd.R_mono (ok' := (fun k_ => ((fun k_ => k_ ≠ gb230 ∧ k_ ≠ gb231)) k_ ∧ some k_ ≠ (v236 : Value).ownBlock)) (Kd.R_types (Kd.R_types (Kd.R_apart' (HO240.out) (Kd.N_typed HO_7.out) (by decide)) BK230.out (by decide)) BK231.out (by decide)) (fun k_ hk => ⟨⟨hk.1.2, hk.2⟩, hk.1.1.2⟩))))); (case aB => exact (by repeat (first | (with_reducible first | exact HB.out | apply below_alloc | apply pw_below_drewN | apply below_drew1 | refine below_set ?_ GE230.out | refine below_set ?_ GE231.out) | exact HB.out))); (case aF => exact (fun k_ hk => ⟨Kd.freshB (g := gb230) (o := .cells #[.string a0_0, .slice A0_1 l0_1.length c0_1] 34 (0, 0)) (by (with_reducible repeat (first | refine blk_drewN ?_ _ | refine blk_drew ?_ | refine blk_alloc ?_ _)); exact BK230.out) k_ hk, Kd.freshB (g := gb231) (o := .cells #[.string a2_0, .slice A2_1 l2_1.length c2_1, .int .i64 a2_2, .int .i64 a2_3] 36 (0, 0)) (by (with_reducible repeat (first | refine blk_drewN ?_ _ | refine blk_drew ?_ | refine blk_alloc ?_ _)); exact BK231.out) k_ hk⟩)); (case aO => exact (by (with_reducible repeat (first | apply Kd.N_alloc | apply Kd.N_drewN | apply Kd.N_drew)); exact Kd.N_mono HO_7.out (fun _ hk => ⟨hk.1.1, hk.1.2⟩))); (case aS => exact (below_size (by repeat (first | (with_reducible first | exact HB.out | apply below_alloc | apply pw_below_drewN | apply below_drew1 | refine below_set ?_ GE230.out | refine below_set ?_ GE231.out) | exact HB.out)))); (case aL => have := LMc26.out; omega); intro v242 w30 ho hb hg hat; rw [← Ny241.out] at ho; have n0_ := Aside0.mk (blk_grown (g := gb230) (o := .cells #[.string a0_0, .slice A0_1 l0_1.length c0_1] 34 (0, 0)) (by (with_reducible repeat (first | refine blk_drewN ?_ _ | refine blk_drew ?_ | refine blk_alloc ?_ _)); exact BK230.out) hg (Kd.N_ne HO_7.out BK230.out (by decide))); have n1_ := Aside0.mk (blk_grown (g := gb231) (o := .cells #[.string a2_0, .slice A2_1 l2_1.length c2_1, .int .i64 a2_2, .int .i64 a2_3] 36 (0, 0)) (by (with_reducible repeat (first | refine blk_drewN ?_ _ | refine blk_drew ?_ | refine blk_alloc ?_ _)); exact BK231.out) hg (Kd.N_ne HO_7.out BK231.out (by decide))); have n2_ := Aside0.mk (hb); have n3_ := Aside0.mk (ho); clear BK230; clear BK231; clear HB; clear HO_7; clear HO240; have BK230 := n0_; have BK231 := n1_; have HB := n2_; have HO243 := n3_; clear n0_ n1_ n2_ n3_; clear ho hb hg hat))
                    go_meet
                    case rel => exact ⟨_, (y241), H', ⟨by have := HK1.out; first | omega | exact Nat.le_refl _⟩, ⟨by (with_reducible repeat (first | apply Kd.N_alloc | apply Kd.N_drewN | apply Kd.N_drew)); exact HO243.out⟩, ⟨by (with_reducible repeat (first | refine blk_drewN ?_ _ | refine blk_drew ?_ | refine blk_alloc ?_ _)); exact BK230.out⟩, ⟨by (with_reducible repeat (first | refine blk_drewN ?_ _ | refine blk_drew ?_ | refine blk_alloc ?_ _)); exact BK231.out⟩, ⟨by repeat (first | (with_reducible first | exact HB.out | apply below_alloc | apply pw_below_drewN | apply below_drew1 | refine below_set ?_ GE230.out | refine below_set ?_ GE231.out) | exact HB.out)⟩⟩
                  · rw [if_neg c26] at H
                    exact absurd H (by simp)
                · rw [if_neg c25] at H
                  exact absurd H (by simp)
              · rw [if_neg c24] at H
                exact absurd H (by simp)
      · rw [if_neg c15] at H
        have c15b0 : decide (0 < a2_2) = false := decide_eq_false c15
        clear c15
        (first | rw [c15b0] | (simp only [i64_w, i32_w]; rw [c15b0]) | skip)
        have H' := Aside0.mk H
        clear H
        go_wp2
        go_meet
        case rel => exact ⟨_, (y235), H', ⟨by first | omega | exact Nat.le_refl _⟩, ⟨by (with_reducible repeat (first | apply Kd.N_alloc | apply Kd.N_drewN | apply Kd.N_drew)); exact HO237.out⟩, ⟨by (with_reducible repeat (first | refine blk_drewN ?_ _ | refine blk_drew ?_ | refine blk_alloc ?_ _)); exact BK230.out⟩, ⟨by (with_reducible repeat (first | refine blk_drewN ?_ _ | refine blk_drew ?_ | refine blk_alloc ?_ _)); exact BK231.out⟩, ⟨by repeat (first | (with_reducible first | exact HB.out | apply below_alloc | apply pw_below_drewN | apply below_drew1 | refine below_set ?_ GE230.out | refine below_set ?_ GE231.out) | exact HB.out)⟩⟩
    case rest =>
      clear HC5
      try clear c1
      try clear c2
      try clear p2
      try clear c4
      try clear c4b0
      try clear c4b1
      try clear p6
      try clear c11
      try clear c13
      try clear c15
      try clear c15b0
      try clear c16
      try clear c16b0
      try clear c17
      try clear c17b0
      try clear c17b1
      try clear c18
      try clear c18b0
      try clear c18b1
      try clear c19
      try clear c21
      try clear c24
      try clear c24b0
      try clear c24b1
      try clear c25
      try clear c25b0
      try clear c25b1
      try clear c26
      try clear hcz14_0
      try clear hcz14_1
      try clear hcz14_2
      try clear hcz14_3
      try clear hcz20_0
      try clear hcz20_1
      try clear hcz20_2
      try clear hcz20_3
      try clear hcz22_0
      try clear hcz22_1
      try clear hcz22_2
      try clear hcz22_3
      try clear hfz14_0
      try clear hfz14_1
      try clear hfz14_2
      try clear hfz14_3
      try clear hfz20_0
      try clear hfz20_1
      try clear hfz20_2
      try clear hfz20_3
      try clear hfz22_0
      try clear hfz22_1
      try clear hfz22_2
      try clear hfz22_3
      try clear p2
      obtain ⟨kq, x7_4, HA, HJ4, HO_7, BK230, BK231, HB⟩ := hcut
      cases kq with
      | zero => exact absurd HA.out (by simp [serinetteref24_Ahead.j1])
      | succ kj4 =>
        have H := HA.out
        clear HA
        simp only [serinetteref24_Ahead.j1] at H
        replace H := Option.bind_eq_some_iff.mp H
        obtain ⟨t244, A310, H⟩ := H
        replace H : (if x7_4.length < 4398046511104 then ((some (x7_4 ++ [(⟨4, t244⟩ : S57)] : List (S57))).bind fun y247 => (if a2_3 > 0 then (if 0 ≤ a2_3 then (if (a2_3 : Int).toNat ≤ 281474976710656 then (if y247.length < 4398046511104 then ((serinetteref18_Pack.f kj4 (y247 ++ [(⟨1, (List.replicate (a2_3 : Int).toNat 0)⟩ : S57)])).bind fun bt256 => (some (bt256.1.length : Int))) else (none)) else (none)) else (none)) else ((serinetteref18_Pack.f kj4 y247).bind fun bt260 => (some (bt260.1.length : Int))))) else (none)) = some r := H
        have A31 := Aside0.mk A310
        clear A310
        by_cases c32 : x7_4.length < 4398046511104
        · rw [if_pos c32] at H
          have LMc32 := Aside0.mk c32
          clear c32
          obtain ⟨y247, hy247⟩ : ∃ y_ : List (S57), y_ = (x7_4 ++ [(⟨4, t244⟩ : S57)]) := ⟨_, rfl⟩
          replace H : (if a2_3 > 0 then (if 0 ≤ a2_3 then (if (a2_3 : Int).toNat ≤ 281474976710656 then (if y247.length < 4398046511104 then ((serinetteref18_Pack.f kj4 (y247 ++ [(⟨1, (List.replicate (a2_3 : Int).toNat 0)⟩ : S57)])).bind fun bt256 => (some (bt256.1.length : Int))) else (none)) else (none)) else (none)) else ((serinetteref18_Pack.f kj4 y247).bind fun bt260 => (some (bt260.1.length : Int)))) = some r := by first | (rw [hy247]; with_reducible exact H) | (have H2_ := (Option.bind_some _ _).symm.trans H; rw [hy247]; with_reducible exact H2_) | (have H2_ := (Option.bind_some _ _).symm.trans H; with_reducible exact H2_) | with_reducible exact H | (rw [hy247]; exact H) | exact H
          have Ny247 := Aside0.mk hy247
          clear hy247
          by_cases c33 : a2_3 > 0
          · rw [if_pos c33] at H
            have c33b0 : decide (0 < a2_3) = true := decide_eq_true c33
            clear c33
            by_cases c34 : 0 ≤ a2_3
            · rw [if_pos c34] at H
              have c34b0 := eq_true c34
              have c34b1 : decide (0 ≤ a2_3) = true := decide_eq_true c34
              clear c34
              by_cases c35 : (a2_3 : Int).toNat ≤ 281474976710656
              · rw [if_pos c35] at H
                have c35b0 := eq_true c35
                have c35b1 : decide ((a2_3 : Int).toNat ≤ 281474976710656) = true := decide_eq_true c35
                clear c35
                obtain ⟨y250, hy250⟩ : ∃ y_ : List Int, y_ = (List.replicate (a2_3 : Int).toNat 0) := ⟨_, rfl⟩
                replace H : (if y247.length < 4398046511104 then ((serinetteref18_Pack.f kj4 (y247 ++ [(⟨1, y250⟩ : S57)])).bind fun bt256 => (some (bt256.1.length : Int))) else (none)) = some r := by first | (rw [hy250]; with_reducible exact H) | (have H2_ := (Option.bind_some _ _).symm.trans H; rw [hy250]; with_reducible exact H2_) | (have H2_ := (Option.bind_some _ _).symm.trans H; with_reducible exact H2_) | with_reducible exact H | (rw [hy250]; exact H) | exact H
                have Ny250 := Aside0.mk hy250
                clear hy250
                by_cases c36 : y247.length < 4398046511104
                · rw [if_pos c36] at H
                  have LMc36 := Aside0.mk c36
                  clear c36
                  obtain ⟨y253, hy253⟩ : ∃ y_ : List (S57), y_ = (y247 ++ [(⟨1, y250⟩ : S57)]) := ⟨_, rfl⟩
                  replace H : ((serinetteref18_Pack.f kj4 y253).bind fun bt256 => (some (bt256.1.length : Int))) = some r := by first | (rw [hy253]; with_reducible exact H) | (have H2_ := (Option.bind_some _ _).symm.trans H; rw [hy253]; with_reducible exact H2_) | (have H2_ := (Option.bind_some _ _).symm.trans H; with_reducible exact H2_) | with_reducible exact H | (rw [hy253]; exact H) | exact H
                  have Ny253 := Aside0.mk hy253
                  clear hy253
                  replace H := Option.bind_eq_some_iff.mp H
                  obtain ⟨⟨t256, t257⟩, A370, H⟩ := H
                  replace H : (some (t256.length : Int)) = some r := H
                  have A37 := Aside0.mk A370
                  clear A370
                  obtain rfl := Option.some.inj H
                  have hnb38 := NB230_231.out
                  have hnc38 := NB231_230.out
                  have hcz39_0 : wc.cell? ⟨gb230, 0, none⟩ = some (.string a0_0) := (blk_cell BK230.out 0).trans rfl
                  have hcz39_1 : wc.cell? ⟨gb230, 1, none⟩ = some (.slice A0_1 l0_1.length c0_1) := (blk_cell BK230.out 1).trans rfl
                  have hfz39_0 := blk_frozen BK230.out 0
                  have hfz39_1 := blk_frozen BK230.out 1
                  go_wp2_with (first | ((with_reducible refine gate_callee (f := 26) rfl ?_); refine goesL_ (some 39) rfl rfl Try.func26 (by kernel_rfl) rfl #[.agg #[.string a0_0, .slice A0_1 l0_1.length c0_1]] rfl (by (try simp only [List.map_toArray, List.map_cons, List.map_nil]); first | done | rfl | (simp only [List.length_drop, List.length_take]; rfl)) ?_; (with_reducible refine (serinetteref18_CommentBody.calls kj4 a0_0 _ _ l0_1 t244 _ ?side1 ?side2 A31.out).mono ?_); (case side1 => repeat (first | exact (Kd.C_below HR0_1.out HB.out) | (with_reducible refine Kd.C_alloc ?_ _) | (with_reducible refine Kd.C_drewN ?_ _) | (with_reducible refine Kd.C_drew ?_))); (case side2 => exact HC0_1.out); rintro e w40 ⟨v245, rfl, ho0, hb⟩; refine ⟨_, rfl, ?_⟩; have n0_ := Aside0.mk (Kd.N_elder' (by (with_reducible repeat (first | apply Kd.N_alloc | apply Kd.N_drewN | apply Kd.N_drew)); exact HO_7.out) (Kd.R_base ho0) hb); have n1_ := Aside0.mk (Kd.R_lower ho0 (below_size (by repeat (first | (with_reducible first | exact HB.out | apply below_alloc | apply pw_below_drewN | apply below_drew1 | refine below_set ?_ GE230.out | refine below_set ?_ GE231.out) | exact HB.out)))); have n2_ := Aside0.mk (blk_below (g := gb230) (o := .cells #[.string a0_0, .slice A0_1 l0_1.length c0_1] 34 (0, 0)) (by (with_reducible repeat (first | refine blk_drewN ?_ _ | refine blk_drew ?_ | refine blk_alloc ?_ _)); exact BK230.out) hb); have n3_ := Aside0.mk (blk_below (g := gb231) (o := .cells #[.string a2_0, .slice A2_1 l2_1.length c2_1, .int .i64 a2_2, .int .i64 a2_3] 36 (0, 0)) (by (with_reducible repeat (first | refine blk_drewN ?_ _ | refine blk_drew ?_ | refine blk_alloc ?_ _)); exact BK231.out) hb); have n4_ := Aside0.mk (below_step (by repeat (first | (with_reducible first | exact HB.out | apply below_alloc | apply pw_below_drewN | apply below_drew1 | refine below_set ?_ GE230.out | refine below_set ?_ GE231.out) | exact HB.out)) hb); clear HO_7; clear BK230; clear BK231; clear HB; have HO_7 := n0_; have HO246 := n1_; have BK230 := n2_; have BK231 := n3_; have HB := n4_; clear n0_ n1_ n2_ n3_ n4_; (try clear hb); (try clear hb2); (try clear hk); (try clear hi); (try clear ho0); obtain ⟨Ao41, co41, eo41⟩ := Kd.R_slice HO246.out; subst eo41) | ((with_reducible refine gate_builtin (b := .append) (xs := #[.tmp 37, .tmp 41]) rfl ?_); at_builtin; refine Kd.N_append k57 (w0 := w) w.heap.size rfl (.tmp 37) (.tmp 41) 58 57 (.agg #[(.int .i64 0), (.slice none 0 0)]) 32 rfl Try.underlying58 info57 rfl (by decide) (by omega) u7 x7_4 (⟨4, t244⟩ : S57) [.int .i64 4, .slice Ao41 t244.length co41] (fun k_ => k_ ≠ gb230 ∧ k_ ≠ gb231) (fun k_ => ((fun k_ => k_ ≠ gb230 ∧ k_ ≠ gb231)) k_ ∧ some k_ ≠ (u7 : Value).ownBlock) rfl rfl ?aP (fun _ hk => hk) ?aF ?aO ?aB ?aS ?aL ?_; (case aP => exact (k57_mkF _ _ (⟨4, t244⟩ : S57) (Kd.R_reads' (Kd.R_mono (ok' := (fun k_ => ((fun k_ => k_ ≠ gb230 ∧ k_ ≠ gb231)) k_ ∧ some k_ ≠ (u7 : Value).ownBlock)) (Kd.R_types (Kd.R_types (Kd.R_apart' (HO246.out) (Kd.N_typed HO_7.out) (by decide)) BK230.out (by decide)) BK231.out (by decide)) (fun k_ hk => ⟨⟨hk.1.2, hk.2⟩, hk.1.1.2⟩))).2.1 (Kd.R_F (Kd.R_mono (ok' := (fun k_ => ((fun k_ => k_ ≠ gb230 ∧ k_ ≠ gb231)) k_ ∧ some k_ ≠ (u7 : Value).ownBlock)) (Kd.R_types (Kd.R_types (Kd.R_apart' (HO246.out) (Kd.N_typed HO_7.out) (by decide)) BK230.out (by decide)) BK231.out (by decide)) (fun k_ hk => ⟨⟨hk.1.2, hk.2⟩, hk.1.1.2⟩))))); (case aB => exact (by repeat (first | (with_reducible first | exact HB.out | apply below_alloc | apply pw_below_drewN | apply below_drew1 | refine below_set ?_ GE230.out | refine below_set ?_ GE231.out) | exact HB.out))); (case aF => exact (fun k_ hk => ⟨Kd.freshB (g := gb230) (o := .cells #[.string a0_0, .slice A0_1 l0_1.length c0_1] 34 (0, 0)) (by (with_reducible repeat (first | refine blk_drewN ?_ _ | refine blk_drew ?_ | refine blk_alloc ?_ _)); exact BK230.out) k_ hk, Kd.freshB (g := gb231) (o := .cells #[.string a2_0, .slice A2_1 l2_1.length c2_1, .int .i64 a2_2, .int .i64 a2_3] 36 (0, 0)) (by (with_reducible repeat (first | refine blk_drewN ?_ _ | refine blk_drew ?_ | refine blk_alloc ?_ _)); exact BK231.out) k_ hk⟩)); (case aO => exact (by (with_reducible repeat (first | apply Kd.N_alloc | apply Kd.N_drewN | apply Kd.N_drew)); exact Kd.N_mono HO_7.out (fun _ hk => ⟨hk.1.1, hk.1.2⟩))); (case aS => exact (below_size (by repeat (first | (with_reducible first | exact HB.out | apply below_alloc | apply pw_below_drewN | apply below_drew1 | refine below_set ?_ GE230.out | refine below_set ?_ GE231.out) | exact HB.out)))); (case aL => have := LMc32.out; omega); intro v248 w42 ho hb hg hat; rw [← Ny247.out] at ho; have n0_ := Aside0.mk (blk_grown (g := gb230) (o := .cells #[.string a0_0, .slice A0_1 l0_1.length c0_1] 34 (0, 0)) (by (with_reducible repeat (first | refine blk_drewN ?_ _ | refine blk_drew ?_ | refine blk_alloc ?_ _)); exact BK230.out) hg (Kd.N_ne HO_7.out BK230.out (by decide))); have n1_ := Aside0.mk (blk_grown (g := gb231) (o := .cells #[.string a2_0, .slice A2_1 l2_1.length c2_1, .int .i64 a2_2, .int .i64 a2_3] 36 (0, 0)) (by (with_reducible repeat (first | refine blk_drewN ?_ _ | refine blk_drew ?_ | refine blk_alloc ?_ _)); exact BK231.out) hg (Kd.N_ne HO_7.out BK231.out (by decide))); have n2_ := Aside0.mk (hb); have n3_ := Aside0.mk (ho); clear BK230; clear BK231; clear HB; clear HO_7; clear HO246; have BK230 := n0_; have BK231 := n1_; have HB := n2_; have HO249 := n3_; clear n0_ n1_ n2_ n3_; clear ho hb hg hat; have hcz43_0 : w42.cell? ⟨gb231, 0, none⟩ = some (.string a2_0) := (blk_cell BK231.out 0).trans rfl; have hcz43_1 : w42.cell? ⟨gb231, 1, none⟩ = some (.slice A2_1 l2_1.length c2_1) := (blk_cell BK231.out 1).trans rfl; have hcz43_2 : w42.cell? ⟨gb231, 2, none⟩ = some (.int .i64 a2_2) := (blk_cell BK231.out 2).trans rfl; have hcz43_3 : w42.cell? ⟨gb231, 3, none⟩ = some (.int .i64 a2_3) := (blk_cell BK231.out 3).trans rfl; have hfz43_0 := blk_frozen BK231.out 0; have hfz43_1 := blk_frozen BK231.out 1; have hfz43_2 := blk_frozen BK231.out 2; have hfz43_3 := blk_frozen BK231.out 3) | ((with_reducible refine gate_dst (N := 49) rfl ?_); refine Kd.R_make (Kd.int .u8) _ 5 rfl (N := 49) rfl 23 _ _ rfl a2_3 rfl rfl Try.underlying23 (.int .u8 0) 1 info5 rfl (by decide) (by omega) 0 (ok := fun _ => True) (okp := fun _ => True) rfl (fun _ hk => hk) trivial (of_decide_eq_true (by first | (with_reducible assumption) | assumption)) (Nat.le_trans (Nat.mul_le_mul_right _ (of_decide_eq_true (by first | (with_reducible assumption) | assumption) : a2_3.toNat ≤ 281474976710656)) (by omega)) (Below.refl _ _) (Nat.le_refl _) ?_; intro v251 w44 ho45 hb hg_ hnew_; clear hg_ hnew_; (first | rw [← Ny250.out] at ho45 | (simp only [Int.reduceToNat] at ho45; rw [← Ny250.out] at ho45)); have n0_ := Aside0.mk (Kd.N_elder' (by (with_reducible repeat (first | apply Kd.N_alloc | apply Kd.N_drewN | apply Kd.N_drew)); exact HO249.out) (Kd.R_base ho45) hb); have n1_ := Aside0.mk (Kd.R_lower ho45 (below_size (by repeat (first | (with_reducible first | exact HB.out | apply below_alloc | apply pw_below_drewN | apply below_drew1 | refine below_set ?_ GE230.out | refine below_set ?_ GE231.out) | exact HB.out)))); have n2_ := Aside0.mk (blk_below (g := gb230) (o := .cells #[.string a0_0, .slice A0_1 l0_1.length c0_1] 34 (0, 0)) (by (with_reducible repeat (first | refine blk_drewN ?_ _ | refine blk_drew ?_ | refine blk_alloc ?_ _)); exact BK230.out) hb); have n3_ := Aside0.mk (blk_below (g := gb231) (o := .cells #[.string a2_0, .slice A2_1 l2_1.length c2_1, .int .i64 a2_2, .int .i64 a2_3] 36 (0, 0)) (by (with_reducible repeat (first | refine blk_drewN ?_ _ | refine blk_drew ?_ | refine blk_alloc ?_ _)); exact BK231.out) hb); have n4_ := Aside0.mk (below_step (by repeat (first | (with_reducible first | exact HB.out | apply below_alloc | apply pw_below_drewN | apply below_drew1 | refine below_set ?_ GE230.out | refine below_set ?_ GE231.out) | exact HB.out)) hb); clear HO249; clear BK230; clear BK231; clear HB; have HO249 := n0_; have HO252 := n1_; have BK230 := n2_; have BK231 := n3_; have HB := n4_; clear n0_ n1_ n2_ n3_ n4_; clear hb ho45; obtain ⟨Ao46, co46, eo46⟩ := Kd.R_slice HO252.out; subst eo46) | ((with_reducible refine gate_builtin (b := .append) (xs := #[.tmp 46, .tmp 51]) rfl ?_); at_builtin; refine Kd.N_append k57 (w0 := w) w.heap.size rfl (.tmp 46) (.tmp 51) 58 57 (.agg #[(.int .i64 0), (.slice none 0 0)]) 32 rfl Try.underlying58 info57 rfl (by decide) (by omega) v248 y247 (⟨1, y250⟩ : S57) [.int .i64 1, .slice Ao46 y250.length co46] (fun k_ => k_ ≠ gb230 ∧ k_ ≠ gb231) (fun k_ => ((fun k_ => k_ ≠ gb230 ∧ k_ ≠ gb231)) k_ ∧ some k_ ≠ (v248 : Value).ownBlock) rfl rfl ?aP (fun _ hk => hk) ?aF ?aO ?aB ?aS ?aL ?_; (case aP => exact (k57_mkF _ _ (⟨1, y250⟩ : S57) (Kd.R_reads' (Kd.R_mono (ok' := (fun k_ => ((fun k_ => k_ ≠ gb230 ∧ k_ ≠ gb231)) k_ ∧ some k_ ≠ (v248 : Value).ownBlock)) (Kd.R_types (Kd.R_types (Kd.R_apart' (HO252.out) (Kd.N_typed HO249.out) (by decide)) BK230.out (by decide)) BK231.out (by decide)) (fun k_ hk => ⟨⟨hk.1.2, hk.2⟩, hk.1.1.2⟩))).2.1 (Kd.R_F (Kd.R_mono (ok' := (fun k_ => ((fun k_ => k_ ≠ gb230 ∧ k_ ≠ gb231)) k_ ∧ some k_ ≠ (v248 : Value).ownBlock)) (Kd.R_types (Kd.R_types (Kd.R_apart' (HO252.out) (Kd.N_typed HO249.out) (by decide)) BK230.out (by decide)) BK231.out (by decide)) (fun k_ hk => ⟨⟨hk.1.2, hk.2⟩, hk.1.1.2⟩))))); (case aB => exact (by repeat (first | (with_reducible first | exact HB.out | apply below_alloc | apply pw_below_drewN | apply below_drew1 | refine below_set ?_ GE230.out | refine below_set ?_ GE231.out) | exact HB.out))); (case aF => exact (fun k_ hk => ⟨Kd.freshB (g := gb230) (o := .cells #[.string a0_0, .slice A0_1 l0_1.length c0_1] 34 (0, 0)) (by (with_reducible repeat (first | refine blk_drewN ?_ _ | refine blk_drew ?_ | refine blk_alloc ?_ _)); exact BK230.out) k_ hk, Kd.freshB (g := gb231) (o := .cells #[.string a2_0, .slice A2_1 l2_1.length c2_1, .int .i64 a2_2, .int .i64 a2_3] 36 (0, 0)) (by (with_reducible repeat (first | refine blk_drewN ?_ _ | refine blk_drew ?_ | refine blk_alloc ?_ _)); exact BK231.out) k_ hk⟩)); (case aO => exact (by (with_reducible repeat (first | apply Kd.N_alloc | apply Kd.N_drewN | apply Kd.N_drew)); exact Kd.N_mono HO249.out (fun _ hk => ⟨hk.1.1, hk.1.2⟩))); (case aS => exact (below_size (by repeat (first | (with_reducible first | exact HB.out | apply below_alloc | apply pw_below_drewN | apply below_drew1 | refine below_set ?_ GE230.out | refine below_set ?_ GE231.out) | exact HB.out)))); (case aL => have := LMc36.out; omega); intro v254 w47 ho hb hg hat; rw [← Ny253.out] at ho; have n0_ := Aside0.mk (blk_grown (g := gb230) (o := .cells #[.string a0_0, .slice A0_1 l0_1.length c0_1] 34 (0, 0)) (by (with_reducible repeat (first | refine blk_drewN ?_ _ | refine blk_drew ?_ | refine blk_alloc ?_ _)); exact BK230.out) hg (Kd.N_ne HO249.out BK230.out (by decide))); have n1_ := Aside0.mk (blk_grown (g := gb231) (o := .cells #[.string a2_0, .slice A2_1 l2_1.length c2_1, .int .i64 a2_2, .int .i64 a2_3] 36 (0, 0)) (by (with_reducible repeat (first | refine blk_drewN ?_ _ | refine blk_drew ?_ | refine blk_alloc ?_ _)); exact BK231.out) hg (Kd.N_ne HO249.out BK231.out (by decide))); have n2_ := Aside0.mk (hb); have n3_ := Aside0.mk (ho); clear BK230; clear BK231; clear HB; clear HO249; clear HO252; have BK230 := n0_; have BK231 := n1_; have HB := n2_; have HO255 := n3_; clear n0_ n1_ n2_ n3_; clear ho hb hg hat; obtain ⟨Ao48, co48, eo48⟩ := Kd.N_slice HO255.out; subst eo48) | ((with_reducible refine gate_callee (f := 27) rfl ?_); refine goesL_ (some 55) rfl rfl Try.func27 (by kernel_rfl) rfl #[.slice Ao48 y253.length co48] rfl (by (try simp only [List.map_toArray, List.map_cons, List.map_nil]); first | done | rfl | (simp only [List.length_drop, List.length_take]; rfl)) ?_; (with_reducible refine (serinetteref18_Pack.calls kj4 _ _ y253 t256 t257 _ ?side1 ?side2 A37.out).mono ?_); (case side1 => repeat (first | exact (Kd.N_reads' HO255.out).2.2 | (with_reducible refine Kd.C_alloc ?_ _) | (with_reducible refine Kd.C_drewN ?_ _) | (with_reducible refine Kd.C_drew ?_))); (case side2 => exact (Kd.N_reads' HO255.out).2.1); rintro e w49 ⟨v258, rfl, ho0, hb⟩; refine ⟨_, rfl, ?_⟩; have n0_ := Aside0.mk (Kd.N_elder' (by (with_reducible repeat (first | apply Kd.N_alloc | apply Kd.N_drewN | apply Kd.N_drew)); exact HO255.out) (Kd.R_base ho0) hb); have n1_ := Aside0.mk (Kd.R_lower ho0 (below_size (by repeat (first | (with_reducible first | exact HB.out | apply below_alloc | apply pw_below_drewN | apply below_drew1 | refine below_set ?_ GE230.out | refine below_set ?_ GE231.out) | exact HB.out)))); have n2_ := Aside0.mk (blk_below (g := gb230) (o := .cells #[.string a0_0, .slice A0_1 l0_1.length c0_1] 34 (0, 0)) (by (with_reducible repeat (first | refine blk_drewN ?_ _ | refine blk_drew ?_ | refine blk_alloc ?_ _)); exact BK230.out) hb); have n3_ := Aside0.mk (blk_below (g := gb231) (o := .cells #[.string a2_0, .slice A2_1 l2_1.length c2_1, .int .i64 a2_2, .int .i64 a2_3] 36 (0, 0)) (by (with_reducible repeat (first | refine blk_drewN ?_ _ | refine blk_drew ?_ | refine blk_alloc ?_ _)); exact BK231.out) hb); have n4_ := Aside0.mk (below_step (by repeat (first | (with_reducible first | exact HB.out | apply below_alloc | apply pw_below_drewN | apply below_drew1 | refine below_set ?_ GE230.out | refine below_set ?_ GE231.out) | exact HB.out)) hb); clear HO255; clear BK230; clear BK231; clear HB; have HO255 := n0_; have HO259 := n1_; have BK230 := n2_; have BK231 := n3_; have HB := n4_; clear n0_ n1_ n2_ n3_ n4_; (try clear hb); (try clear hb2); (try clear hk); (try clear hi); (try clear ho0); obtain ⟨Ao50, co50, eo50⟩ := Kd.R_slice HO259.out; subst eo50))
                  go_ret
                  exact ⟨by first | rfl | (simp [errW_none, errW_some] <;> rfl) | (simp [*, errW_none, errW_some] <;> rfl), by repeat (first | (with_reducible first | exact HB.out | apply below_alloc | apply pw_below_drewN | apply below_drew1 | refine below_set ?_ GE230.out | refine below_set ?_ GE231.out) | exact HB.out)⟩
                · rw [if_neg c36] at H
                  exact absurd H (by simp)
              · rw [if_neg c35] at H
                exact absurd H (by simp)
            · rw [if_neg c34] at H
              exact absurd H (by simp)
          · rw [if_neg c33] at H
            have c33b0 : decide (0 < a2_3) = false := decide_eq_false c33
            clear c33
            replace H := Option.bind_eq_some_iff.mp H
            obtain ⟨⟨t260, t261⟩, A510, H⟩ := H
            replace H : (some (t260.length : Int)) = some r := H
            have A51 := Aside0.mk A510
            clear A510
            obtain rfl := Option.some.inj H
            have hnb52 := NB230_231.out
            have hnc52 := NB231_230.out
            have hcz53_0 : wc.cell? ⟨gb230, 0, none⟩ = some (.string a0_0) := (blk_cell BK230.out 0).trans rfl
            have hcz53_1 : wc.cell? ⟨gb230, 1, none⟩ = some (.slice A0_1 l0_1.length c0_1) := (blk_cell BK230.out 1).trans rfl
            have hfz53_0 := blk_frozen BK230.out 0
            have hfz53_1 := blk_frozen BK230.out 1
            go_wp2_with (first | ((with_reducible refine gate_callee (f := 26) rfl ?_); refine goesL_ (some 39) rfl rfl Try.func26 (by kernel_rfl) rfl #[.agg #[.string a0_0, .slice A0_1 l0_1.length c0_1]] rfl (by (try simp only [List.map_toArray, List.map_cons, List.map_nil]); first | done | rfl | (simp only [List.length_drop, List.length_take]; rfl)) ?_; (with_reducible refine (serinetteref18_CommentBody.calls kj4 a0_0 _ _ l0_1 t244 _ ?side1 ?side2 A31.out).mono ?_); (case side1 => repeat (first | exact (Kd.C_below HR0_1.out HB.out) | (with_reducible refine Kd.C_alloc ?_ _) | (with_reducible refine Kd.C_drewN ?_ _) | (with_reducible refine Kd.C_drew ?_))); (case side2 => exact HC0_1.out); rintro e w54 ⟨v245, rfl, ho0, hb⟩; refine ⟨_, rfl, ?_⟩; have n0_ := Aside0.mk (Kd.N_elder' (by (with_reducible repeat (first | apply Kd.N_alloc | apply Kd.N_drewN | apply Kd.N_drew)); exact HO_7.out) (Kd.R_base ho0) hb); have n1_ := Aside0.mk (Kd.R_lower ho0 (below_size (by repeat (first | (with_reducible first | exact HB.out | apply below_alloc | apply pw_below_drewN | apply below_drew1 | refine below_set ?_ GE230.out | refine below_set ?_ GE231.out) | exact HB.out)))); have n2_ := Aside0.mk (blk_below (g := gb230) (o := .cells #[.string a0_0, .slice A0_1 l0_1.length c0_1] 34 (0, 0)) (by (with_reducible repeat (first | refine blk_drewN ?_ _ | refine blk_drew ?_ | refine blk_alloc ?_ _)); exact BK230.out) hb); have n3_ := Aside0.mk (blk_below (g := gb231) (o := .cells #[.string a2_0, .slice A2_1 l2_1.length c2_1, .int .i64 a2_2, .int .i64 a2_3] 36 (0, 0)) (by (with_reducible repeat (first | refine blk_drewN ?_ _ | refine blk_drew ?_ | refine blk_alloc ?_ _)); exact BK231.out) hb); have n4_ := Aside0.mk (below_step (by repeat (first | (with_reducible first | exact HB.out | apply below_alloc | apply pw_below_drewN | apply below_drew1 | refine below_set ?_ GE230.out | refine below_set ?_ GE231.out) | exact HB.out)) hb); clear HO_7; clear BK230; clear BK231; clear HB; have HO_7 := n0_; have HO246 := n1_; have BK230 := n2_; have BK231 := n3_; have HB := n4_; clear n0_ n1_ n2_ n3_ n4_; (try clear hb); (try clear hb2); (try clear hk); (try clear hi); (try clear ho0); obtain ⟨Ao55, co55, eo55⟩ := Kd.R_slice HO246.out; subst eo55) | ((with_reducible refine gate_builtin (b := .append) (xs := #[.tmp 37, .tmp 41]) rfl ?_); at_builtin; refine Kd.N_append k57 (w0 := w) w.heap.size rfl (.tmp 37) (.tmp 41) 58 57 (.agg #[(.int .i64 0), (.slice none 0 0)]) 32 rfl Try.underlying58 info57 rfl (by decide) (by omega) u7 x7_4 (⟨4, t244⟩ : S57) [.int .i64 4, .slice Ao55 t244.length co55] (fun k_ => k_ ≠ gb230 ∧ k_ ≠ gb231) (fun k_ => ((fun k_ => k_ ≠ gb230 ∧ k_ ≠ gb231)) k_ ∧ some k_ ≠ (u7 : Value).ownBlock) rfl rfl ?aP (fun _ hk => hk) ?aF ?aO ?aB ?aS ?aL ?_; (case aP => exact (k57_mkF _ _ (⟨4, t244⟩ : S57) (Kd.R_reads' (Kd.R_mono (ok' := (fun k_ => ((fun k_ => k_ ≠ gb230 ∧ k_ ≠ gb231)) k_ ∧ some k_ ≠ (u7 : Value).ownBlock)) (Kd.R_types (Kd.R_types (Kd.R_apart' (HO246.out) (Kd.N_typed HO_7.out) (by decide)) BK230.out (by decide)) BK231.out (by decide)) (fun k_ hk => ⟨⟨hk.1.2, hk.2⟩, hk.1.1.2⟩))).2.1 (Kd.R_F (Kd.R_mono (ok' := (fun k_ => ((fun k_ => k_ ≠ gb230 ∧ k_ ≠ gb231)) k_ ∧ some k_ ≠ (u7 : Value).ownBlock)) (Kd.R_types (Kd.R_types (Kd.R_apart' (HO246.out) (Kd.N_typed HO_7.out) (by decide)) BK230.out (by decide)) BK231.out (by decide)) (fun k_ hk => ⟨⟨hk.1.2, hk.2⟩, hk.1.1.2⟩))))); (case aB => exact (by repeat (first | (with_reducible first | exact HB.out | apply below_alloc | apply pw_below_drewN | apply below_drew1 | refine below_set ?_ GE230.out | refine below_set ?_ GE231.out) | exact HB.out))); (case aF => exact (fun k_ hk => ⟨Kd.freshB (g := gb230) (o := .cells #[.string a0_0, .slice A0_1 l0_1.length c0_1] 34 (0, 0)) (by (with_reducible repeat (first | refine blk_drewN ?_ _ | refine blk_drew ?_ | refine blk_alloc ?_ _)); exact BK230.out) k_ hk, Kd.freshB (g := gb231) (o := .cells #[.string a2_0, .slice A2_1 l2_1.length c2_1, .int .i64 a2_2, .int .i64 a2_3] 36 (0, 0)) (by (with_reducible repeat (first | refine blk_drewN ?_ _ | refine blk_drew ?_ | refine blk_alloc ?_ _)); exact BK231.out) k_ hk⟩)); (case aO => exact (by (with_reducible repeat (first | apply Kd.N_alloc | apply Kd.N_drewN | apply Kd.N_drew)); exact Kd.N_mono HO_7.out (fun _ hk => ⟨hk.1.1, hk.1.2⟩))); (case aS => exact (below_size (by repeat (first | (with_reducible first | exact HB.out | apply below_alloc | apply pw_below_drewN | apply below_drew1 | refine below_set ?_ GE230.out | refine below_set ?_ GE231.out) | exact HB.out)))); (case aL => have := LMc32.out; omega); intro v248 w56 ho hb hg hat; rw [← Ny247.out] at ho; have n0_ := Aside0.mk (blk_grown (g := gb230) (o := .cells #[.string a0_0, .slice A0_1 l0_1.length c0_1] 34 (0, 0)) (by (with_reducible repeat (first | refine blk_drewN ?_ _ | refine blk_drew ?_ | refine blk_alloc ?_ _)); exact BK230.out) hg (Kd.N_ne HO_7.out BK230.out (by decide))); have n1_ := Aside0.mk (blk_grown (g := gb231) (o := .cells #[.string a2_0, .slice A2_1 l2_1.length c2_1, .int .i64 a2_2, .int .i64 a2_3] 36 (0, 0)) (by (with_reducible repeat (first | refine blk_drewN ?_ _ | refine blk_drew ?_ | refine blk_alloc ?_ _)); exact BK231.out) hg (Kd.N_ne HO_7.out BK231.out (by decide))); have n2_ := Aside0.mk (hb); have n3_ := Aside0.mk (ho); clear BK230; clear BK231; clear HB; clear HO_7; clear HO246; have BK230 := n0_; have BK231 := n1_; have HB := n2_; have HO249 := n3_; clear n0_ n1_ n2_ n3_; clear ho hb hg hat; have hcz57_0 : w56.cell? ⟨gb231, 0, none⟩ = some (.string a2_0) := (blk_cell BK231.out 0).trans rfl; have hcz57_1 : w56.cell? ⟨gb231, 1, none⟩ = some (.slice A2_1 l2_1.length c2_1) := (blk_cell BK231.out 1).trans rfl; have hcz57_2 : w56.cell? ⟨gb231, 2, none⟩ = some (.int .i64 a2_2) := (blk_cell BK231.out 2).trans rfl; have hcz57_3 : w56.cell? ⟨gb231, 3, none⟩ = some (.int .i64 a2_3) := (blk_cell BK231.out 3).trans rfl; have hfz57_0 := blk_frozen BK231.out 0; have hfz57_1 := blk_frozen BK231.out 1; have hfz57_2 := blk_frozen BK231.out 2; have hfz57_3 := blk_frozen BK231.out 3; obtain ⟨Ao58, co58, eo58⟩ := Kd.N_slice HO249.out; subst eo58) | ((with_reducible refine gate_callee (f := 27) rfl ?_); refine goesL_ (some 55) rfl rfl Try.func27 (by kernel_rfl) rfl #[.slice Ao58 y247.length co58] rfl (by (try simp only [List.map_toArray, List.map_cons, List.map_nil]); first | done | rfl | (simp only [List.length_drop, List.length_take]; rfl)) ?_; (with_reducible refine (serinetteref18_Pack.calls kj4 _ _ y247 t260 t261 _ ?side1 ?side2 A51.out).mono ?_); (case side1 => repeat (first | exact (Kd.N_reads' HO249.out).2.2 | (with_reducible refine Kd.C_alloc ?_ _) | (with_reducible refine Kd.C_drewN ?_ _) | (with_reducible refine Kd.C_drew ?_))); (case side2 => exact (Kd.N_reads' HO249.out).2.1); rintro e w59 ⟨v262, rfl, ho0, hb⟩; refine ⟨_, rfl, ?_⟩; have n0_ := Aside0.mk (Kd.N_elder' (by (with_reducible repeat (first | apply Kd.N_alloc | apply Kd.N_drewN | apply Kd.N_drew)); exact HO249.out) (Kd.R_base ho0) hb); have n1_ := Aside0.mk (Kd.R_lower ho0 (below_size (by repeat (first | (with_reducible first | exact HB.out | apply below_alloc | apply pw_below_drewN | apply below_drew1 | refine below_set ?_ GE230.out | refine below_set ?_ GE231.out) | exact HB.out)))); have n2_ := Aside0.mk (blk_below (g := gb230) (o := .cells #[.string a0_0, .slice A0_1 l0_1.length c0_1] 34 (0, 0)) (by (with_reducible repeat (first | refine blk_drewN ?_ _ | refine blk_drew ?_ | refine blk_alloc ?_ _)); exact BK230.out) hb); have n3_ := Aside0.mk (blk_below (g := gb231) (o := .cells #[.string a2_0, .slice A2_1 l2_1.length c2_1, .int .i64 a2_2, .int .i64 a2_3] 36 (0, 0)) (by (with_reducible repeat (first | refine blk_drewN ?_ _ | refine blk_drew ?_ | refine blk_alloc ?_ _)); exact BK231.out) hb); have n4_ := Aside0.mk (below_step (by repeat (first | (with_reducible first | exact HB.out | apply below_alloc | apply pw_below_drewN | apply below_drew1 | refine below_set ?_ GE230.out | refine below_set ?_ GE231.out) | exact HB.out)) hb); clear HO249; clear BK230; clear BK231; clear HB; have HO249 := n0_; have HO263 := n1_; have BK230 := n2_; have BK231 := n3_; have HB := n4_; clear n0_ n1_ n2_ n3_ n4_; (try clear hb); (try clear hb2); (try clear hk); (try clear hi); (try clear ho0); obtain ⟨Ao60, co60, eo60⟩ := Kd.R_slice HO263.out; subst eo60))
            go_ret
            exact ⟨by first | rfl | (simp [errW_none, errW_some] <;> rfl) | (simp [*, errW_none, errW_some] <;> rfl), by repeat (first | (with_reducible first | exact HB.out | apply below_alloc | apply pw_below_drewN | apply below_drew1 | refine below_set ?_ GE230.out | refine below_set ?_ GE231.out) | exact HB.out)⟩
        · rw [if_neg c32] at H
          exact absurd H (by simp)
  · rw [if_neg c4] at H
    exact absurd H (by simp)

end Go.Proofs.Ytdacblackoaphaa.PBoundFrames
