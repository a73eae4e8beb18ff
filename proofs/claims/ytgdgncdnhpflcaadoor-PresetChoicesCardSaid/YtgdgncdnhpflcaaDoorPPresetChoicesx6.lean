-- written by this session's program wip/reprint.sh (a turned copy of the kit's print): the session's own text
import Derived.Test.YtgdgncdnhpflcaaDoorPPresetChoicesx0
namespace Go.Proofs.YtgdgncdnhpflcaaDoor.PPresetChoices
open Go.RowKit Go.Proofs.YtgdgncdnhpflcaaDoorW.PrintWords Go.Proofs.YtgdgncdnhpflcaaDoorW.PrintLast Go.Proofs.YtgdgncdnhpflcaaDoorW.PrintMore
attribute [local go_sem] max2_int min2_int max_two min_two max_three min_three max_four min_four   -- for this text's walks alone
set_option linter.unusedVariables false
set_option linter.unusedSimpArgs false

/-! ### serinetteref19_All: function 15 -/
mutual
def serinetteref19_All.j1 : Nat → Int → List (S35) → Int → Bool → Int → Int → List Int → List Int → Int → Bool → Option ((List (S35)))
  | 0, _, _, _, _, _, _, _, _, _, _ => none
  | k + 1, x1, x5, x187000, x187001, x187002, x187003, x187004, x187005, x187006, x187007 => serinetteref19_All.l1 k x1 x5 0 x187000 x187001 x187002 x187003 x187004 x187005 x187006 x187007
def serinetteref19_All.l1 : Nat → Int → List (S35) → Int → Int → Bool → Int → Int → List Int → List Int → Int → Bool → Option ((List (S35)))
  | 0, _, _, _, _, _, _, _, _, _, _, _ => none
  | k + 1, x1, x5, x7, x187000, x187001, x187002, x187003, x187004, x187005, x187006, x187007 => if x7 < (x187005.length : Int) then (serinetteref19_All.l2 k x1 x5 x7 1 x187000 x187001 x187002 x187003 x187004 x187005 x187006 x187007) else (some x5)
def serinetteref19_All.l2 : Nat → Int → List (S35) → Int → Int → Int → Bool → Int → Int → List Int → List Int → Int → Bool → Option ((List (S35)))
  | 0, _, _, _, _, _, _, _, _, _, _, _, _ => none
  | k + 1, x1, x5, x7, x8, x187000, x187001, x187002, x187003, x187004, x187005, x187006, x187007 => if x8 ≤ x187003 then (serinetteref19_All.j4 k x1 x5 x7 x8 (decide (x8 < x1)) x187000 x187001 x187002 x187003 x187004 x187005 x187006 x187007) else (serinetteref19_All.j4 k x1 x5 x7 x8 false x187000 x187001 x187002 x187003 x187004 x187005 x187006 x187007)
def serinetteref19_All.j4 : Nat → Int → List (S35) → Int → Int → Bool → Int → Bool → Int → Int → List Int → List Int → Int → Bool → Option ((List (S35)))
  | 0, _, _, _, _, _, _, _, _, _, _, _, _, _ => none
  | k + 1, x1, x5, x7, x8, x46, x187000, x187001, x187002, x187003, x187004, x187005, x187006, x187007 => if x46 = true then (serinetteref19_All.l3 k x1 x5 x7 x8 0 x187000 x187001 x187002 x187003 x187004 x187005 x187006 x187007) else (serinetteref19_All.l1 k x1 x5 (wrap64 (x7 + 1)) x187000 x187001 x187002 x187003 x187004 x187005 x187006 x187007)
def serinetteref19_All.l3 : Nat → Int → List (S35) → Int → Int → Int → Int → Bool → Int → Int → List Int → List Int → Int → Bool → Option ((List (S35)))
  | 0, _, _, _, _, _, _, _, _, _, _, _, _, _ => none
  | k + 1, x1, x5, x7, x8, x9, x187000, x187001, x187002, x187003, x187004, x187005, x187006, x187007 => if x9 < (x187004.length : Int) then (if 0 ≤ x7 then (if x7 < (x187005.length : Int) then (if 0 ≤ x9 then (if x5.length < 4398046511104 then (serinetteref19_All.l3 k x1 (x5 ++ [(⟨3, x8, rd x187005 x7, rd x187004 x9⟩ : S35)]) x7 x8 (wrap64 (x9 + 1)) x187000 x187001 x187002 x187003 x187004 x187005 x187006 x187007) else (none)) else (none)) else (none)) else (none)) else (serinetteref19_All.l2 k x1 x5 x7 (wrap64 (x8 + 1)) x187000 x187001 x187002 x187003 x187004 x187005 x187006 x187007)
def serinetteref19_All.l0 : Nat → Int → List (S35) → Int → Int → Bool → Int → Int → List Int → List Int → Int → Bool → Option ((List (S35)))
  | 0, _, _, _, _, _, _, _, _, _, _, _ => none
  | k + 1, x1, x5, x6, x187000, x187001, x187002, x187003, x187004, x187005, x187006, x187007 => if x6 ≤ x187002 then (if x6 < x1 then (if x5.length < 4398046511104 then (serinetteref19_All.l0 k x1 (x5 ++ [(⟨2, x6, 0, 0⟩ : S35)]) (wrap64 (x6 + 1)) x187000 x187001 x187002 x187003 x187004 x187005 x187006 x187007) else (none)) else (serinetteref19_All.j1 k x1 x5 x187000 x187001 x187002 x187003 x187004 x187005 x187006 x187007)) else (serinetteref19_All.j1 k x1 x5 x187000 x187001 x187002 x187003 x187004 x187005 x187006 x187007)
end
def serinetteref19_All.f (k : Nat) (a0_0 : Int) (a0_1 : Bool) (a0_2 : Int) (a0_3 : Int) (l0_4 : List Int) (l0_5 : List Int) (a0_6 : Int) (a0_7 : Bool) (a1 : Int) : Option ((List (S35))) := if a1 < 1 then (some ([] : List (S35))) else (serinetteref19_All.l0 k a1 (([(⟨0, 0, 0, 0⟩ : S35), (⟨1, 0, 0, 0⟩ : S35)] : List (S35))) 0 a0_0 a0_1 a0_2 a0_3 l0_4 l0_5 a0_6 a0_7)
theorem serinetteref19_All.mono_l : ∀ k, (∀ y0 y1 y2 y3 y4 y5 y6 y7 y8 y9, LeO (serinetteref19_All.j1 k y0 y1 y2 y3 y4 y5 y6 y7 y8 y9) (serinetteref19_All.j1 (k + 1) y0 y1 y2 y3 y4 y5 y6 y7 y8 y9)) ∧ (∀ y0 y1 y2 y3 y4 y5 y6 y7 y8 y9 y10, LeO (serinetteref19_All.l1 k y0 y1 y2 y3 y4 y5 y6 y7 y8 y9 y10) (serinetteref19_All.l1 (k + 1) y0 y1 y2 y3 y4 y5 y6 y7 y8 y9 y10)) ∧ (∀ y0 y1 y2 y3 y4 y5 y6 y7 y8 y9 y10 y11, LeO (serinetteref19_All.l2 k y0 y1 y2 y3 y4 y5 y6 y7 y8 y9 y10 y11) (serinetteref19_All.l2 (k + 1) y0 y1 y2 y3 y4 y5 y6 y7 y8 y9 y10 y11)) ∧ (∀ y0 y1 y2 y3 y4 y5 y6 y7 y8 y9 y10 y11 y12, LeO (serinetteref19_All.j4 k y0 y1 y2 y3 y4 y5 y6 y7 y8 y9 y10 y11 y12) (serinetteref19_All.j4 (k + 1) y0 y1 y2 y3 y4 y5 y6 y7 y8 y9 y10 y11 y12)) ∧ (∀ y0 y1 y2 y3 y4 y5 y6 y7 y8 y9 y10 y11 y12, LeO (serinetteref19_All.l3 k y0 y1 y2 y3 y4 y5 y6 y7 y8 y9 y10 y11 y12) (serinetteref19_All.l3 (k + 1) y0 y1 y2 y3 y4 y5 y6 y7 y8 y9 y10 y11 y12)) ∧ (∀ y0 y1 y2 y3 y4 y5 y6 y7 y8 y9 y10, LeO (serinetteref19_All.l0 k y0 y1 y2 y3 y4 y5 y6 y7 y8 y9 y10) (serinetteref19_All.l0 (k + 1) y0 y1 y2 y3 y4 y5 y6 y7 y8 y9 y10))
  | 0 => ⟨fun _ _ _ _ _ _ _ _ _ _ r h => by simp [serinetteref19_All.j1] at h, fun _ _ _ _ _ _ _ _ _ _ _ r h => by simp [serinetteref19_All.l1] at h, fun _ _ _ _ _ _ _ _ _ _ _ _ r h => by simp [serinetteref19_All.l2] at h, fun _ _ _ _ _ _ _ _ _ _ _ _ _ r h => by simp [serinetteref19_All.j4] at h, fun _ _ _ _ _ _ _ _ _ _ _ _ _ r h => by simp [serinetteref19_All.l3] at h, fun _ _ _ _ _ _ _ _ _ _ _ r h => by simp [serinetteref19_All.l0] at h⟩
  | k + 1 => by
    obtain ⟨ih0, ih1, ih2, ih3, ih4, ih5⟩ := serinetteref19_All.mono_l k
    refine ⟨?_, ?_, ?_, ?_, ?_, ?_⟩
    · intro y0 y1 y2 y3 y4 y5 y6 y7 y8 y9
      unfold serinetteref19_All.j1
      repeat' first
      | (with_reducible exact ih0 _ _ _ _ _ _ _ _ _ _)
      | (with_reducible exact ih1 _ _ _ _ _ _ _ _ _ _ _)
      | (with_reducible exact ih2 _ _ _ _ _ _ _ _ _ _ _ _)
      | (with_reducible exact ih3 _ _ _ _ _ _ _ _ _ _ _ _ _)
      | (with_reducible exact ih4 _ _ _ _ _ _ _ _ _ _ _ _ _)
      | (with_reducible exact ih5 _ _ _ _ _ _ _ _ _ _ _)
      | (with_reducible exact LeO.refl _)
      | (with_reducible exact LeO.none _)
      | (with_reducible refine LeO.ite ?_ ?_)
      | (with_reducible refine LeO.bind ?_ (fun _ => ?_))
      | exact ih0 _ _ _ _ _ _ _ _ _ _
      | exact ih1 _ _ _ _ _ _ _ _ _ _ _
      | exact ih2 _ _ _ _ _ _ _ _ _ _ _ _
      | exact ih3 _ _ _ _ _ _ _ _ _ _ _ _ _
      | exact ih4 _ _ _ _ _ _ _ _ _ _ _ _ _
      | exact ih5 _ _ _ _ _ _ _ _ _ _ _
      | exact LeO.none _
      | refine LeO.ite ?_ ?_
      | refine LeO.bind ?_ (fun _ => ?_)
    · intro y0 y1 y2 y3 y4 y5 y6 y7 y8 y9 y10
      unfold serinetteref19_All.l1
      repeat' first
      | (with_reducible exact ih0 _ _ _ _ _ _ _ _ _ _)
      | (with_reducible exact ih1 _ _ _ _ _ _ _ _ _ _ _)
      | (with_reducible exact ih2 _ _ _ _ _ _ _ _ _ _ _ _)
      | (with_reducible exact ih3 _ _ _ _ _ _ _ _ _ _ _ _ _)
      | (with_reducible exact ih4 _ _ _ _ _ _ _ _ _ _ _ _ _)
      | (with_reducible exact ih5 _ _ _ _ _ _ _ _ _ _ _)
      | (with_reducible exact LeO.refl _)
      | (with_reducible exact LeO.none _)
      | (with_reducible refine LeO.ite ?_ ?_)
      | (with_reducible refine LeO.bind ?_ (fun _ => ?_))
      | exact ih0 _ _ _ _ _ _ _ _ _ _
      | exact ih1 _ _ _ _ _ _ _ _ _ _ _
      | exact ih2 _ _ _ _ _ _ _ _ _ _ _ _
      | exact ih3 _ _ _ _ _ _ _ _ _ _ _ _ _
      | exact ih4 _ _ _ _ _ _ _ _ _ _ _ _ _
      | exact ih5 _ _ _ _ _ _ _ _ _ _ _
      | exact LeO.none _
      | refine LeO.ite ?_ ?_
      | refine LeO.bind ?_ (fun _ => ?_)
    · intro y0 y1 y2 y3 y4 y5 y6 y7 y8 y9 y10 y11
      unfold serinetteref19_All.l2
      repeat' first
      | (with_reducible exact ih0 _ _ _ _ _ _ _ _ _ _)
      | (with_reducible exact ih1 _ _ _ _ _ _ _ _ _ _ _)
      | (with_reducible exact ih2 _ _ _ _ _ _ _ _ _ _ _ _)
      | (with_reducible exact ih3 _ _ _ _ _ _ _ _ _ _ _ _ _)
      | (with_reducible exact ih4 _ _ _ _ _ _ _ _ _ _ _ _ _)
      | (with_reducible exact ih5 _ _ _ _ _ _ _ _ _ _ _)
      | (with_reducible exact LeO.refl _)
      | (with_reducible exact LeO.none _)
      | (with_reducible refine LeO.ite ?_ ?_)
      | (with_reducible refine LeO.bind ?_ (fun _ => ?_))
      | exact ih0 _ _ _ _ _ _ _ _ _ _
      | exact ih1 _ _ _ _ _ _ _ _ _ _ _
      | exact ih2 _ _ _ _ _ _ _ _ _ _ _ _
      | exact ih3 _ _ _ _ _ _ _ _ _ _ _ _ _
      | exact ih4 _ _ _ _ _ _ _ _ _ _ _ _ _
      | exact ih5 _ _ _ _ _ _ _ _ _ _ _
      | exact LeO.none _
      | refine LeO.ite ?_ ?_
      | refine LeO.bind ?_ (fun _ => ?_)
    · intro y0 y1 y2 y3 y4 y5 y6 y7 y8 y9 y10 y11 y12
      unfold serinetteref19_All.j4
      repeat' first
      | (with_reducible exact ih0 _ _ _ _ _ _ _ _ _ _)
      | (with_reducible exact ih1 _ _ _ _ _ _ _ _ _ _ _)
      | (with_reducible exact ih2 _ _ _ _ _ _ _ _ _ _ _ _)
      | (with_reducible exact ih3 _ _ _ _ _ _ _ _ _ _ _ _ _)
      | (with_reducible exact ih4 _ _ _ _ _ _ _ _ _ _ _ _ _)
      | (with_reducible exact ih5 _ _ _ _ _ _ _ _ _ _ _)
      | (with_reducible exact LeO.refl _)
      | (with_reducible exact LeO.none _)
      | (with_reducible refine LeO.ite ?_ ?_)
      | (with_reducible refine LeO.bind ?_ (fun _ => ?_))
      | exact ih0 _ _ _ _ _ _ _ _ _ _
      | exact ih1 _ _ _ _ _ _ _ _ _ _ _
      | exact ih2 _ _ _ _ _ _ _ _ _ _ _ _
      | exact ih3 _ _ _ _ _ _ _ _ _ _ _ _ _
      | exact ih4 _ _ _ _ _ _ _ _ _ _ _ _ _
      | exact ih5 _ _ _ _ _ _ _ _ _ _ _
      | exact LeO.none _
      | refine LeO.ite ?_ ?_
      | refine LeO.bind ?_ (fun _ => ?_)
    · intro y0 y1 y2 y3 y4 y5 y6 y7 y8 y9 y10 y11 y12
      unfold serinetteref19_All.l3
      repeat' first
      | (with_reducible exact ih0 _ _ _ _ _ _ _ _ _ _)
      | (with_reducible exact ih1 _ _ _ _ _ _ _ _ _ _ _)
      | (with_reducible exact ih2 _ _ _ _ _ _ _ _ _ _ _ _)
      | (with_reducible exact ih3 _ _ _ _ _ _ _ _ _ _ _ _ _)
      | (with_reducible exact ih4 _ _ _ _ _ _ _ _ _ _ _ _ _)
      | (with_reducible exact ih5 _ _ _ _ _ _ _ _ _ _ _)
      | (with_reducible exact LeO.refl _)
      | (with_reducible exact LeO.none _)
      | (with_reducible refine LeO.ite ?_ ?_)
      | (with_reducible refine LeO.bind ?_ (fun _ => ?_))
      | exact ih0 _ _ _ _ _ _ _ _ _ _
      | exact ih1 _ _ _ _ _ _ _ _ _ _ _
      | exact ih2 _ _ _ _ _ _ _ _ _ _ _ _
      | exact ih3 _ _ _ _ _ _ _ _ _ _ _ _ _
      | exact ih4 _ _ _ _ _ _ _ _ _ _ _ _ _
      | exact ih5 _ _ _ _ _ _ _ _ _ _ _
      | exact LeO.none _
      | refine LeO.ite ?_ ?_
      | refine LeO.bind ?_ (fun _ => ?_)
    · intro y0 y1 y2 y3 y4 y5 y6 y7 y8 y9 y10
      unfold serinetteref19_All.l0
      repeat' first
      | (with_reducible exact ih0 _ _ _ _ _ _ _ _ _ _)
      | (with_reducible exact ih1 _ _ _ _ _ _ _ _ _ _ _)
      | (with_reducible exact ih2 _ _ _ _ _ _ _ _ _ _ _ _)
      | (with_reducible exact ih3 _ _ _ _ _ _ _ _ _ _ _ _ _)
      | (with_reducible exact ih4 _ _ _ _ _ _ _ _ _ _ _ _ _)
      | (with_reducible exact ih5 _ _ _ _ _ _ _ _ _ _ _)
      | (with_reducible exact LeO.refl _)
      | (with_reducible exact LeO.none _)
      | (with_reducible refine LeO.ite ?_ ?_)
      | (with_reducible refine LeO.bind ?_ (fun _ => ?_))
      | exact ih0 _ _ _ _ _ _ _ _ _ _
      | exact ih1 _ _ _ _ _ _ _ _ _ _ _
      | exact ih2 _ _ _ _ _ _ _ _ _ _ _ _
      | exact ih3 _ _ _ _ _ _ _ _ _ _ _ _ _
      | exact ih4 _ _ _ _ _ _ _ _ _ _ _ _ _
      | exact ih5 _ _ _ _ _ _ _ _ _ _ _
      | exact LeO.none _
      | refine LeO.ite ?_ ?_
      | refine LeO.bind ?_ (fun _ => ?_)
theorem serinetteref19_All.mono : ∀ a0 a1 a2 a3 a4 a5 a6 a7 a8 k, LeO (serinetteref19_All.f k a0 a1 a2 a3 a4 a5 a6 a7 a8) (serinetteref19_All.f (k + 1) a0 a1 a2 a3 a4 a5 a6 a7 a8) := by
  intro a0 a1 a2 a3 a4 a5 a6 a7 a8 k
  obtain ⟨ih0, ih1, ih2, ih3, ih4, ih5⟩ := serinetteref19_All.mono_l k
  unfold serinetteref19_All.f
  repeat' first
      | (with_reducible exact ih0 _ _ _ _ _ _ _ _ _ _)
      | (with_reducible exact ih1 _ _ _ _ _ _ _ _ _ _ _)
      | (with_reducible exact ih2 _ _ _ _ _ _ _ _ _ _ _ _)
      | (with_reducible exact ih3 _ _ _ _ _ _ _ _ _ _ _ _ _)
      | (with_reducible exact ih4 _ _ _ _ _ _ _ _ _ _ _ _ _)
      | (with_reducible exact ih5 _ _ _ _ _ _ _ _ _ _ _)
      | (with_reducible exact LeO.refl _)
      | (with_reducible exact LeO.none _)
      | (with_reducible refine LeO.ite ?_ ?_)
      | (with_reducible refine LeO.bind ?_ (fun _ => ?_))
      | exact ih0 _ _ _ _ _ _ _ _ _ _
      | exact ih1 _ _ _ _ _ _ _ _ _ _ _
      | exact ih2 _ _ _ _ _ _ _ _ _ _ _ _
      | exact ih3 _ _ _ _ _ _ _ _ _ _ _ _ _
      | exact ih4 _ _ _ _ _ _ _ _ _ _ _ _ _
      | exact ih5 _ _ _ _ _ _ _ _ _ _ _
      | exact LeO.none _
      | refine LeO.ite ?_ ?_
      | refine LeO.bind ?_ (fun _ => ?_)
def serinetteref19_All.T17 : Bool × List (List Nat × List Nat) := (true, [([], []), ([], []), ([], []), ([2], [2]), ([], []), ([3, 4], [3, 4]), ([5], [5]), ([], []), ([7], [7]), ([], []), ([8, 9], [8, 9]), ([10], [10]), ([1, 6, 11], [1, 6, 11]), ([12], [12]), ([0, 13], [0, 13]), ([14, 14, 0, 1, 2, 3, 4, 5, 6, 7, 8, 9, 10, 11, 12, 13, 14], [0, 14])])
def serinetteref19_All.B17 : List Nat := [0, 0, 0, 4, 0, 28, 60, 0, 128, 0, 896, 1920, 4094, 8190, 16383, 32767]
theorem serinetteref19_All.tab17 : rtab .any (opsOf Tryd.f15 17) = serinetteref19_All.T17 := by kernel_rfl
theorem serinetteref19_All.bits17 : waitsOk serinetteref19_All.T17.2 serinetteref19_All.B17 = true := by kernel_rfl
set_option maxHeartbeats 8000000 in
set_option maxRecDepth 100000 in
theorem serinetteref19_All.calls (k : Nat) (a0_0 : Int) (a0_1 : Bool) (a0_2 : Int) (a0_3 : Int) (A0_4 : Option Addr) (c0_4 : Nat) (l0_4 : List Int) (A0_5 : Option Addr) (c0_5 : Nat) (l0_5 : List Int) (a0_6 : Int) (a0_7 : Bool) (a1 : Int) (r : List (S35)) (w : World) (hr0_4 : Kd.C (Kd.int .i64) w A0_4 l0_4.length l0_4) (hc0_4 : l0_4.length ≤ c0_4) (hr0_5 : Kd.C (Kd.int .i64) w A0_5 l0_5.length l0_5) (hc0_5 : l0_5.length ≤ c0_5) (h : serinetteref19_All.f k a0_0 a0_1 a0_2 a0_3 l0_4 l0_5 a0_6 a0_7 a1 = some r) :
    Calls Tryd.prog 15 #[.agg #[.int .i64 a0_0, .bool a0_1, .int .i64 a0_2, .int .i64 a0_3, .slice A0_4 l0_4.length c0_4, .slice A0_5 l0_5.length c0_5, .int .i64 a0_6, .bool a0_7], .int .i64 a1] w fun e w' => ∃ v0_ : Value, e = .returned (v0_) ∧ Kd.R k35 35 w' w.heap.size (fun _ => True) v0_ r ∧ Below w.heap.size w w' := by
  have hu24 := Tryd.underlying24
  have hu35 := Tryd.underlying35
  have HR0_4 := Aside0.mk hr0_4
  have HC0_4 := Aside0.mk hc0_4
  clear hr0_4 hc0_4
  have HR0_5 := Aside0.mk hr0_5
  have HC0_5 := Aside0.mk hc0_5
  clear hr0_5 hc0_5
  have HB := Aside0.mk (Below.refl w.heap.size w)
  have H : (if a1 < 1 then (some ([] : List (S35))) else (serinetteref19_All.l0 k a1 (([(⟨0, 0, 0, 0⟩ : S35), (⟨1, 0, 0, 0⟩ : S35)] : List (S35))) 0 a0_0 a0_1 a0_2 a0_3 l0_4 l0_5 a0_6 a0_7)) = some r := h
  clear h
  by_cases c3 : a1 < 1
  · rw [if_pos c3] at H
    have c3b0 : decide (a1 < 1) = true := decide_eq_true c3
    clear c3
    obtain rfl := Option.some.inj H
    go_enter Tryd.func15, Tryd.ntmps15
    go_wp2_with (first | ((with_reducible refine gate_dst (N := 2) rfl ?_); refine box_event ?hg (N := 2) ?hd (cs := #[.int .i64 a0_0, .bool a0_1, .int .i64 a0_2, .int .i64 a0_3, .slice A0_4 l0_4.length c0_4, .slice A0_5 l0_5.length c0_5, .int .i64 a0_6, .bool a0_7]) (t := 24) ?hr ?_; (case hd => rfl); (case hg => rfl); (case hr => first | (go_simp; done) | (go_simp; rfl)); intro gb186 hg w4 hbox hb; have n0_ := Aside0.mk (below_step (by repeat (first | (with_reducible first | exact HB.out | apply below_alloc | apply pw_below_drewN | apply below_drew1) | exact HB.out)) hb); have n1_ := Aside0.mk (hbox); have n2_ := Aside0.mk ((by rw [hg]; exact (below_size (by repeat (first | (with_reducible first | exact HB.out | apply below_alloc | apply pw_below_drewN | apply below_drew1) | exact HB.out))) : w.heap.size ≤ gb186)); have n3_ := Aside0.mk ((by rw [hg]; exact (below_size (by repeat (first | (with_reducible first | exact HB.out | apply below_alloc | apply pw_below_drewN | apply below_drew1) | exact HB.out))) : w.heap.size ≤ gb186)); clear HB; have HB := n0_; have BK186 := n1_; have GW186 := n2_; have GE186 := n3_; clear n0_ n1_ n2_ n3_; clear hb hbox hg))
    go_ret
    exact ⟨_, by first | rfl | (simp [errW_none, errW_some] <;> rfl) | (simp [*, errW_none, errW_some] <;> rfl), by first | exact Kd.R_nil _ _ _ _ _ | exact Kd.N_nil _ _ _ _ _ | exact Kd.V_nil _ _ _ _ _ | exact Kd.Q_nil _ _ _ _ _ | exact Kd.S_nil _ _ _ _ _, by repeat (first | (with_reducible first | exact HB.out | apply below_alloc | apply pw_below_drewN | apply below_drew1 | refine below_set ?_ GE186.out) | exact HB.out)⟩
  · rw [if_neg c3] at H
    have c3b0 : decide (a1 < 1) = false := decide_eq_false c3
    clear c3
    obtain ⟨y187, hy187⟩ : ∃ y_ : List (S35), y_ = (([(⟨0, 0, 0, 0⟩ : S35), (⟨1, 0, 0, 0⟩ : S35)] : List (S35))) := ⟨_, rfl⟩
    replace H : (serinetteref19_All.l0 k a1 y187 0 a0_0 a0_1 a0_2 a0_3 l0_4 l0_5 a0_6 a0_7) = some r := by first | (rw [hy187]; with_reducible exact H) | (have H2_ := (Option.bind_some _ _).symm.trans H; rw [hy187]; with_reducible exact H2_) | (have H2_ := (Option.bind_some _ _).symm.trans H; with_reducible exact H2_) | with_reducible exact H | (rw [hy187]; exact H) | exact H
    have Ny187 := Aside0.mk hy187
    clear hy187
    have HC5 := Aside0.mk H
    clear H
    go_enter Tryd.func15, Tryd.ntmps15
    go_upto_block 0 with (first | ((with_reducible refine gate_dst (N := 2) rfl ?_); refine box_event ?hg (N := 2) ?hd (cs := #[.int .i64 a0_0, .bool a0_1, .int .i64 a0_2, .int .i64 a0_3, .slice A0_4 l0_4.length c0_4, .slice A0_5 l0_5.length c0_5, .int .i64 a0_6, .bool a0_7]) (t := 24) ?hr ?_; (case hd => rfl); (case hg => rfl); (case hr => first | (go_simp; done) | (go_simp; rfl)); intro gb186 hg w6 hbox hb; have n0_ := Aside0.mk (below_step (by repeat (first | (with_reducible first | exact HB.out | apply below_alloc | apply pw_below_drewN | apply below_drew1) | exact HB.out)) hb); have n1_ := Aside0.mk (hbox); have n2_ := Aside0.mk ((by rw [hg]; exact (below_size (by repeat (first | (with_reducible first | exact HB.out | apply below_alloc | apply pw_below_drewN | apply below_drew1) | exact HB.out))) : w.heap.size ≤ gb186)); have n3_ := Aside0.mk ((by rw [hg]; exact (below_size (by repeat (first | (with_reducible first | exact HB.out | apply below_alloc | apply pw_below_drewN | apply below_drew1) | exact HB.out))) : w.heap.size ≤ gb186)); clear HB; have HB := n0_; have BK186 := n1_; have GW186 := n2_; have GE186 := n3_; clear n0_ n1_ n2_ n3_; clear hb hbox hg) | ((with_reducible refine gate_dst (N := 14) rfl ?_); refine Kd.R_lit k35 _ 35 ?hg (N := 14) ?hd (xs := ([(⟨0, 0, 0, 0⟩ : S35), (⟨1, 0, 0, 0⟩ : S35)] : List (S35))) (inner := [.int .i64 0, .int .i64 0, .int .i64 0, .int .i64 0, .int .i64 1, .int .i64 0, .int .i64 0, .int .i64 0]) (ok := fun _ => True) (okp := fun _ => True) ?hr ?hp (fun _ hk => hk) trivial (Below.refl _ _) (Nat.le_refl _) (by simp) ?_; (case hd => rfl); (case hg => rfl); (case hr => first | (go_simp; done) | (go_simp; rfl)); (case hp => exact (Reps.c4 (show Kd.M k35 _ _ _ (⟨0, 0, 0, 0⟩ : S35) [.int .i64 0, .int .i64 0, .int .i64 0, .int .i64 0] from (k35_mkM _ _ _ (⟨0, 0, 0, 0⟩ : S35) )) (Reps.c4 (show Kd.M k35 _ _ _ (⟨1, 0, 0, 0⟩ : S35) [.int .i64 1, .int .i64 0, .int .i64 0, .int .i64 0] from (k35_mkM _ _ _ (⟨1, 0, 0, 0⟩ : S35) )) (Reps.none _ _)))); intro v188 w7 ho8 hb hg_ hnew_; clear hg_ hnew_; (first | rw [← Ny187.out] at ho8 | (simp only [Int.reduceToNat] at ho8; rw [← Ny187.out] at ho8)); have n0_ := Aside0.mk (Kd.R_lower ho8 (below_size (by repeat (first | (with_reducible first | exact HB.out | apply below_alloc | apply pw_below_drewN | apply below_drew1 | refine below_set ?_ GE186.out) | exact HB.out)))); have n1_ := Aside0.mk (blk_below (g := gb186) (o := .cells #[.int .i64 a0_0, .bool a0_1, .int .i64 a0_2, .int .i64 a0_3, .slice A0_4 l0_4.length c0_4, .slice A0_5 l0_5.length c0_5, .int .i64 a0_6, .bool a0_7] 24 (0, 0)) (by (with_reducible repeat (first | refine blk_drewN ?_ _ | refine blk_drew ?_ | refine blk_alloc ?_ _)); exact BK186.out) hb); have n2_ := Aside0.mk (below_step (by repeat (first | (with_reducible first | exact HB.out | apply below_alloc | apply pw_below_drewN | apply below_drew1 | refine below_set ?_ GE186.out) | exact HB.out)) hb); clear BK186; clear HB; have HO189 := n0_; have BK186 := n1_; have HB := n2_; clear n0_ n1_ n2_; clear hb ho8))
    (try simp only [Act.put, List.setIfInBounds_toArray, List.set_cons_zero, List.set_cons_succ])
    go_cut [5] (fun v5 wc => ∃ (kq : Nat) (x5_4 : List (S35)), Aside0 (serinetteref19_All.j1 kq a1 x5_4 a0_0 a0_1 a0_2 a0_3 l0_4 l0_5 a0_6 a0_7 = some r) ∧ Aside0 (kq ≤ k) ∧ Aside0 (Kd.R k35 35 wc w.heap.size (fun _ => True) v5 x5_4) ∧ Aside0 (wc.heap[gb186]? = some (.cells #[.int .i64 a0_0, .bool a0_1, .int .i64 a0_2, .int .i64 a0_3, (.slice A0_4 l0_4.length c0_4), (.slice A0_5 l0_5.length c0_5), .int .i64 a0_6, .bool a0_7] 24 (0, 0))) ∧ Aside0 (Below w.heap.size w wc))
    case first =>
      have H := HC5.out
      clear HC5
      have H' := Aside0.mk H
      clear H
      go_wp2
      go_loopg [5, 6] k (fun kq v5 v6 w' => ∃ (x5_1 : List (S35)) (x6_1 : Int), v6 = .int .i64 x6_1 ∧ Aside0 (serinetteref19_All.l0 kq a1 x5_1 x6_1 a0_0 a0_1 a0_2 a0_3 l0_4 l0_5 a0_6 a0_7 = some r) ∧ Aside0 (kq ≤ k) ∧ Aside0 (Kd.R k35 35 w' w.heap.size (fun _ => True) v5 x5_1) ∧ Aside0 (w'.heap[gb186]? = some (.cells #[.int .i64 a0_0, .bool a0_1, .int .i64 a0_2, .int .i64 a0_3, (.slice A0_4 l0_4.length c0_4), (.slice A0_5 l0_5.length c0_5), .int .i64 a0_6, .bool a0_7] 24 (0, 0))) ∧ Aside0 (Below w.heap.size w w'))
      case atStart => exact ⟨(y187), (0), (by first | rfl | (simp; done) | (simp [*]; done)), H', ⟨Nat.le_refl _⟩, ⟨by (with_reducible repeat (first | apply Kd.R_alloc | apply Kd.R_drewN | apply Kd.R_drew)); exact HO189.out⟩, ⟨by (with_reducible repeat (first | refine blk_drewN ?_ _ | refine blk_drew ?_ | refine blk_alloc ?_ _)); exact BK186.out⟩, ⟨by repeat (first | (with_reducible first | exact HB.out | apply below_alloc | apply pw_below_drewN | apply below_drew1 | refine below_set ?_ GE186.out) | exact HB.out)⟩⟩
      case round =>
        clear H'
        try clear c1
        try clear p2
        try clear c3
        try clear c3b0
        try clear c4
        obtain ⟨x5_1, x6_1, rfl, HA, HK1, HO_5, BK186, HB⟩ := hrel
        cases gk with
        | zero => exact absurd HA.out (by simp [serinetteref19_All.l0])
        | succ k1 =>
          have H := HA.out
          clear HA
          simp only [serinetteref19_All.l0] at H
          by_cases c9 : x6_1 ≤ a0_2
          · rw [if_pos c9] at H
            have c9b0 : decide (x6_1 ≤ a0_2) = true := decide_eq_true c9
            clear c9
            (first | rw [c9b0] | (simp only [i64_w, i32_w]; rw [c9b0]) | skip)
            by_cases c10 : x6_1 < a1
            · rw [if_pos c10] at H
              have c10b0 : decide (x6_1 < a1) = true := decide_eq_true c10
              clear c10
              by_cases c11 : x5_1.length < 4398046511104
              · rw [if_pos c11] at H
                have LMc11 := Aside0.mk c11
                clear c11
                obtain ⟨y190, hy190⟩ : ∃ y_ : List (S35), y_ = (x5_1 ++ [(⟨2, x6_1, 0, 0⟩ : S35)]) := ⟨_, rfl⟩
                replace H : (serinetteref19_All.l0 k1 a1 y190 (wrap64 (x6_1 + 1)) a0_0 a0_1 a0_2 a0_3 l0_4 l0_5 a0_6 a0_7) = some r := by first | (rw [hy190]; with_reducible exact H) | (have H2_ := (Option.bind_some _ _).symm.trans H; rw [hy190]; with_reducible exact H2_) | (have H2_ := (Option.bind_some _ _).symm.trans H; with_reducible exact H2_) | with_reducible exact H | (rw [hy190]; exact H) | exact H
                have Ny190 := Aside0.mk hy190
                clear hy190
                have H' := Aside0.mk H
                clear H
                have hcz12_0 : wr.cell? ⟨gb186, 0, none⟩ = some (.int .i64 a0_0) := (blk_cell BK186.out 0).trans rfl
                have hcz12_1 : wr.cell? ⟨gb186, 1, none⟩ = some (.bool a0_1) := (blk_cell BK186.out 1).trans rfl
                have hcz12_2 : wr.cell? ⟨gb186, 2, none⟩ = some (.int .i64 a0_2) := (blk_cell BK186.out 2).trans rfl
                have hcz12_3 : wr.cell? ⟨gb186, 3, none⟩ = some (.int .i64 a0_3) := (blk_cell BK186.out 3).trans rfl
                have hcz12_4 : wr.cell? ⟨gb186, 4, none⟩ = some (.slice A0_4 l0_4.length c0_4) := (blk_cell BK186.out 4).trans rfl
                have hcz12_5 : wr.cell? ⟨gb186, 5, none⟩ = some (.slice A0_5 l0_5.length c0_5) := (blk_cell BK186.out 5).trans rfl
                have hcz12_6 : wr.cell? ⟨gb186, 6, none⟩ = some (.int .i64 a0_6) := (blk_cell BK186.out 6).trans rfl
                have hcz12_7 : wr.cell? ⟨gb186, 7, none⟩ = some (.bool a0_7) := (blk_cell BK186.out 7).trans rfl
                have hfz12_0 := blk_frozen BK186.out 0
                have hfz12_1 := blk_frozen BK186.out 1
                have hfz12_2 := blk_frozen BK186.out 2
                have hfz12_3 := blk_frozen BK186.out 3
                have hfz12_4 := blk_frozen BK186.out 4
                have hfz12_5 := blk_frozen BK186.out 5
                have hfz12_6 := blk_frozen BK186.out 6
                have hfz12_7 := blk_frozen BK186.out 7
                go_wp2_with (first | ((with_reducible refine gate_builtin (b := .append) (xs := #[.tmp 26, .tmp 29]) rfl ?_); at_builtin; refine Kd.R_append k35 (w0 := w) w.heap.size rfl (.tmp 26) (.tmp 29) 32 35 (.agg #[(.int .i64 0), (.int .i64 0), (.int .i64 0), (.int .i64 0)]) 32 rfl Tryd.underlying32 info35 rfl (by decide) (by omega) u5 x5_1 (⟨2, x6_1, 0, 0⟩ : S35) [.int .i64 2, .int .i64 x6_1, .int .i64 0, .int .i64 0] (fun _ => True) (fun _ => False) rfl rfl ?aP (fun _ hk => hk.elim) ?aF ?aO ?aB ?aS ?aL ?_; (case aP => exact k35_mkM _ _ _ (⟨2, x6_1, 0, 0⟩ : S35)); (case aB => exact (by repeat (first | (with_reducible first | exact HB.out | apply below_alloc | apply pw_below_drewN | apply below_drew1 | refine below_set ?_ GE186.out) | exact HB.out))); (case aF => exact (fun _ _ => trivial)); (case aO => exact (by (with_reducible repeat (first | apply Kd.R_alloc | apply Kd.R_drewN | apply Kd.R_drew)); exact HO_5.out)); (case aS => exact (below_size (by repeat (first | (with_reducible first | exact HB.out | apply below_alloc | apply pw_below_drewN | apply below_drew1 | refine below_set ?_ GE186.out) | exact HB.out)))); (case aL => have := LMc11.out; omega); intro v191 w13 ho hb hg hat; rw [← Ny190.out] at ho; have n0_ := Aside0.mk (blk_grown (g := gb186) (o := .cells #[.int .i64 a0_0, .bool a0_1, .int .i64 a0_2, .int .i64 a0_3, .slice A0_4 l0_4.length c0_4, .slice A0_5 l0_5.length c0_5, .int .i64 a0_6, .bool a0_7] 24 (0, 0)) (by (with_reducible repeat (first | refine blk_drewN ?_ _ | refine blk_drew ?_ | refine blk_alloc ?_ _)); exact BK186.out) hg (Kd.R_ne HO_5.out BK186.out (by decide))); have n1_ := Aside0.mk (hb); have n2_ := Aside0.mk (ho); clear BK186; clear HB; clear HO_5; have BK186 := n0_; have HB := n1_; have HO192 := n2_; clear n0_ n1_ n2_; clear ho hb hg hat))
                go_roundg k1
                case measure => have := HK1.out; omega
                case rel => exact ⟨(y190), (wrap64 (x6_1 + 1)), (by first | rfl | (simp; done) | (simp [*]; done)), H', ⟨by have := HK1.out; omega⟩, ⟨by (with_reducible repeat (first | apply Kd.R_alloc | apply Kd.R_drewN | apply Kd.R_drew)); exact HO192.out⟩, ⟨by (with_reducible repeat (first | refine blk_drewN ?_ _ | refine blk_drew ?_ | refine blk_alloc ?_ _)); exact BK186.out⟩, ⟨by repeat (first | (with_reducible first | exact HB.out | apply below_alloc | apply pw_below_drewN | apply below_drew1 | refine below_set ?_ GE186.out) | exact HB.out)⟩⟩
              · rw [if_neg c11] at H
                exact absurd H (by simp)
            · rw [if_neg c10] at H
              have c10b0 : decide (x6_1 < a1) = false := decide_eq_false c10
              clear c10
              have H' := Aside0.mk H
              clear H
              have hcz14_0 : wr.cell? ⟨gb186, 0, none⟩ = some (.int .i64 a0_0) := (blk_cell BK186.out 0).trans rfl
              have hcz14_1 : wr.cell? ⟨gb186, 1, none⟩ = some (.bool a0_1) := (blk_cell BK186.out 1).trans rfl
              have hcz14_2 : wr.cell? ⟨gb186, 2, none⟩ = some (.int .i64 a0_2) := (blk_cell BK186.out 2).trans rfl
              have hcz14_3 : wr.cell? ⟨gb186, 3, none⟩ = some (.int .i64 a0_3) := (blk_cell BK186.out 3).trans rfl
              have hcz14_4 : wr.cell? ⟨gb186, 4, none⟩ = some (.slice A0_4 l0_4.length c0_4) := (blk_cell BK186.out 4).trans rfl
              have hcz14_5 : wr.cell? ⟨gb186, 5, none⟩ = some (.slice A0_5 l0_5.length c0_5) := (blk_cell BK186.out 5).trans rfl
              have hcz14_6 : wr.cell? ⟨gb186, 6, none⟩ = some (.int .i64 a0_6) := (blk_cell BK186.out 6).trans rfl
              have hcz14_7 : wr.cell? ⟨gb186, 7, none⟩ = some (.bool a0_7) := (blk_cell BK186.out 7).trans rfl
              have hfz14_0 := blk_frozen BK186.out 0
              have hfz14_1 := blk_frozen BK186.out 1
              have hfz14_2 := blk_frozen BK186.out 2
              have hfz14_3 := blk_frozen BK186.out 3
              have hfz14_4 := blk_frozen BK186.out 4
              have hfz14_5 := blk_frozen BK186.out 5
              have hfz14_6 := blk_frozen BK186.out 6
              have hfz14_7 := blk_frozen BK186.out 7
              go_wp2
              go_meet
              case rel => exact ⟨_, (x5_1), H', ⟨by have := HK1.out; first | omega | exact Nat.le_refl _⟩, ⟨by (with_reducible repeat (first | apply Kd.R_alloc | apply Kd.R_drewN | apply Kd.R_drew)); exact HO_5.out⟩, ⟨by (with_reducible repeat (first | refine blk_drewN ?_ _ | refine blk_drew ?_ | refine blk_alloc ?_ _)); exact BK186.out⟩, ⟨by repeat (first | (with_reducible first | exact HB.out | apply below_alloc | apply pw_below_drewN | apply below_drew1 | refine below_set ?_ GE186.out) | exact HB.out)⟩⟩
          · rw [if_neg c9] at H
            have c9b0 : decide (x6_1 ≤ a0_2) = false := decide_eq_false c9
            clear c9
            (first | rw [c9b0] | (simp only [i64_w, i32_w]; rw [c9b0]) | skip)
            have H' := Aside0.mk H
            clear H
            have hcz15_0 : wr.cell? ⟨gb186, 0, none⟩ = some (.int .i64 a0_0) := (blk_cell BK186.out 0).trans rfl
            have hcz15_1 : wr.cell? ⟨gb186, 1, none⟩ = some (.bool a0_1) := (blk_cell BK186.out 1).trans rfl
            have hcz15_2 : wr.cell? ⟨gb186, 2, none⟩ = some (.int .i64 a0_2) := (blk_cell BK186.out 2).trans rfl
            have hcz15_3 : wr.cell? ⟨gb186, 3, none⟩ = some (.int .i64 a0_3) := (blk_cell BK186.out 3).trans rfl
            have hcz15_4 : wr.cell? ⟨gb186, 4, none⟩ = some (.slice A0_4 l0_4.length c0_4) := (blk_cell BK186.out 4).trans rfl
            have hcz15_5 : wr.cell? ⟨gb186, 5, none⟩ = some (.slice A0_5 l0_5.length c0_5) := (blk_cell BK186.out 5).trans rfl
            have hcz15_6 : wr.cell? ⟨gb186, 6, none⟩ = some (.int .i64 a0_6) := (blk_cell BK186.out 6).trans rfl
            have hcz15_7 : wr.cell? ⟨gb186, 7, none⟩ = some (.bool a0_7) := (blk_cell BK186.out 7).trans rfl
            have hfz15_0 := blk_frozen BK186.out 0
            have hfz15_1 := blk_frozen BK186.out 1
            have hfz15_2 := blk_frozen BK186.out 2
            have hfz15_3 := blk_frozen BK186.out 3
            have hfz15_4 := blk_frozen BK186.out 4
            have hfz15_5 := blk_frozen BK186.out 5
            have hfz15_6 := blk_frozen BK186.out 6
            have hfz15_7 := blk_frozen BK186.out 7
            go_wp2
            go_meet
            case rel => exact ⟨_, (x5_1), H', ⟨by have := HK1.out; first | omega | exact Nat.le_refl _⟩, ⟨by (with_reducible repeat (first | apply Kd.R_alloc | apply Kd.R_drewN | apply Kd.R_drew)); exact HO_5.out⟩, ⟨by (with_reducible repeat (first | refine blk_drewN ?_ _ | refine blk_drew ?_ | refine blk_alloc ?_ _)); exact BK186.out⟩, ⟨by repeat (first | (with_reducible first | exact HB.out | apply below_alloc | apply pw_below_drewN | apply below_drew1 | refine below_set ?_ GE186.out) | exact HB.out)⟩⟩
    case rest =>
      clear HC5
      try clear c1
      try clear p2
      try clear c3
      try clear c3b0
      try clear c4
      try clear p6
      try clear c9
      try clear c9b0
      try clear c10
      try clear c10b0
      try clear c11
      try clear c15
      try clear hcz12_0
      try clear hcz12_1
      try clear hcz12_2
      try clear hcz12_3
      try clear hcz12_4
      try clear hcz12_5
      try clear hcz12_6
      try clear hcz12_7
      try clear hcz14_0
      try clear hcz14_1
      try clear hcz14_2
      try clear hcz14_3
      try clear hcz14_4
      try clear hcz14_5
      try clear hcz14_6
      try clear hcz14_7
      try clear hcz15_0
      try clear hcz15_1
      try clear hcz15_2
      try clear hcz15_3
      try clear hcz15_4
      try clear hcz15_5
      try clear hcz15_6
      try clear hcz15_7
      try clear hfz12_0
      try clear hfz12_1
      try clear hfz12_2
      try clear hfz12_3
      try clear hfz12_4
      try clear hfz12_5
      try clear hfz12_6
      try clear hfz12_7
      try clear hfz14_0
      try clear hfz14_1
      try clear hfz14_2
      try clear hfz14_3
      try clear hfz14_4
      try clear hfz14_5
      try clear hfz14_6
      try clear hfz14_7
      try clear hfz15_0
      try clear hfz15_1
      try clear hfz15_2
      try clear hfz15_3
      try clear hfz15_4
      try clear hfz15_5
      try clear hfz15_6
      try clear hfz15_7
      try clear p2
      obtain ⟨kq, x5_4, HA, HJ4, HO_5, BK186, HB⟩ := hcut
      cases kq with
      | zero => exact absurd HA.out (by simp [serinetteref19_All.j1])
      | succ kj4 =>
        have H := HA.out
        clear HA
        simp only [serinetteref19_All.j1] at H
        have H' := Aside0.mk H
        clear H
        go_wp2
        go_loopg [5, 7] kj4 (fun kq v5 v7 w' => ∃ (x5_2 : List (S35)) (x7_2 : Int), v7 = .int .i64 x7_2 ∧ Aside0 (serinetteref19_All.l1 kq a1 x5_2 x7_2 a0_0 a0_1 a0_2 a0_3 l0_4 l0_5 a0_6 a0_7 = some r) ∧ Aside0 (kq ≤ kj4) ∧ Aside0 (Kd.R k35 35 w' w.heap.size (fun _ => True) v5 x5_2) ∧ Aside0 (w'.heap[gb186]? = some (.cells #[.int .i64 a0_0, .bool a0_1, .int .i64 a0_2, .int .i64 a0_3, (.slice A0_4 l0_4.length c0_4), (.slice A0_5 l0_5.length c0_5), .int .i64 a0_6, .bool a0_7] 24 (0, 0))) ∧ Aside0 (Below w.heap.size w w'))
        case atStart => exact ⟨(x5_4), (0), (by first | rfl | (simp; done) | (simp [*]; done)), H', ⟨Nat.le_refl _⟩, ⟨by (with_reducible repeat (first | apply Kd.R_alloc | apply Kd.R_drewN | apply Kd.R_drew)); exact HO_5.out⟩, ⟨by (with_reducible repeat (first | refine blk_drewN ?_ _ | refine blk_drew ?_ | refine blk_alloc ?_ _)); exact BK186.out⟩, ⟨by repeat (first | (with_reducible first | exact HB.out | apply below_alloc | apply pw_below_drewN | apply below_drew1 | refine below_set ?_ GE186.out) | exact HB.out)⟩⟩
        case round =>
          clear H'
          try clear c1
          try clear p2
          try clear c3
          try clear c3b0
          try clear c4
          try clear p6
          try clear c9
          try clear c9b0
          try clear c10
          try clear c10b0
          try clear c11
          try clear c15
          try clear hcz12_0
          try clear hcz12_1
          try clear hcz12_2
          try clear hcz12_3
          try clear hcz12_4
          try clear hcz12_5
          try clear hcz12_6
          try clear hcz12_7
          try clear hcz14_0
          try clear hcz14_1
          try clear hcz14_2
          try clear hcz14_3
          try clear hcz14_4
          try clear hcz14_5
          try clear hcz14_6
          try clear hcz14_7
          try clear hcz15_0
          try clear hcz15_1
          try clear hcz15_2
          try clear hcz15_3
          try clear hcz15_4
          try clear hcz15_5
          try clear hcz15_6
          try clear hcz15_7
          try clear hfz12_0
          try clear hfz12_1
          try clear hfz12_2
          try clear hfz12_3
          try clear hfz12_4
          try clear hfz12_5
          try clear hfz12_6
          try clear hfz12_7
          try clear hfz14_0
          try clear hfz14_1
          try clear hfz14_2
          try clear hfz14_3
          try clear hfz14_4
          try clear hfz14_5
          try clear hfz14_6
          try clear hfz14_7
          try clear hfz15_0
          try clear hfz15_1
          try clear hfz15_2
          try clear hfz15_3
          try clear hfz15_4
          try clear hfz15_5
          try clear hfz15_6
          try clear hfz15_7
          try clear p2
          try clear p6
          obtain ⟨x5_2, x7_2, rfl, HA, HK2, HO_5, BK186, HB⟩ := hrel
          cases gk with
          | zero => exact absurd HA.out (by simp [serinetteref19_All.l1])
          | succ k2 =>
            have H := HA.out
            clear HA
            simp only [serinetteref19_All.l1] at H
            by_cases c16 : x7_2 < (l0_5.length : Int)
            · rw [if_pos c16] at H
              have c16b0 : decide (x7_2 < (l0_5.length : Int)) = true := decide_eq_true c16
              clear c16
              have H' := Aside0.mk H
              clear H
              have hcz17_0 : wr.cell? ⟨gb186, 0, none⟩ = some (.int .i64 a0_0) := (blk_cell BK186.out 0).trans rfl
              have hcz17_1 : wr.cell? ⟨gb186, 1, none⟩ = some (.bool a0_1) := (blk_cell BK186.out 1).trans rfl
              have hcz17_2 : wr.cell? ⟨gb186, 2, none⟩ = some (.int .i64 a0_2) := (blk_cell BK186.out 2).trans rfl
              have hcz17_3 : wr.cell? ⟨gb186, 3, none⟩ = some (.int .i64 a0_3) := (blk_cell BK186.out 3).trans rfl
              have hcz17_4 : wr.cell? ⟨gb186, 4, none⟩ = some (.slice A0_4 l0_4.length c0_4) := (blk_cell BK186.out 4).trans rfl
              have hcz17_5 : wr.cell? ⟨gb186, 5, none⟩ = some (.slice A0_5 l0_5.length c0_5) := (blk_cell BK186.out 5).trans rfl
              have hcz17_6 : wr.cell? ⟨gb186, 6, none⟩ = some (.int .i64 a0_6) := (blk_cell BK186.out 6).trans rfl
              have hcz17_7 : wr.cell? ⟨gb186, 7, none⟩ = some (.bool a0_7) := (blk_cell BK186.out 7).trans rfl
              have hfz17_0 := blk_frozen BK186.out 0
              have hfz17_1 := blk_frozen BK186.out 1
              have hfz17_2 := blk_frozen BK186.out 2
              have hfz17_3 := blk_frozen BK186.out 3
              have hfz17_4 := blk_frozen BK186.out 4
              have hfz17_5 := blk_frozen BK186.out 5
              have hfz17_6 := blk_frozen BK186.out 6
              have hfz17_7 := blk_frozen BK186.out 7
              go_wp2
              go_loopg [5, 8] k2 (fun kq v5 v8 w' => ∃ (x5_3 : List (S35)) (x8_3 : Int), v8 = .int .i64 x8_3 ∧ Aside0 (serinetteref19_All.l2 kq a1 x5_3 x7_2 x8_3 a0_0 a0_1 a0_2 a0_3 l0_4 l0_5 a0_6 a0_7 = some r) ∧ Aside0 (kq ≤ k2) ∧ Aside0 (Kd.R k35 35 w' w.heap.size (fun _ => True) v5 x5_3) ∧ Aside0 (w'.heap[gb186]? = some (.cells #[.int .i64 a0_0, .bool a0_1, .int .i64 a0_2, .int .i64 a0_3, (.slice A0_4 l0_4.length c0_4), (.slice A0_5 l0_5.length c0_5), .int .i64 a0_6, .bool a0_7] 24 (0, 0))) ∧ Aside0 (Below w.heap.size w w'))
              case atStart => exact ⟨(x5_2), (1), (by first | rfl | (simp; done) | (simp [*]; done)), H', ⟨Nat.le_refl _⟩, ⟨by (with_reducible repeat (first | apply Kd.R_alloc | apply Kd.R_drewN | apply Kd.R_drew)); exact HO_5.out⟩, ⟨by (with_reducible repeat (first | refine blk_drewN ?_ _ | refine blk_drew ?_ | refine blk_alloc ?_ _)); exact BK186.out⟩, ⟨by repeat (first | (with_reducible first | exact HB.out | apply below_alloc | apply pw_below_drewN | apply below_drew1 | refine below_set ?_ GE186.out) | exact HB.out)⟩⟩
              case round =>
                clear H'
                try clear c1
                try clear p2
                try clear c3
                try clear c3b0
                try clear c4
                try clear p6
                try clear c9
                try clear c9b0
                try clear c10
                try clear c10b0
                try clear c11
                try clear c15
                try clear c16
                try clear c16b0
                try clear hcz12_0
                try clear hcz12_1
                try clear hcz12_2
                try clear hcz12_3
                try clear hcz12_4
                try clear hcz12_5
                try clear hcz12_6
                try clear hcz12_7
                try clear hcz14_0
                try clear hcz14_1
                try clear hcz14_2
                try clear hcz14_3
                try clear hcz14_4
                try clear hcz14_5
                try clear hcz14_6
                try clear hcz14_7
                try clear hcz15_0
                try clear hcz15_1
                try clear hcz15_2
                try clear hcz15_3
                try clear hcz15_4
                try clear hcz15_5
                try clear hcz15_6
                try clear hcz15_7
                try clear hcz17_0
                try clear hcz17_1
                try clear hcz17_2
                try clear hcz17_3
                try clear hcz17_4
                try clear hcz17_5
                try clear hcz17_6
                try clear hcz17_7
                try clear hfz12_0
                try clear hfz12_1
                try clear hfz12_2
                try clear hfz12_3
                try clear hfz12_4
                try clear hfz12_5
                try clear hfz12_6
                try clear hfz12_7
                try clear hfz14_0
                try clear hfz14_1
                try clear hfz14_2
                try clear hfz14_3
                try clear hfz14_4
                try clear hfz14_5
                try clear hfz14_6
                try clear hfz14_7
                try clear hfz15_0
                try clear hfz15_1
                try clear hfz15_2
                try clear hfz15_3
                try clear hfz15_4
                try clear hfz15_5
                try clear hfz15_6
                try clear hfz15_7
                try clear hfz17_0
                try clear hfz17_1
                try clear hfz17_2
                try clear hfz17_3
                try clear hfz17_4
                try clear hfz17_5
                try clear hfz17_6
                try clear hfz17_7
                try clear p2
                try clear p6
                obtain ⟨x5_3, x8_3, rfl, HA, HK3, HO_5, BK186, HB⟩ := hrel
                cases gk with
                | zero => exact absurd HA.out (by simp [serinetteref19_All.l2])
                | succ k3 =>
                  have H := HA.out
                  clear HA
                  simp only [serinetteref19_All.l2] at H
                  have HC18 := Aside0.mk H
                  clear H
                  go_upto_region 12 with (fail)
                  go_cut [46] (fun v46 wc => ∃ (kq : Nat) (x46_17 : Bool), v46 = .bool x46_17 ∧ Aside0 (serinetteref19_All.j4 kq a1 x5_3 x7_2 x8_3 x46_17 a0_0 a0_1 a0_2 a0_3 l0_4 l0_5 a0_6 a0_7 = some r) ∧ Aside0 (kq ≤ k3) ∧ Aside0 (Kd.R k35 35 wc w.heap.size (fun _ => True) u5 x5_3) ∧ Aside0 (wc.heap[gb186]? = some (.cells #[.int .i64 a0_0, .bool a0_1, .int .i64 a0_2, .int .i64 a0_3, (.slice A0_4 l0_4.length c0_4), (.slice A0_5 l0_5.length c0_5), .int .i64 a0_6, .bool a0_7] 24 (0, 0))) ∧ Aside0 (Below w.heap.size w wc))
                  case first =>
                    have H := HC18.out
                    clear HC18
                    by_cases c19 : x8_3 ≤ a0_3
                    · rw [if_pos c19] at H
                      have c19b0 : decide (x8_3 ≤ a0_3) = true := decide_eq_true c19
                      clear c19
                      (first | rw [c19b0] | (simp only [i64_w, i32_w]; rw [c19b0]) | skip)
                      have H' := Aside0.mk H
                      clear H
                      have hcz20_0 : wr.cell? ⟨gb186, 0, none⟩ = some (.int .i64 a0_0) := (blk_cell BK186.out 0).trans rfl
                      have hcz20_1 : wr.cell? ⟨gb186, 1, none⟩ = some (.bool a0_1) := (blk_cell BK186.out 1).trans rfl
                      have hcz20_2 : wr.cell? ⟨gb186, 2, none⟩ = some (.int .i64 a0_2) := (blk_cell BK186.out 2).trans rfl
                      have hcz20_3 : wr.cell? ⟨gb186, 3, none⟩ = some (.int .i64 a0_3) := (blk_cell BK186.out 3).trans rfl
                      have hcz20_4 : wr.cell? ⟨gb186, 4, none⟩ = some (.slice A0_4 l0_4.length c0_4) := (blk_cell BK186.out 4).trans rfl
                      have hcz20_5 : wr.cell? ⟨gb186, 5, none⟩ = some (.slice A0_5 l0_5.length c0_5) := (blk_cell BK186.out 5).trans rfl
                      have hcz20_6 : wr.cell? ⟨gb186, 6, none⟩ = some (.int .i64 a0_6) := (blk_cell BK186.out 6).trans rfl
                      have hcz20_7 : wr.cell? ⟨gb186, 7, none⟩ = some (.bool a0_7) := (blk_cell BK186.out 7).trans rfl
                      have hfz20_0 := blk_frozen BK186.out 0
                      have hfz20_1 := blk_frozen BK186.out 1
                      have hfz20_2 := blk_frozen BK186.out 2
                      have hfz20_3 := blk_frozen BK186.out 3
                      have hfz20_4 := blk_frozen BK186.out 4
                      have hfz20_5 := blk_frozen BK186.out 5
                      have hfz20_6 := blk_frozen BK186.out 6
                      have hfz20_7 := blk_frozen BK186.out 7
                      go_wp2
                      go_meet
                      case rel => exact ⟨_, (decide (x8_3 < a1)), (by first | rfl | (simp; done) | (simp [*]; done)), H', ⟨by have := HJ4.out; have := HK2.out; have := HK3.out; first | omega | exact Nat.le_refl _⟩, ⟨by (with_reducible repeat (first | apply Kd.R_alloc | apply Kd.R_drewN | apply Kd.R_drew)); exact HO_5.out⟩, ⟨by (with_reducible repeat (first | refine blk_drewN ?_ _ | refine blk_drew ?_ | refine blk_alloc ?_ _)); exact BK186.out⟩, ⟨by repeat (first | (with_reducible first | exact HB.out | apply below_alloc | apply pw_below_drewN | apply below_drew1 | refine below_set ?_ GE186.out) | exact HB.out)⟩⟩
                    · rw [if_neg c19] at H
                      have c19b0 : decide (x8_3 ≤ a0_3) = false := decide_eq_false c19
                      clear c19
                      (first | rw [c19b0] | (simp only [i64_w, i32_w]; rw [c19b0]) | skip)
                      have H' := Aside0.mk H
                      clear H
                      have hcz21_0 : wr.cell? ⟨gb186, 0, none⟩ = some (.int .i64 a0_0) := (blk_cell BK186.out 0).trans rfl
                      have hcz21_1 : wr.cell? ⟨gb186, 1, none⟩ = some (.bool a0_1) := (blk_cell BK186.out 1).trans rfl
                      have hcz21_2 : wr.cell? ⟨gb186, 2, none⟩ = some (.int .i64 a0_2) := (blk_cell BK186.out 2).trans rfl
                      have hcz21_3 : wr.cell? ⟨gb186, 3, none⟩ = some (.int .i64 a0_3) := (blk_cell BK186.out 3).trans rfl
                      have hcz21_4 : wr.cell? ⟨gb186, 4, none⟩ = some (.slice A0_4 l0_4.length c0_4) := (blk_cell BK186.out 4).trans rfl
                      have hcz21_5 : wr.cell? ⟨gb186, 5, none⟩ = some (.slice A0_5 l0_5.length c0_5) := (blk_cell BK186.out 5).trans rfl
                      have hcz21_6 : wr.cell? ⟨gb186, 6, none⟩ = some (.int .i64 a0_6) := (blk_cell BK186.out 6).trans rfl
                      have hcz21_7 : wr.cell? ⟨gb186, 7, none⟩ = some (.bool a0_7) := (blk_cell BK186.out 7).trans rfl
                      have hfz21_0 := blk_frozen BK186.out 0
                      have hfz21_1 := blk_frozen BK186.out 1
                      have hfz21_2 := blk_frozen BK186.out 2
                      have hfz21_3 := blk_frozen BK186.out 3
                      have hfz21_4 := blk_frozen BK186.out 4
                      have hfz21_5 := blk_frozen BK186.out 5
                      have hfz21_6 := blk_frozen BK186.out 6
                      have hfz21_7 := blk_frozen BK186.out 7
                      go_wp2
                      go_meet
                      case rel => exact ⟨_, (false), (by first | rfl | (simp; done) | (simp [*]; done)), H', ⟨by have := HJ4.out; have := HK2.out; have := HK3.out; first | omega | exact Nat.le_refl _⟩, ⟨by (with_reducible repeat (first | apply Kd.R_alloc | apply Kd.R_drewN | apply Kd.R_drew)); exact HO_5.out⟩, ⟨by (with_reducible repeat (first | refine blk_drewN ?_ _ | refine blk_drew ?_ | refine blk_alloc ?_ _)); exact BK186.out⟩, ⟨by repeat (first | (with_reducible first | exact HB.out | apply below_alloc | apply pw_below_drewN | apply below_drew1 | refine below_set ?_ GE186.out) | exact HB.out)⟩⟩
                  case rest =>
                    clear HC18
                    try clear c1
                    try clear p2
                    try clear c3
                    try clear c3b0
                    try clear c4
                    try clear p6
                    try clear c9
                    try clear c9b0
                    try clear c10
                    try clear c10b0
                    try clear c11
                    try clear c15
                    try clear c16
                    try clear c16b0
                    try clear c19
                    try clear c19b0
                    try clear hcz12_0
                    try clear hcz12_1
                    try clear hcz12_2
                    try clear hcz12_3
                    try clear hcz12_4
                    try clear hcz12_5
                    try clear hcz12_6
                    try clear hcz12_7
                    try clear hcz14_0
                    try clear hcz14_1
                    try clear hcz14_2
                    try clear hcz14_3
                    try clear hcz14_4
                    try clear hcz14_5
                    try clear hcz14_6
                    try clear hcz14_7
                    try clear hcz15_0
                    try clear hcz15_1
                    try clear hcz15_2
                    try clear hcz15_3
                    try clear hcz15_4
                    try clear hcz15_5
                    try clear hcz15_6
                    try clear hcz15_7
                    try clear hcz17_0
                    try clear hcz17_1
                    try clear hcz17_2
                    try clear hcz17_3
                    try clear hcz17_4
                    try clear hcz17_5
                    try clear hcz17_6
                    try clear hcz17_7
                    try clear hcz20_0
                    try clear hcz20_1
                    try clear hcz20_2
                    try clear hcz20_3
                    try clear hcz20_4
                    try clear hcz20_5
                    try clear hcz20_6
                    try clear hcz20_7
                    try clear hcz21_0
                    try clear hcz21_1
                    try clear hcz21_2
                    try clear hcz21_3
                    try clear hcz21_4
                    try clear hcz21_5
                    try clear hcz21_6
                    try clear hcz21_7
                    try clear hfz12_0
                    try clear hfz12_1
                    try clear hfz12_2
                    try clear hfz12_3
                    try clear hfz12_4
                    try clear hfz12_5
                    try clear hfz12_6
                    try clear hfz12_7
                    try clear hfz14_0
                    try clear hfz14_1
                    try clear hfz14_2
                    try clear hfz14_3
                    try clear hfz14_4
                    try clear hfz14_5
                    try clear hfz14_6
                    try clear hfz14_7
                    try clear hfz15_0
                    try clear hfz15_1
                    try clear hfz15_2
                    try clear hfz15_3
                    try clear hfz15_4
                    try clear hfz15_5
                    try clear hfz15_6
                    try clear hfz15_7
                    try clear hfz17_0
                    try clear hfz17_1
                    try clear hfz17_2
                    try clear hfz17_3
                    try clear hfz17_4
                    try clear hfz17_5
                    try clear hfz17_6
                    try clear hfz17_7
                    try clear hfz20_0
                    try clear hfz20_1
                    try clear hfz20_2
                    try clear hfz20_3
                    try clear hfz20_4
                    try clear hfz20_5
                    try clear hfz20_6
                    try clear hfz20_7
                    try clear hfz21_0
                    try clear hfz21_1
                    try clear hfz21_2
                    try clear hfz21_3
                    try clear hfz21_4
                    try clear hfz21_5
                    try clear hfz21_6
                    try clear hfz21_7
                    try clear p2
                    try clear p6
                    obtain ⟨kq, x46_17, rfl, HA, HJ17, HO_5, BK186, HB⟩ := hcut
                    cases kq with
                    | zero => exact absurd HA.out (by simp [serinetteref19_All.j4])
                    | succ kj17 =>
                      have H := HA.out
                      clear HA
                      simp only [serinetteref19_All.j4] at H
                      by_cases c22 : x46_17 = true
                      · subst c22
                        have H1 : (serinetteref19_All.l3 kj17 a1 x5_3 x7_2 x8_3 0 a0_0 a0_1 a0_2 a0_3 l0_4 l0_5 a0_6 a0_7) = some r := by rw [if_pos rfl] at H; exact H
                        clear H
                        have H := H1
                        clear H1
                        have H' := Aside0.mk H
                        clear H
                        go_wp2
                        go_loopg [5, 9] kj17 (fun kq v5 v9 w' => ∃ (x5_5 : List (S35)) (x9_5 : Int), v9 = .int .i64 x9_5 ∧ Aside0 (serinetteref19_All.l3 kq a1 x5_5 x7_2 x8_3 x9_5 a0_0 a0_1 a0_2 a0_3 l0_4 l0_5 a0_6 a0_7 = some r) ∧ Aside0 (kq ≤ kj17) ∧ Aside0 (Kd.R k35 35 w' w.heap.size (fun _ => True) v5 x5_5) ∧ Aside0 (w'.heap[gb186]? = some (.cells #[.int .i64 a0_0, .bool a0_1, .int .i64 a0_2, .int .i64 a0_3, (.slice A0_4 l0_4.length c0_4), (.slice A0_5 l0_5.length c0_5), .int .i64 a0_6, .bool a0_7] 24 (0, 0))) ∧ Aside0 (Below w.heap.size w w'))
                        case atStart => exact ⟨(x5_3), (0), (by first | rfl | (simp; done) | (simp [*]; done)), H', ⟨Nat.le_refl _⟩, ⟨by (with_reducible repeat (first | apply Kd.R_alloc | apply Kd.R_drewN | apply Kd.R_drew)); exact HO_5.out⟩, ⟨by (with_reducible repeat (first | refine blk_drewN ?_ _ | refine blk_drew ?_ | refine blk_alloc ?_ _)); exact BK186.out⟩, ⟨by repeat (first | (with_reducible first | exact HB.out | apply below_alloc | apply pw_below_drewN | apply below_drew1 | refine below_set ?_ GE186.out) | exact HB.out)⟩⟩
                        case round =>
                          clear H'
                          try clear c1
                          try clear c2
                          try clear p2
                          try clear c3
                          try clear c3b0
                          try clear c4
                          try clear p6
                          try clear c9
                          try clear c9b0
                          try clear c10
                          try clear c10b0
                          try clear c11
                          try clear c15
                          try clear c16
                          try clear c16b0
                          try clear c19
                          try clear c19b0
                          try clear c22
                          try clear hcz12_0
                          try clear hcz12_1
                          try clear hcz12_2
                          try clear hcz12_3
                          try clear hcz12_4
                          try clear hcz12_5
                          try clear hcz12_6
                          try clear hcz12_7
                          try clear hcz14_0
                          try clear hcz14_1
                          try clear hcz14_2
                          try clear hcz14_3
                          try clear hcz14_4
                          try clear hcz14_5
                          try clear hcz14_6
                          try clear hcz14_7
                          try clear hcz15_0
                          try clear hcz15_1
                          try clear hcz15_2
                          try clear hcz15_3
                          try clear hcz15_4
                          try clear hcz15_5
                          try clear hcz15_6
                          try clear hcz15_7
                          try clear hcz17_0
                          try clear hcz17_1
                          try clear hcz17_2
                          try clear hcz17_3
                          try clear hcz17_4
                          try clear hcz17_5
                          try clear hcz17_6
                          try clear hcz17_7
                          try clear hcz20_0
                          try clear hcz20_1
                          try clear hcz20_2
                          try clear hcz20_3
                          try clear hcz20_4
                          try clear hcz20_5
                          try clear hcz20_6
                          try clear hcz20_7
                          try clear hcz21_0
                          try clear hcz21_1
                          try clear hcz21_2
                          try clear hcz21_3
                          try clear hcz21_4
                          try clear hcz21_5
                          try clear hcz21_6
                          try clear hcz21_7
                          try clear hfz12_0
                          try clear hfz12_1
                          try clear hfz12_2
                          try clear hfz12_3
                          try clear hfz12_4
                          try clear hfz12_5
                          try clear hfz12_6
                          try clear hfz12_7
                          try clear hfz14_0
                          try clear hfz14_1
                          try clear hfz14_2
                          try clear hfz14_3
                          try clear hfz14_4
                          try clear hfz14_5
                          try clear hfz14_6
                          try clear hfz14_7
                          try clear hfz15_0
                          try clear hfz15_1
                          try clear hfz15_2
                          try clear hfz15_3
                          try clear hfz15_4
                          try clear hfz15_5
                          try clear hfz15_6
                          try clear hfz15_7
                          try clear hfz17_0
                          try clear hfz17_1
                          try clear hfz17_2
                          try clear hfz17_3
                          try clear hfz17_4
                          try clear hfz17_5
                          try clear hfz17_6
                          try clear hfz17_7
                          try clear hfz20_0
                          try clear hfz20_1
                          try clear hfz20_2
                          try clear hfz20_3
                          try clear hfz20_4
                          try clear hfz20_5
                          try clear hfz20_6
                          try clear hfz20_7
                          try clear hfz21_0
                          try clear hfz21_1
                          try clear hfz21_2
                          try clear hfz21_3
                          try clear hfz21_4
                          try clear hfz21_5
                          try clear hfz21_6
                          try clear hfz21_7
                          try clear p2
                          try clear p6
                          obtain ⟨x5_5, x9_5, rfl, HA, HK5, HO_5, BK186, HB⟩ := hrel
                          cases gk with
                          | zero => exact absurd HA.out (by simp [serinetteref19_All.l3])
                          | succ k5 =>
                            have H := HA.out
                            clear HA
                            simp only [serinetteref19_All.l3] at H
                            by_cases c23 : x9_5 < (l0_4.length : Int)
                            · rw [if_pos c23] at H
                              have c23b0 : decide (x9_5 < (l0_4.length : Int)) = true := decide_eq_true c23
                              clear c23
                              by_cases c24 : 0 ≤ x7_2
                              · rw [if_pos c24] at H
                                have c24b0 : decide (0 ≤ x7_2) = true := decide_eq_true c24
                                clear c24
                                by_cases c25 : x7_2 < (l0_5.length : Int)
                                · rw [if_pos c25] at H
                                  have c25b0 : decide (x7_2 < (l0_5.length : Int)) = true := decide_eq_true c25
                                  clear c25
                                  by_cases c26 : 0 ≤ x9_5
                                  · rw [if_pos c26] at H
                                    have c26b0 : decide (0 ≤ x9_5) = true := decide_eq_true c26
                                    clear c26
                                    by_cases c27 : x5_5.length < 4398046511104
                                    · rw [if_pos c27] at H
                                      have LMc27 := Aside0.mk c27
                                      clear c27
                                      obtain ⟨y195, hy195⟩ : ∃ y_ : List (S35), y_ = (x5_5 ++ [(⟨3, x8_3, rd l0_5 x7_2, rd l0_4 x9_5⟩ : S35)]) := ⟨_, rfl⟩
                                      replace H : (serinetteref19_All.l3 k5 a1 y195 x7_2 x8_3 (wrap64 (x9_5 + 1)) a0_0 a0_1 a0_2 a0_3 l0_4 l0_5 a0_6 a0_7) = some r := by first | (rw [hy195]; with_reducible exact H) | (have H2_ := (Option.bind_some _ _).symm.trans H; rw [hy195]; with_reducible exact H2_) | (have H2_ := (Option.bind_some _ _).symm.trans H; with_reducible exact H2_) | with_reducible exact H | (rw [hy195]; exact H) | exact H
                                      have Ny195 := Aside0.mk hy195
                                      clear hy195
                                      have H' := Aside0.mk H
                                      clear H
                                      have hcz28_0 : wr.cell? ⟨gb186, 0, none⟩ = some (.int .i64 a0_0) := (blk_cell BK186.out 0).trans rfl
                                      have hcz28_1 : wr.cell? ⟨gb186, 1, none⟩ = some (.bool a0_1) := (blk_cell BK186.out 1).trans rfl
                                      have hcz28_2 : wr.cell? ⟨gb186, 2, none⟩ = some (.int .i64 a0_2) := (blk_cell BK186.out 2).trans rfl
                                      have hcz28_3 : wr.cell? ⟨gb186, 3, none⟩ = some (.int .i64 a0_3) := (blk_cell BK186.out 3).trans rfl
                                      have hcz28_4 : wr.cell? ⟨gb186, 4, none⟩ = some (.slice A0_4 l0_4.length c0_4) := (blk_cell BK186.out 4).trans rfl
                                      have hcz28_5 : wr.cell? ⟨gb186, 5, none⟩ = some (.slice A0_5 l0_5.length c0_5) := (blk_cell BK186.out 5).trans rfl
                                      have hcz28_6 : wr.cell? ⟨gb186, 6, none⟩ = some (.int .i64 a0_6) := (blk_cell BK186.out 6).trans rfl
                                      have hcz28_7 : wr.cell? ⟨gb186, 7, none⟩ = some (.bool a0_7) := (blk_cell BK186.out 7).trans rfl
                                      have hfz28_0 := blk_frozen BK186.out 0
                                      have hfz28_1 := blk_frozen BK186.out 1
                                      have hfz28_2 := blk_frozen BK186.out 2
                                      have hfz28_3 := blk_frozen BK186.out 3
                                      have hfz28_4 := blk_frozen BK186.out 4
                                      have hfz28_5 := blk_frozen BK186.out 5
                                      have hfz28_6 := blk_frozen BK186.out 6
                                      have hfz28_7 := blk_frozen BK186.out 7
                                      try go_wp2
                                      have n0_ := Aside0.mk (Kd.R_drew HO_5.out)
                                      have n1_ := Aside0.mk (blk_drew BK186.out)
                                      have n2_ := Aside0.mk (below_drew1 HB.out)
                                      clear HO_5
                                      clear BK186
                                      clear HB
                                      have HO_5 := n0_
                                      have BK186 := n1_
                                      have HB := n2_
                                      clear n0_ n1_ n2_
                                      have p193 : 0 ≤ (x7_2 : Int) := of_decide_eq_true (by first | (with_reducible assumption) | assumption)
                                      have q193 : x7_2 < (l0_5.length : Int) := of_decide_eq_true (by first | (with_reducible assumption) | assumption)
                                      obtain ⟨ad193, e193, hx193_0⟩ := Kd.at_int HR0_5.out x7_2 p193 q193
                                      have hw193_0 := hx193_0
                                      cases e193
                                      replace hx193_0 := (HB.out.cell (World.block_lt_of_cell? w _ hx193_0)).trans hx193_0
                                      replace p193 := eq_true p193
                                      replace q193 := eq_true q193
                                      have p194 : 0 ≤ (x9_5 : Int) := of_decide_eq_true (by first | (with_reducible assumption) | assumption)
                                      have q194 : x9_5 < (l0_4.length : Int) := of_decide_eq_true (by first | (with_reducible assumption) | assumption)
                                      obtain ⟨ad194, e194, hx194_0⟩ := Kd.at_int HR0_4.out x9_5 p194 q194
                                      have hw194_0 := hx194_0
                                      cases e194
                                      replace hx194_0 := (HB.out.cell (World.block_lt_of_cell? w _ hx194_0)).trans hx194_0
                                      replace p194 := eq_true p194
                                      replace q194 := eq_true q194
                                      refine start_ (n := 16) (S := fun w' => w'.cell? ⟨gb186, 0, none⟩ = some (.int .i64 a0_0) ∧ w'.cell? ⟨gb186, 1, none⟩ = some (.bool a0_1) ∧ w'.cell? ⟨gb186, 2, none⟩ = some (.int .i64 a0_2) ∧ w'.cell? ⟨gb186, 3, none⟩ = some (.int .i64 a0_3) ∧ w'.cell? ⟨gb186, 4, none⟩ = some (.slice (some ad194) l0_4.length c0_4) ∧ w'.cell? ⟨gb186, 5, none⟩ = some (.slice (some ad193) l0_5.length c0_5) ∧ w'.cell? ⟨gb186, 6, none⟩ = some (.int .i64 a0_6) ∧ w'.cell? ⟨gb186, 7, none⟩ = some (.bool a0_7) ∧ w'.cell? (ad193.add (x7_2).toNat) = some (.int .i64 (rd l0_5 x7_2)) ∧ w'.cell? (ad194.add (x9_5).toNat) = some (.int .i64 (rd l0_4 x9_5))) (ds := []) #[false, false, false, false, false, false, false, false, false, false, false, false, false, false, false, false] (by kernel_rfl) rfl rfl ⟨(blk_cell BK186.out 0).trans rfl, (blk_cell BK186.out 1).trans rfl, (blk_cell BK186.out 2).trans rfl, (blk_cell BK186.out 3).trans rfl, (blk_cell BK186.out 4).trans rfl, (blk_cell BK186.out 5).trans rfl, (blk_cell BK186.out 6).trans rfl, (blk_cell BK186.out 7).trans rfl, ((HB.out.cell (World.block_lt_of_cell? w _ hw193_0)).trans hw193_0), ((HB.out.cell (World.block_lt_of_cell? w _ hw194_0)).trans hw194_0)⟩ (fun hHeld => ?_); refine with_tabW serinetteref19_All.tab17 serinetteref19_All.bits17 (fun HT_ HW_ => ?_)
                                      generalize wr.drew = w29 at HO_5 BK186 HB hx193_0 hx194_0 hHeld ⊢
                                      refine pure_ (i := 0) (N := some 56) (v := ?_) (a' := ?_) #[true, false, false, false, false, false, false, false, false, false, false, false, false, false, false, false] rfl rfl (any_of HT_.out (by kernel_rfl)) (fun _ _ _ h => h) (Or.inl ⟨by rfl, ?_⟩) ?_ ?_
                                      rotate_left
                                      · intro w'
                                        go_simp
                                        with_reducible rfl
                                      rotate_left
                                      · simp only [Act.put, List.setIfInBounds_toArray, List.set_cons_zero, List.set_cons_succ, i64_w, i32_w]
                                        rfl
                                      refine pure_ (i := 1) (N := some 57) (v := ?_) (a' := ?_) #[true, true, false, false, false, false, false, false, false, false, false, false, false, false, false, false] rfl rfl (any_of HT_.out (by kernel_rfl)) (fun _ _ _ h => h) (Or.inl ⟨by rfl, ?_⟩) ?_ ?_
                                      rotate_left
                                      · intro w'
                                        go_simp
                                        with_reducible rfl
                                      rotate_left
                                      · simp only [Act.put, List.setIfInBounds_toArray, List.set_cons_zero, List.set_cons_succ, i64_w, i32_w]
                                        rfl
                                      refine pure_ (i := 2) (N := some 58) (v := ?_) (a' := ?_) #[true, true, true, false, false, false, false, false, false, false, false, false, false, false, false, false] rfl rfl (any_of HT_.out (by kernel_rfl)) (fun _ _ _ h => h) (Or.inl ⟨by rfl, ?_⟩) ?_ ?_
                                      rotate_left
                                      · intro w'
                                        go_simp
                                        with_reducible rfl
                                      rotate_left
                                      · simp only [Act.put, List.setIfInBounds_toArray, List.set_cons_zero, List.set_cons_succ, i64_w, i32_w]
                                        rfl
                                      refine pure_ (i := 4) (N := some 60) (v := ?_) (a' := ?_) #[true, true, true, false, true, false, false, false, false, false, false, false, false, false, false, false] rfl rfl (any_of HT_.out (by kernel_rfl)) (fun _ _ _ h => h) (Or.inl ⟨by rfl, ?_⟩) ?_ ?_
                                      rotate_left
                                      · intro w'
                                        go_simp
                                        with_reducible rfl
                                      rotate_left
                                      · simp only [Act.put, List.setIfInBounds_toArray, List.set_cons_zero, List.set_cons_succ, i64_w, i32_w]
                                        rfl
                                      refine pure_ (i := 7) (N := some 63) (v := ?_) (a' := ?_) #[true, true, true, false, true, false, false, true, false, false, false, false, false, false, false, false] rfl rfl (any_of HT_.out (by kernel_rfl)) (fun _ _ _ h => h) (Or.inl ⟨by rfl, ?_⟩) ?_ ?_
                                      rotate_left
                                      · intro w'
                                        go_simp
                                        with_reducible rfl
                                      rotate_left
                                      · simp only [Act.put, List.setIfInBounds_toArray, List.set_cons_zero, List.set_cons_succ, i64_w, i32_w]
                                        rfl
                                      refine pure_ (i := 9) (N := some 65) (v := ?_) (a' := ?_) #[true, true, true, false, true, false, false, true, false, true, false, false, false, false, false, false] rfl rfl (any_of HT_.out (by kernel_rfl)) (fun _ _ _ h => h) (Or.inl ⟨by rfl, ?_⟩) ?_ ?_
                                      rotate_left
                                      · intro w'
                                        go_simp
                                        with_reducible rfl
                                      rotate_left
                                      · simp only [Act.put, List.setIfInBounds_toArray, List.set_cons_zero, List.set_cons_succ, i64_w, i32_w]
                                        rfl
                                      refine take_ (i := 3) (N := some 59) (v := ?_) (a' := ?_) #[true, true, true, true, true, false, false, true, false, true, false, false, false, false, false, false] rfl rfl (take_ofW HT_.out HW_.out (by kernel_rfl)) (fun _ _ _ h => h) (Or.inl ⟨by rfl, ?_⟩) hHeld ?_ ?_
                                      rotate_left
                                      · rintro w' ⟨s0, s1, s2, s3, s4, s5, s6, s7, s8, s9⟩
                                        go_simp
                                        with_reducible rfl
                                      rotate_left
                                      · simp only [Act.put, List.setIfInBounds_toArray, List.set_cons_zero, List.set_cons_succ, i64_w, i32_w]
                                        rfl
                                      refine pure_ (i := 5) (N := some 61) (v := ?_) (a' := ?_) #[true, true, true, true, true, true, false, true, false, true, false, false, false, false, false, false] rfl rfl (any_of HT_.out (by kernel_rfl)) (fun _ _ _ h => h) (Or.inl ⟨by rfl, ?_⟩) ?_ ?_
                                      rotate_left
                                      · intro w'
                                        go_simp
                                        with_reducible rfl
                                      rotate_left
                                      · simp only [Act.put, List.setIfInBounds_toArray, List.set_cons_zero, List.set_cons_succ, i64_w, i32_w]
                                        rfl
                                      refine take_ (i := 6) (N := some 62) (v := ?_) (a' := ?_) #[true, true, true, true, true, true, true, true, false, true, false, false, false, false, false, false] rfl rfl (take_ofW HT_.out HW_.out (by kernel_rfl)) (fun _ _ _ h => h) (Or.inl ⟨by rfl, ?_⟩) hHeld ?_ ?_
                                      rotate_left
                                      · rintro w' ⟨s0, s1, s2, s3, s4, s5, s6, s7, s8, s9⟩
                                        go_simp
                                        with_reducible rfl
                                      rotate_left
                                      · simp only [Act.put, List.setIfInBounds_toArray, List.set_cons_zero, List.set_cons_succ, i64_w, i32_w]
                                        rfl
                                      refine take_ (i := 8) (N := some 64) (v := ?_) (a' := ?_) #[true, true, true, true, true, true, true, true, true, true, false, false, false, false, false, false] rfl rfl (take_ofW HT_.out HW_.out (by kernel_rfl)) (fun _ _ _ h => h) (Or.inl ⟨by rfl, ?_⟩) hHeld ?_ ?_
                                      rotate_left
                                      · rintro w' ⟨s0, s1, s2, s3, s4, s5, s6, s7, s8, s9⟩
                                        go_simp
                                        with_reducible rfl
                                      rotate_left
                                      · simp only [Act.put, List.setIfInBounds_toArray, List.set_cons_zero, List.set_cons_succ, i64_w, i32_w]
                                        rfl
                                      refine pure_ (i := 10) (N := some 66) (v := ?_) (a' := ?_) #[true, true, true, true, true, true, true, true, true, true, true, false, false, false, false, false] rfl rfl (any_of HT_.out (by kernel_rfl)) (fun _ _ _ h => h) (Or.inl ⟨by rfl, ?_⟩) ?_ ?_
                                      rotate_left
                                      · intro w'
                                        go_simp
                                        with_reducible rfl
                                      rotate_left
                                      · simp only [Act.put, List.setIfInBounds_toArray, List.set_cons_zero, List.set_cons_succ, i64_w, i32_w]
                                        rfl
                                      refine take_ (i := 11) (N := some 67) (v := ?_) (a' := ?_) #[true, true, true, true, true, true, true, true, true, true, true, true, false, false, false, false] rfl rfl (take_ofW HT_.out HW_.out (by kernel_rfl)) (fun _ _ _ h => h) (Or.inl ⟨by rfl, ?_⟩) hHeld ?_ ?_
                                      rotate_left
                                      · rintro w' ⟨s0, s1, s2, s3, s4, s5, s6, s7, s8, s9⟩
                                        go_simp
                                        with_reducible rfl
                                      rotate_left
                                      · simp only [Act.put, List.setIfInBounds_toArray, List.set_cons_zero, List.set_cons_succ, i64_w, i32_w]
                                        rfl
                                      refine pure_ (i := 12) (N := some 68) (v := ?_) (a' := ?_) #[true, true, true, true, true, true, true, true, true, true, true, true, true, false, false, false] rfl rfl (any_of HT_.out (by kernel_rfl)) (fun _ _ _ h => h) (Or.inl ⟨by rfl, ?_⟩) ?_ ?_
                                      rotate_left
                                      · intro w'
                                        go_simp
                                        with_reducible rfl
                                      rotate_left
                                      · simp only [Act.put, List.setIfInBounds_toArray, List.set_cons_zero, List.set_cons_succ, i64_w, i32_w]
                                        rfl
                                      refine one_ (i := 13) (N := some 69) #[true, true, true, true, true, true, true, true, true, true, true, true, true, true, false, false] rfl rfl (one_of HT_.out (by kernel_rfl)) (by decide) (fun K hK => ?_)
                                      refine value_ (w1 := ?_) (v := ?_) (by rfl) rfl ?_ ?_
                                      rotate_left 2
                                      · go_simp
                                        constructor
                                        · rfl
                                        · rfl
                                      refine hK.out _ _ ⟨(blk_cell (blk_alloc BK186.out _) 0).trans rfl, (blk_cell (blk_alloc BK186.out _) 1).trans rfl, (blk_cell (blk_alloc BK186.out _) 2).trans rfl, (blk_cell (blk_alloc BK186.out _) 3).trans rfl, (blk_cell (blk_alloc BK186.out _) 4).trans rfl, (blk_cell (blk_alloc BK186.out _) 5).trans rfl, (blk_cell (blk_alloc BK186.out _) 6).trans rfl, (blk_cell (blk_alloc BK186.out _) 7).trans rfl, (World.cell?_alloc_lt _ _ _ (World.block_lt_of_cell? _ _ (((HB.out.cell (World.block_lt_of_cell? w _ hw193_0)).trans hw193_0)))).trans (((HB.out.cell (World.block_lt_of_cell? w _ hw193_0)).trans hw193_0)), (World.cell?_alloc_lt _ _ _ (World.block_lt_of_cell? _ _ (((HB.out.cell (World.block_lt_of_cell? w _ hw194_0)).trans hw194_0)))).trans (((HB.out.cell (World.block_lt_of_cell? w _ hw194_0)).trans hw194_0))⟩ (fun hHeld => ?_)
                                      clear hK K
                                      refine norm_ (a' := ?_) ?_ ?_
                                      rotate_left
                                      · show Act.put _ (some 69) _ = _
                                        simp only [Act.put, List.setIfInBounds_toArray, List.set_cons_zero, List.set_cons_succ, i64_w, i32_w]
                                        rfl
                                      refine one_ (i := 14) (N := some 70) #[true, true, true, true, true, true, true, true, true, true, true, true, true, true, true, false] rfl rfl (one_of HT_.out (by kernel_rfl)) (by decide) (fun K hK => ?_)
                                      refine Kd.R_append_step k35 (w0 := w) w.heap.size (by rfl) (.tmp 56) (.tmp 69) 32 35 (.agg #[(.int .i64 0), (.int .i64 0), (.int .i64 0), (.int .i64 0)]) 32 rfl Tryd.underlying32 info35 rfl (by decide) (by omega) u5 x5_5 (⟨3, x8_3, rd l0_5 x7_2, rd l0_4 x9_5⟩ : S35) [.int .i64 3, .int .i64 x8_3, .int .i64 (rd l0_5 x7_2), .int .i64 (rd l0_4 x9_5)] (fun _ => True) (fun _ => False) rfl rfl ?aP (fun _ hk => hk.elim) ?aF ?aO ?aB ?aS ?aL ?_
                                      (case aP => exact k35_mkM _ _ _ (⟨3, x8_3, rd l0_5 x7_2, rd l0_4 x9_5⟩ : S35))
                                      (case aB => exact (by repeat (first | (with_reducible first | exact HB.out | apply below_alloc | apply pw_below_drewN | apply below_drew1 | refine below_set ?_ GE186.out) | exact HB.out)))
                                      (case aF => exact (fun _ _ => trivial))
                                      (case aO => exact (by (with_reducible repeat (first | apply Kd.R_alloc | apply Kd.R_drewN | apply Kd.R_drew)); exact HO_5.out))
                                      (case aS => exact (below_size (by repeat (first | (with_reducible first | exact HB.out | apply below_alloc | apply pw_below_drewN | apply below_drew1 | refine below_set ?_ GE186.out) | exact HB.out))))
                                      (case aL => have := LMc27.out; omega)
                                      intro v196 w30 ho hb hg hat
                                      rw [← Ny195.out] at ho
                                      have n0_ := Aside0.mk (blk_grown (g := gb186) (o := .cells #[.int .i64 a0_0, .bool a0_1, .int .i64 a0_2, .int .i64 a0_3, .slice (some ad194) l0_4.length c0_4, .slice (some ad193) l0_5.length c0_5, .int .i64 a0_6, .bool a0_7] 24 (0, 0)) (by (with_reducible repeat (first | refine blk_drewN ?_ _ | refine blk_drew ?_ | refine blk_alloc ?_ _)); exact BK186.out) hg (Kd.R_ne HO_5.out BK186.out (by decide)))
                                      have n1_ := Aside0.mk (hb)
                                      have n2_ := Aside0.mk (ho)
                                      clear BK186
                                      clear HB
                                      clear HO_5
                                      have BK186 := n0_
                                      have HB := n1_
                                      have HO197 := n2_
                                      clear n0_ n1_ n2_
                                      clear ho hb hg hat
                                      refine hK.out _ _ ⟨(blk_cell BK186.out 0).trans rfl, (blk_cell BK186.out 1).trans rfl, (blk_cell BK186.out 2).trans rfl, (blk_cell BK186.out 3).trans rfl, (blk_cell BK186.out 4).trans rfl, (blk_cell BK186.out 5).trans rfl, (blk_cell BK186.out 6).trans rfl, (blk_cell BK186.out 7).trans rfl, ((HB.out.cell (World.block_lt_of_cell? w _ hw193_0)).trans hw193_0), ((HB.out.cell (World.block_lt_of_cell? w _ hw194_0)).trans hw194_0)⟩ (fun hHeld => ?_)
                                      clear hK K
                                      refine norm_ (a' := ?_) ?_ ?_
                                      rotate_left
                                      · show Act.put _ (some 70) _ = _
                                        simp only [Act.put, List.setIfInBounds_toArray, List.set_cons_zero, List.set_cons_succ, i64_w, i32_w]
                                        rfl
                                      refine pure_ (i := 15) (N := some 5) (v := ?_) (a' := ?_) #[true, true, true, true, true, true, true, true, true, true, true, true, true, true, true, true] rfl rfl (any_of HT_.out (by kernel_rfl)) (fun _ _ _ h => h) (Or.inl ⟨by rfl, ?_⟩) ?_ ?_
                                      rotate_left
                                      · intro w'
                                        go_simp
                                        with_reducible rfl
                                      rotate_left
                                      · simp only [Act.put, List.setIfInBounds_toArray, List.set_cons_zero, List.set_cons_succ, i64_w, i32_w]
                                        rfl
                                      refine done_ (done_of HT_.out (by kernel_rfl)) ?_
                                      try go_wp2
                                      go_roundg k5
                                      case measure => have := HJ4.out; have := HK2.out; have := HK3.out; have := HJ17.out; have := HK5.out; omega
                                      case rel => exact ⟨(y195), (wrap64 (x9_5 + 1)), (by first | rfl | (simp; done) | (simp [*]; done)), H', ⟨by have := HJ4.out; have := HK2.out; have := HK3.out; have := HJ17.out; have := HK5.out; omega⟩, ⟨by (with_reducible repeat (first | apply Kd.R_alloc | apply Kd.R_drewN | apply Kd.R_drew)); exact HO197.out⟩, ⟨by (with_reducible repeat (first | refine blk_drewN ?_ _ | refine blk_drew ?_ | refine blk_alloc ?_ _)); exact BK186.out⟩, ⟨by repeat (first | (with_reducible first | exact HB.out | apply below_alloc | apply pw_below_drewN | apply below_drew1 | refine below_set ?_ GE186.out) | exact HB.out)⟩⟩
                                    · rw [if_neg c27] at H
                                      exact absurd H (by simp)
                                  · rw [if_neg c26] at H
                                    exact absurd H (by simp)
                                · rw [if_neg c25] at H
                                  exact absurd H (by simp)
                              · rw [if_neg c24] at H
                                exact absurd H (by simp)
                            · rw [if_neg c23] at H
                              have c23b0 : decide (x9_5 < (l0_4.length : Int)) = false := decide_eq_false c23
                              clear c23
                              have H' := Aside0.mk H
                              clear H
                              have hcz31_0 : wr.cell? ⟨gb186, 0, none⟩ = some (.int .i64 a0_0) := (blk_cell BK186.out 0).trans rfl
                              have hcz31_1 : wr.cell? ⟨gb186, 1, none⟩ = some (.bool a0_1) := (blk_cell BK186.out 1).trans rfl
                              have hcz31_2 : wr.cell? ⟨gb186, 2, none⟩ = some (.int .i64 a0_2) := (blk_cell BK186.out 2).trans rfl
                              have hcz31_3 : wr.cell? ⟨gb186, 3, none⟩ = some (.int .i64 a0_3) := (blk_cell BK186.out 3).trans rfl
                              have hcz31_4 : wr.cell? ⟨gb186, 4, none⟩ = some (.slice A0_4 l0_4.length c0_4) := (blk_cell BK186.out 4).trans rfl
                              have hcz31_5 : wr.cell? ⟨gb186, 5, none⟩ = some (.slice A0_5 l0_5.length c0_5) := (blk_cell BK186.out 5).trans rfl
                              have hcz31_6 : wr.cell? ⟨gb186, 6, none⟩ = some (.int .i64 a0_6) := (blk_cell BK186.out 6).trans rfl
                              have hcz31_7 : wr.cell? ⟨gb186, 7, none⟩ = some (.bool a0_7) := (blk_cell BK186.out 7).trans rfl
                              have hfz31_0 := blk_frozen BK186.out 0
                              have hfz31_1 := blk_frozen BK186.out 1
                              have hfz31_2 := blk_frozen BK186.out 2
                              have hfz31_3 := blk_frozen BK186.out 3
                              have hfz31_4 := blk_frozen BK186.out 4
                              have hfz31_5 := blk_frozen BK186.out 5
                              have hfz31_6 := blk_frozen BK186.out 6
                              have hfz31_7 := blk_frozen BK186.out 7
                              go_wp2
                              go_roundg k5
                              case measure => have := HJ4.out; have := HK2.out; have := HK3.out; have := HJ17.out; have := HK5.out; omega
                              case rel => exact ⟨(x5_5), (wrap64 (x8_3 + 1)), (by first | rfl | (simp; done) | (simp [*]; done)), H', ⟨by have := HJ4.out; have := HK2.out; have := HK3.out; have := HJ17.out; have := HK5.out; omega⟩, ⟨by (with_reducible repeat (first | apply Kd.R_alloc | apply Kd.R_drewN | apply Kd.R_drew)); exact HO_5.out⟩, ⟨by (with_reducible repeat (first | refine blk_drewN ?_ _ | refine blk_drew ?_ | refine blk_alloc ?_ _)); exact BK186.out⟩, ⟨by repeat (first | (with_reducible first | exact HB.out | apply below_alloc | apply pw_below_drewN | apply below_drew1 | refine below_set ?_ GE186.out) | exact HB.out)⟩⟩
                      · replace c22 := Bool.eq_false_iff.mpr c22
                        subst c22
                        have H1 : (serinetteref19_All.l1 kj17 a1 x5_3 (wrap64 (x7_2 + 1)) a0_0 a0_1 a0_2 a0_3 l0_4 l0_5 a0_6 a0_7) = some r := by rw [if_neg (show ¬ (false = true) by decide)] at H; exact H
                        clear H
                        have H := H1
                        clear H1
                        have H' := Aside0.mk H
                        clear H
                        go_wp2
                        go_roundg kj17
                        case measure => have := HJ4.out; have := HK2.out; have := HK3.out; have := HJ17.out; omega
                        case rel => exact ⟨(x5_3), (wrap64 (x7_2 + 1)), (by first | rfl | (simp; done) | (simp [*]; done)), H', ⟨by have := HJ4.out; have := HK2.out; have := HK3.out; have := HJ17.out; omega⟩, ⟨by (with_reducible repeat (first | apply Kd.R_alloc | apply Kd.R_drewN | apply Kd.R_drew)); exact HO_5.out⟩, ⟨by (with_reducible repeat (first | refine blk_drewN ?_ _ | refine blk_drew ?_ | refine blk_alloc ?_ _)); exact BK186.out⟩, ⟨by repeat (first | (with_reducible first | exact HB.out | apply below_alloc | apply pw_below_drewN | apply below_drew1 | refine below_set ?_ GE186.out) | exact HB.out)⟩⟩
            · rw [if_neg c16] at H
              have c16b0 : decide (x7_2 < (l0_5.length : Int)) = false := decide_eq_false c16
              clear c16
              obtain rfl := Option.some.inj H
              have hcz32_0 : wr.cell? ⟨gb186, 0, none⟩ = some (.int .i64 a0_0) := (blk_cell BK186.out 0).trans rfl
              have hcz32_1 : wr.cell? ⟨gb186, 1, none⟩ = some (.bool a0_1) := (blk_cell BK186.out 1).trans rfl
              have hcz32_2 : wr.cell? ⟨gb186, 2, none⟩ = some (.int .i64 a0_2) := (blk_cell BK186.out 2).trans rfl
              have hcz32_3 : wr.cell? ⟨gb186, 3, none⟩ = some (.int .i64 a0_3) := (blk_cell BK186.out 3).trans rfl
              have hcz32_4 : wr.cell? ⟨gb186, 4, none⟩ = some (.slice A0_4 l0_4.length c0_4) := (blk_cell BK186.out 4).trans rfl
              have hcz32_5 : wr.cell? ⟨gb186, 5, none⟩ = some (.slice A0_5 l0_5.length c0_5) := (blk_cell BK186.out 5).trans rfl
              have hcz32_6 : wr.cell? ⟨gb186, 6, none⟩ = some (.int .i64 a0_6) := (blk_cell BK186.out 6).trans rfl
              have hcz32_7 : wr.cell? ⟨gb186, 7, none⟩ = some (.bool a0_7) := (blk_cell BK186.out 7).trans rfl
              have hfz32_0 := blk_frozen BK186.out 0
              have hfz32_1 := blk_frozen BK186.out 1
              have hfz32_2 := blk_frozen BK186.out 2
              have hfz32_3 := blk_frozen BK186.out 3
              have hfz32_4 := blk_frozen BK186.out 4
              have hfz32_5 := blk_frozen BK186.out 5
              have hfz32_6 := blk_frozen BK186.out 6
              have hfz32_7 := blk_frozen BK186.out 7
              go_wp2
              go_ret
              exact ⟨_, by first | rfl | (simp [errW_none, errW_some] <;> rfl) | (simp [*, errW_none, errW_some] <;> rfl), by (with_reducible repeat (first | apply Kd.R_alloc | apply Kd.R_drewN | apply Kd.R_drew)); exact HO_5.out, by repeat (first | (with_reducible first | exact HB.out | apply below_alloc | apply pw_below_drewN | apply below_drew1 | refine below_set ?_ GE186.out) | exact HB.out)⟩

end Go.Proofs.YtgdgncdnhpflcaaDoor.PPresetChoices
