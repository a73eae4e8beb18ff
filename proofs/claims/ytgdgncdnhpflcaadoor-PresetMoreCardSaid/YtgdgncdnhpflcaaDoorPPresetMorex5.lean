-- written by this session's program wip/reprint.sh (a turned copy of the kit's print): the session's own text
import Derived.Test.YtgdgncdnhpflcaaDoorPPresetMorex0
import Derived.Test.YtgdgncdnhpflcaaDoorPPresetMorex4
namespace Go.Proofs.YtgdgncdnhpflcaaDoor.PPresetMore
open Go.RowKit Go.Proofs.YtgdgncdnhpflcaaDoorW.PrintWords Go.Proofs.YtgdgncdnhpflcaaDoorW.PrintLast Go.Proofs.YtgdgncdnhpflcaaDoorW.PrintMore
attribute [local go_sem] max2_int min2_int max_two min_two max_three min_three max_four min_four   -- for this text's walks alone
set_option linter.unusedVariables false
set_option linter.unusedSimpArgs false

/-! ### preset_Check: function 12 -/
mutual
def preset_Check.j0 : Nat → Bool → Int → Bool → Int → Int → List Int → List Int → Int → Bool → Option (Int)
  | 0, _, _, _, _, _, _, _, _, _ => none
  | k + 1, x3, x183000, x183001, x183002, x183003, x183004, x183005, x183006, x183007 => (preset_rising.f k x183004 4 2 15).bind fun t185 => (if t185 = true then ((preset_rising.f k x183005 3 0 2).bind fun t186 => (preset_Check.j1 k x3 t186 x183000 x183001 x183002 x183003 x183004 x183005 x183006 x183007)) else (preset_Check.j1 k x3 false x183000 x183001 x183002 x183003 x183004 x183005 x183006 x183007))
def preset_Check.j1 : Nat → Bool → Bool → Int → Bool → Int → Int → List Int → List Int → Int → Bool → Option (Int)
  | 0, _, _, _, _, _, _, _, _, _, _ => none
  | k + 1, x3, x4, x183000, x183001, x183002, x183003, x183004, x183005, x183006, x183007 => if x3 = true then (if x4 = true then ((preset_within.f x183000 1 65535).bind fun t187 => (if t187 = true then ((preset_within.f x183006 0 8).bind fun t188 => (preset_Check.j2 k (!t188) x183000 x183001 x183002 x183003 x183004 x183005 x183006 x183007)) else (preset_Check.j2 k true x183000 x183001 x183002 x183003 x183004 x183005 x183006 x183007))) else (preset_Check.j2 k true x183000 x183001 x183002 x183003 x183004 x183005 x183006 x183007)) else (preset_Check.j2 k true x183000 x183001 x183002 x183003 x183004 x183005 x183006 x183007)
def preset_Check.j2 : Nat → Bool → Int → Bool → Int → Int → List Int → List Int → Int → Bool → Option (Int)
  | 0, _, _, _, _, _, _, _, _, _ => none
  | k + 1, x38, x183000, x183001, x183002, x183003, x183004, x183005, x183006, x183007 => if x38 = true then (some 17) else (if x183003 > 0 then (if (x183004.length : Int) = 0 then (some 17) else (if (x183005.length : Int) = 0 then (some 17) else (some 0))) else (some 0))
end
def preset_Check.f (k : Nat) (a0_0 : Int) (a0_1 : Bool) (a0_2 : Int) (a0_3 : Int) (l0_4 : List Int) (l0_5 : List Int) (a0_6 : Int) (a0_7 : Bool) : Option (Int) := (preset_within.f a0_2 (-1) 4).bind fun t183 => (if t183 = true then ((preset_within.f a0_3 0 32).bind fun t184 => (preset_Check.j0 k t184 a0_0 a0_1 a0_2 a0_3 l0_4 l0_5 a0_6 a0_7)) else (preset_Check.j0 k false a0_0 a0_1 a0_2 a0_3 l0_4 l0_5 a0_6 a0_7))
theorem preset_Check.mono_l : ∀ k, (∀ y0 y1 y2 y3 y4 y5 y6 y7 y8, LeO (preset_Check.j0 k y0 y1 y2 y3 y4 y5 y6 y7 y8) (preset_Check.j0 (k + 1) y0 y1 y2 y3 y4 y5 y6 y7 y8)) ∧ (∀ y0 y1 y2 y3 y4 y5 y6 y7 y8 y9, LeO (preset_Check.j1 k y0 y1 y2 y3 y4 y5 y6 y7 y8 y9) (preset_Check.j1 (k + 1) y0 y1 y2 y3 y4 y5 y6 y7 y8 y9)) ∧ (∀ y0 y1 y2 y3 y4 y5 y6 y7 y8, LeO (preset_Check.j2 k y0 y1 y2 y3 y4 y5 y6 y7 y8) (preset_Check.j2 (k + 1) y0 y1 y2 y3 y4 y5 y6 y7 y8))
  | 0 => ⟨fun _ _ _ _ _ _ _ _ _ r h => by simp [preset_Check.j0] at h, fun _ _ _ _ _ _ _ _ _ _ r h => by simp [preset_Check.j1] at h, fun _ _ _ _ _ _ _ _ _ r h => by simp [preset_Check.j2] at h⟩
  | k + 1 => by
    obtain ⟨ih0, ih1, ih2⟩ := preset_Check.mono_l k
    refine ⟨?_, ?_, ?_⟩
    · intro y0 y1 y2 y3 y4 y5 y6 y7 y8
      unfold preset_Check.j0
      repeat' first
      | (with_reducible exact ih0 _ _ _ _ _ _ _ _ _)
      | (with_reducible exact ih1 _ _ _ _ _ _ _ _ _ _)
      | (with_reducible exact ih2 _ _ _ _ _ _ _ _ _)
      | (with_reducible exact preset_rising.mono _ _ _ _ _)
      | (with_reducible exact LeO.refl _)
      | (with_reducible exact LeO.none _)
      | (with_reducible refine LeO.ite ?_ ?_)
      | (with_reducible refine LeO.bind ?_ (fun _ => ?_))
      | exact ih0 _ _ _ _ _ _ _ _ _
      | exact ih1 _ _ _ _ _ _ _ _ _ _
      | exact ih2 _ _ _ _ _ _ _ _ _
      | exact preset_rising.mono _ _ _ _ _
      | exact LeO.none _
      | refine LeO.ite ?_ ?_
      | refine LeO.bind ?_ (fun _ => ?_)
    · intro y0 y1 y2 y3 y4 y5 y6 y7 y8 y9
      unfold preset_Check.j1
      repeat' first
      | (with_reducible exact ih0 _ _ _ _ _ _ _ _ _)
      | (with_reducible exact ih1 _ _ _ _ _ _ _ _ _ _)
      | (with_reducible exact ih2 _ _ _ _ _ _ _ _ _)
      | (with_reducible exact preset_rising.mono _ _ _ _ _)
      | (with_reducible exact LeO.refl _)
      | (with_reducible exact LeO.none _)
      | (with_reducible refine LeO.ite ?_ ?_)
      | (with_reducible refine LeO.bind ?_ (fun _ => ?_))
      | exact ih0 _ _ _ _ _ _ _ _ _
      | exact ih1 _ _ _ _ _ _ _ _ _ _
      | exact ih2 _ _ _ _ _ _ _ _ _
      | exact preset_rising.mono _ _ _ _ _
      | exact LeO.none _
      | refine LeO.ite ?_ ?_
      | refine LeO.bind ?_ (fun _ => ?_)
    · intro y0 y1 y2 y3 y4 y5 y6 y7 y8
      unfold preset_Check.j2
      repeat' first
      | (with_reducible exact ih0 _ _ _ _ _ _ _ _ _)
      | (with_reducible exact ih1 _ _ _ _ _ _ _ _ _ _)
      | (with_reducible exact ih2 _ _ _ _ _ _ _ _ _)
      | (with_reducible exact preset_rising.mono _ _ _ _ _)
      | (with_reducible exact LeO.refl _)
      | (with_reducible exact LeO.none _)
      | (with_reducible refine LeO.ite ?_ ?_)
      | (with_reducible refine LeO.bind ?_ (fun _ => ?_))
      | exact ih0 _ _ _ _ _ _ _ _ _
      | exact ih1 _ _ _ _ _ _ _ _ _ _
      | exact ih2 _ _ _ _ _ _ _ _ _
      | exact preset_rising.mono _ _ _ _ _
      | exact LeO.none _
      | refine LeO.ite ?_ ?_
      | refine LeO.bind ?_ (fun _ => ?_)
theorem preset_Check.mono : ∀ a0 a1 a2 a3 a4 a5 a6 a7 k, LeO (preset_Check.f k a0 a1 a2 a3 a4 a5 a6 a7) (preset_Check.f (k + 1) a0 a1 a2 a3 a4 a5 a6 a7) := by
  intro a0 a1 a2 a3 a4 a5 a6 a7 k
  obtain ⟨ih0, ih1, ih2⟩ := preset_Check.mono_l k
  unfold preset_Check.f
  repeat' first
      | (with_reducible exact ih0 _ _ _ _ _ _ _ _ _)
      | (with_reducible exact ih1 _ _ _ _ _ _ _ _ _ _)
      | (with_reducible exact ih2 _ _ _ _ _ _ _ _ _)
      | (with_reducible exact preset_rising.mono _ _ _ _ _)
      | (with_reducible exact LeO.refl _)
      | (with_reducible exact LeO.none _)
      | (with_reducible refine LeO.ite ?_ ?_)
      | (with_reducible refine LeO.bind ?_ (fun _ => ?_))
      | exact ih0 _ _ _ _ _ _ _ _ _
      | exact ih1 _ _ _ _ _ _ _ _ _ _
      | exact ih2 _ _ _ _ _ _ _ _ _
      | exact preset_rising.mono _ _ _ _ _
      | exact LeO.none _
      | refine LeO.ite ?_ ?_
      | refine LeO.bind ?_ (fun _ => ?_)
set_option maxHeartbeats 8000000 in
set_option maxRecDepth 100000 in
theorem preset_Check.calls (k : Nat) (a0_0 : Int) (a0_1 : Bool) (a0_2 : Int) (a0_3 : Int) (A0_4 : Option Addr) (c0_4 : Nat) (l0_4 : List Int) (A0_5 : Option Addr) (c0_5 : Nat) (l0_5 : List Int) (a0_6 : Int) (a0_7 : Bool) (r : Int) (w : World) (hr0_4 : Kd.C (Kd.int .i64) w A0_4 l0_4.length l0_4) (hc0_4 : l0_4.length ≤ c0_4) (hr0_5 : Kd.C (Kd.int .i64) w A0_5 l0_5.length l0_5) (hc0_5 : l0_5.length ≤ c0_5) (h : preset_Check.f k a0_0 a0_1 a0_2 a0_3 l0_4 l0_5 a0_6 a0_7 = some r) :
    Calls Tryd.prog 12 #[.agg #[.int .i64 a0_0, .bool a0_1, .int .i64 a0_2, .int .i64 a0_3, .slice A0_4 l0_4.length c0_4, .slice A0_5 l0_5.length c0_5, .int .i64 a0_6, .bool a0_7]] w fun e w' => e = .returned (.int .i64 r) ∧ Below w.heap.size w w' := by
  have hu24 := Tryd.underlying24
  have HR0_4 := Aside0.mk hr0_4
  have HC0_4 := Aside0.mk hc0_4
  clear hr0_4 hc0_4
  have HR0_5 := Aside0.mk hr0_5
  have HC0_5 := Aside0.mk hc0_5
  clear hr0_5 hc0_5
  have HB := Aside0.mk (Below.refl w.heap.size w)
  have H : ((preset_within.f a0_2 (-1) 4).bind fun t183 => (if t183 = true then ((preset_within.f a0_3 0 32).bind fun t184 => (preset_Check.j0 k t184 a0_0 a0_1 a0_2 a0_3 l0_4 l0_5 a0_6 a0_7)) else (preset_Check.j0 k false a0_0 a0_1 a0_2 a0_3 l0_4 l0_5 a0_6 a0_7))) = some r := h
  clear h
  have HC2 := Aside0.mk H
  clear H
  go_enter Tryd.func12, Tryd.ntmps12
  go_upto_region 1 with (first | ((with_reducible refine gate_dst (N := 1) rfl ?_); (try (refine gate_guard (by rfl) ?_; dsimp only)); refine box_event ?hg (N := 1) ?hd (cs := #[.int .i64 a0_0, .bool a0_1, .int .i64 a0_2, .int .i64 a0_3, .slice A0_4 l0_4.length c0_4, .slice A0_5 l0_5.length c0_5, .int .i64 a0_6, .bool a0_7]) (t := 24) ?hr ?_; (case hd => rfl); (case hg => rfl); (case hr => first | (go_simp; done) | (go_simp; rfl)); intro gb182 hg w3 hbox hb; have n0_ := Aside0.mk (below_step (by repeat (first | (with_reducible first | exact HB.out | apply below_alloc | apply pw_below_drewN | apply below_drew1) | exact HB.out)) hb); have n1_ := Aside0.mk (hbox); have n2_ := Aside0.mk ((by rw [hg]; exact (below_size (by repeat (first | (with_reducible first | exact HB.out | apply below_alloc | apply pw_below_drewN | apply below_drew1) | exact HB.out))) : w.heap.size ≤ gb182)); have n3_ := Aside0.mk ((by rw [hg]; exact (below_size (by repeat (first | (with_reducible first | exact HB.out | apply below_alloc | apply pw_below_drewN | apply below_drew1) | exact HB.out))) : w.heap.size ≤ gb182)); clear HB; have HB := n0_; have BK182 := n1_; have GW182 := n2_; have GE182 := n3_; clear n0_ n1_ n2_ n3_; clear hb hbox hg))
  (try simp only [Act.put, List.setIfInBounds_toArray, List.set_cons_zero, List.set_cons_succ])
  go_cut [3] (fun v3 wc => ∃ (kq : Nat) (x3_1 : Bool), v3 = .bool x3_1 ∧ Aside0 (preset_Check.j0 kq x3_1 a0_0 a0_1 a0_2 a0_3 l0_4 l0_5 a0_6 a0_7 = some r) ∧ Aside0 (kq ≤ k) ∧ Aside0 (wc.heap[gb182]? = some (.cells #[.int .i64 a0_0, .bool a0_1, .int .i64 a0_2, .int .i64 a0_3, (.slice A0_4 l0_4.length c0_4), (.slice A0_5 l0_5.length c0_5), .int .i64 a0_6, .bool a0_7] 24 (0, 0))) ∧ Aside0 (Below w.heap.size w wc))
  case first =>
    have H := HC2.out
    clear HC2
    replace H := Option.bind_eq_some_iff.mp H
    obtain ⟨t183, A40, H⟩ := H
    replace H : (if t183 = true then ((preset_within.f a0_3 0 32).bind fun t184 => (preset_Check.j0 k t184 a0_0 a0_1 a0_2 a0_3 l0_4 l0_5 a0_6 a0_7)) else (preset_Check.j0 k false a0_0 a0_1 a0_2 a0_3 l0_4 l0_5 a0_6 a0_7)) = some r := H
    have A4 := Aside0.mk A40
    clear A40
    by_cases c5 : t183 = true
    · subst c5
      have H1 : ((preset_within.f a0_3 0 32).bind fun t184 => (preset_Check.j0 k t184 a0_0 a0_1 a0_2 a0_3 l0_4 l0_5 a0_6 a0_7)) = some r := by rw [if_pos rfl] at H; exact H
      clear H
      have H := H1
      clear H1
      replace H := Option.bind_eq_some_iff.mp H
      obtain ⟨t184, A60, H⟩ := H
      replace H : (preset_Check.j0 k t184 a0_0 a0_1 a0_2 a0_3 l0_4 l0_5 a0_6 a0_7) = some r := H
      have A6 := Aside0.mk A60
      clear A60
      have H' := Aside0.mk H
      clear H
      have hcz7_0 : w3.cell? ⟨gb182, 0, none⟩ = some (.int .i64 a0_0) := (blk_cell BK182.out 0).trans rfl
      have hcz7_1 : w3.cell? ⟨gb182, 1, none⟩ = some (.bool a0_1) := (blk_cell BK182.out 1).trans rfl
      have hcz7_2 : w3.cell? ⟨gb182, 2, none⟩ = some (.int .i64 a0_2) := (blk_cell BK182.out 2).trans rfl
      have hcz7_3 : w3.cell? ⟨gb182, 3, none⟩ = some (.int .i64 a0_3) := (blk_cell BK182.out 3).trans rfl
      have hcz7_4 : w3.cell? ⟨gb182, 4, none⟩ = some (.slice A0_4 l0_4.length c0_4) := (blk_cell BK182.out 4).trans rfl
      have hcz7_5 : w3.cell? ⟨gb182, 5, none⟩ = some (.slice A0_5 l0_5.length c0_5) := (blk_cell BK182.out 5).trans rfl
      have hcz7_6 : w3.cell? ⟨gb182, 6, none⟩ = some (.int .i64 a0_6) := (blk_cell BK182.out 6).trans rfl
      have hcz7_7 : w3.cell? ⟨gb182, 7, none⟩ = some (.bool a0_7) := (blk_cell BK182.out 7).trans rfl
      have hfz7_0 := blk_frozen BK182.out 0
      have hfz7_1 := blk_frozen BK182.out 1
      have hfz7_2 := blk_frozen BK182.out 2
      have hfz7_3 := blk_frozen BK182.out 3
      have hfz7_4 := blk_frozen BK182.out 4
      have hfz7_5 := blk_frozen BK182.out 5
      have hfz7_6 := blk_frozen BK182.out 6
      have hfz7_7 := blk_frozen BK182.out 7
      go_wp2_with (first | ((with_reducible refine gate_callee (f := 24) rfl ?_); refine goesL_ (some 7) rfl rfl Tryd.func24 (by kernel_rfl) rfl #[.int .i64 a0_2, .int .i64 (-1), .int .i64 4] rfl (by (try simp only [List.map_toArray, List.map_cons, List.map_nil]); first | done | rfl | (simp only [List.length_drop, List.length_take]; rfl)) ?_; (with_reducible refine (preset_within.calls a0_2 (-1) 4 true _ A4.out).mono ?_); rintro e w' ⟨rfl, ⟨nd, rfl⟩⟩; refine ⟨_, rfl, ?_⟩) | (go_at_call 24; (with_reducible refine (preset_within.calls a0_3 0 32 t184 _ A6.out).mono ?_); rintro e w' ⟨rfl, ⟨nd, rfl⟩⟩))
      go_meet
      case rel => exact ⟨_, (t184), (by first | rfl | (simp; done) | (simp [*]; done)), H', ⟨by first | omega | exact Nat.le_refl _⟩, ⟨by (with_reducible repeat (first | refine blk_drewN ?_ _ | refine blk_drew ?_ | refine blk_alloc ?_ _)); exact BK182.out⟩, ⟨by repeat (first | (with_reducible first | exact HB.out | apply below_alloc | apply pw_below_drewN | apply below_drew1 | refine below_set ?_ GE182.out) | exact HB.out)⟩⟩
    · replace c5 := Bool.eq_false_iff.mpr c5
      subst c5
      have H1 : (preset_Check.j0 k false a0_0 a0_1 a0_2 a0_3 l0_4 l0_5 a0_6 a0_7) = some r := by rw [if_neg (show ¬ (false = true) by decide)] at H; exact H
      clear H
      have H := H1
      clear H1
      have H' := Aside0.mk H
      clear H
      have hcz8_0 : w3.cell? ⟨gb182, 0, none⟩ = some (.int .i64 a0_0) := (blk_cell BK182.out 0).trans rfl
      have hcz8_1 : w3.cell? ⟨gb182, 1, none⟩ = some (.bool a0_1) := (blk_cell BK182.out 1).trans rfl
      have hcz8_2 : w3.cell? ⟨gb182, 2, none⟩ = some (.int .i64 a0_2) := (blk_cell BK182.out 2).trans rfl
      have hcz8_3 : w3.cell? ⟨gb182, 3, none⟩ = some (.int .i64 a0_3) := (blk_cell BK182.out 3).trans rfl
      have hcz8_4 : w3.cell? ⟨gb182, 4, none⟩ = some (.slice A0_4 l0_4.length c0_4) := (blk_cell BK182.out 4).trans rfl
      have hcz8_5 : w3.cell? ⟨gb182, 5, none⟩ = some (.slice A0_5 l0_5.length c0_5) := (blk_cell BK182.out 5).trans rfl
      have hcz8_6 : w3.cell? ⟨gb182, 6, none⟩ = some (.int .i64 a0_6) := (blk_cell BK182.out 6).trans rfl
      have hcz8_7 : w3.cell? ⟨gb182, 7, none⟩ = some (.bool a0_7) := (blk_cell BK182.out 7).trans rfl
      have hfz8_0 := blk_frozen BK182.out 0
      have hfz8_1 := blk_frozen BK182.out 1
      have hfz8_2 := blk_frozen BK182.out 2
      have hfz8_3 := blk_frozen BK182.out 3
      have hfz8_4 := blk_frozen BK182.out 4
      have hfz8_5 := blk_frozen BK182.out 5
      have hfz8_6 := blk_frozen BK182.out 6
      have hfz8_7 := blk_frozen BK182.out 7
      go_wp2_with (first | ((with_reducible refine gate_callee (f := 24) rfl ?_); refine goesL_ (some 7) rfl rfl Tryd.func24 (by kernel_rfl) rfl #[.int .i64 a0_2, .int .i64 (-1), .int .i64 4] rfl (by (try simp only [List.map_toArray, List.map_cons, List.map_nil]); first | done | rfl | (simp only [List.length_drop, List.length_take]; rfl)) ?_; (with_reducible refine (preset_within.calls a0_2 (-1) 4 false _ A4.out).mono ?_); rintro e w' ⟨rfl, ⟨nd, rfl⟩⟩; refine ⟨_, rfl, ?_⟩))
      go_meet
      case rel => exact ⟨_, (false), (by first | rfl | (simp; done) | (simp [*]; done)), H', ⟨by first | omega | exact Nat.le_refl _⟩, ⟨by (with_reducible repeat (first | refine blk_drewN ?_ _ | refine blk_drew ?_ | refine blk_alloc ?_ _)); exact BK182.out⟩, ⟨by repeat (first | (with_reducible first | exact HB.out | apply below_alloc | apply pw_below_drewN | apply below_drew1 | refine below_set ?_ GE182.out) | exact HB.out)⟩⟩
  case rest =>
    clear HC2
    try clear c1
    try clear c2
    try clear p2
    try clear c5
    try clear hcz7_0
    try clear hcz7_1
    try clear hcz7_2
    try clear hcz7_3
    try clear hcz7_4
    try clear hcz7_5
    try clear hcz7_6
    try clear hcz7_7
    try clear hcz8_0
    try clear hcz8_1
    try clear hcz8_2
    try clear hcz8_3
    try clear hcz8_4
    try clear hcz8_5
    try clear hcz8_6
    try clear hcz8_7
    try clear hfz7_0
    try clear hfz7_1
    try clear hfz7_2
    try clear hfz7_3
    try clear hfz7_4
    try clear hfz7_5
    try clear hfz7_6
    try clear hfz7_7
    try clear hfz8_0
    try clear hfz8_1
    try clear hfz8_2
    try clear hfz8_3
    try clear hfz8_4
    try clear hfz8_5
    try clear hfz8_6
    try clear hfz8_7
    obtain ⟨kq, x3_1, rfl, HA, HJ1, BK182, HB⟩ := hcut
    cases kq with
    | zero => exact absurd HA.out (by simp [preset_Check.j0])
    | succ kj1 =>
      have H := HA.out
      clear HA
      simp only [preset_Check.j0] at H
      have HC9 := Aside0.mk H
      clear H
      go_upto_region 2 with (fail)
      go_cut [4] (fun v4 wc => ∃ (kq : Nat) (x4_8 : Bool), v4 = .bool x4_8 ∧ Aside0 (preset_Check.j1 kq x3_1 x4_8 a0_0 a0_1 a0_2 a0_3 l0_4 l0_5 a0_6 a0_7 = some r) ∧ Aside0 (kq ≤ kj1) ∧ Aside0 (wc.heap[gb182]? = some (.cells #[.int .i64 a0_0, .bool a0_1, .int .i64 a0_2, .int .i64 a0_3, (.slice A0_4 l0_4.length c0_4), (.slice A0_5 l0_5.length c0_5), .int .i64 a0_6, .bool a0_7] 24 (0, 0))) ∧ Aside0 (Below w.heap.size w wc))
      case first =>
        have H := HC9.out
        clear HC9
        replace H := Option.bind_eq_some_iff.mp H
        obtain ⟨t185, A100, H⟩ := H
        replace H : (if t185 = true then ((preset_rising.f kj1 l0_5 3 0 2).bind fun t186 => (preset_Check.j1 kj1 x3_1 t186 a0_0 a0_1 a0_2 a0_3 l0_4 l0_5 a0_6 a0_7)) else (preset_Check.j1 kj1 x3_1 false a0_0 a0_1 a0_2 a0_3 l0_4 l0_5 a0_6 a0_7)) = some r := H
        have A10 := Aside0.mk A100
        clear A100
        by_cases c11 : t185 = true
        · subst c11
          have H1 : ((preset_rising.f kj1 l0_5 3 0 2).bind fun t186 => (preset_Check.j1 kj1 x3_1 t186 a0_0 a0_1 a0_2 a0_3 l0_4 l0_5 a0_6 a0_7)) = some r := by rw [if_pos rfl] at H; exact H
          clear H
          have H := H1
          clear H1
          replace H := Option.bind_eq_some_iff.mp H
          obtain ⟨t186, A120, H⟩ := H
          replace H : (preset_Check.j1 kj1 x3_1 t186 a0_0 a0_1 a0_2 a0_3 l0_4 l0_5 a0_6 a0_7) = some r := H
          have A12 := Aside0.mk A120
          clear A120
          have H' := Aside0.mk H
          clear H
          have hcz13_0 : wc.cell? ⟨gb182, 0, none⟩ = some (.int .i64 a0_0) := (blk_cell BK182.out 0).trans rfl
          have hcz13_1 : wc.cell? ⟨gb182, 1, none⟩ = some (.bool a0_1) := (blk_cell BK182.out 1).trans rfl
          have hcz13_2 : wc.cell? ⟨gb182, 2, none⟩ = some (.int .i64 a0_2) := (blk_cell BK182.out 2).trans rfl
          have hcz13_3 : wc.cell? ⟨gb182, 3, none⟩ = some (.int .i64 a0_3) := (blk_cell BK182.out 3).trans rfl
          have hcz13_4 : wc.cell? ⟨gb182, 4, none⟩ = some (.slice A0_4 l0_4.length c0_4) := (blk_cell BK182.out 4).trans rfl
          have hcz13_5 : wc.cell? ⟨gb182, 5, none⟩ = some (.slice A0_5 l0_5.length c0_5) := (blk_cell BK182.out 5).trans rfl
          have hcz13_6 : wc.cell? ⟨gb182, 6, none⟩ = some (.int .i64 a0_6) := (blk_cell BK182.out 6).trans rfl
          have hcz13_7 : wc.cell? ⟨gb182, 7, none⟩ = some (.bool a0_7) := (blk_cell BK182.out 7).trans rfl
          have hfz13_0 := blk_frozen BK182.out 0
          have hfz13_1 := blk_frozen BK182.out 1
          have hfz13_2 := blk_frozen BK182.out 2
          have hfz13_3 := blk_frozen BK182.out 3
          have hfz13_4 := blk_frozen BK182.out 4
          have hfz13_5 := blk_frozen BK182.out 5
          have hfz13_6 := blk_frozen BK182.out 6
          have hfz13_7 := blk_frozen BK182.out 7
          go_wp2_with (first | ((with_reducible refine gate_callee (f := 25) rfl ?_); refine goesL_ (some 15) rfl rfl Tryd.func25 (by kernel_rfl) rfl #[.slice A0_4 l0_4.length c0_4, .int .i64 4, .int .i64 2, .int .i64 15] rfl (by (try simp only [List.map_toArray, List.map_cons, List.map_nil]); first | done | rfl | (simp only [List.length_drop, List.length_take]; rfl)) ?_; (with_reducible refine (preset_rising.calls kj1 _ _ l0_4 4 2 15 true _ ?side1 ?side2 A10.out).mono ?_); (case side1 => repeat (first | exact (Kd.C_below HR0_4.out HB.out) | (with_reducible refine Kd.C_alloc ?_ _) | (with_reducible refine Kd.C_drewN ?_ _) | (with_reducible refine Kd.C_drew ?_))); (case side2 => exact HC0_4.out); rintro e w' ⟨rfl, ⟨nd, rfl⟩⟩; refine ⟨_, rfl, ?_⟩) | (go_at_call 25; (with_reducible refine (preset_rising.calls kj1 _ _ l0_5 3 0 2 t186 _ ?side1 ?side2 A12.out).mono ?_); (case side1 => repeat (first | exact (Kd.C_below HR0_5.out (by repeat (first | (with_reducible first | exact HB.out | apply below_alloc | apply pw_below_drewN | apply below_drew1 | refine below_set ?_ GE182.out) | exact HB.out))) | (with_reducible refine Kd.C_alloc ?_ _) | (with_reducible refine Kd.C_drewN ?_ _) | (with_reducible refine Kd.C_drew ?_))); (case side2 => exact HC0_5.out); rintro e w' ⟨rfl, ⟨nd, rfl⟩⟩))
          go_meet
          case rel => exact ⟨_, (t186), (by first | rfl | (simp; done) | (simp [*]; done)), H', ⟨by have := HJ1.out; first | omega | exact Nat.le_refl _⟩, ⟨by (with_reducible repeat (first | refine blk_drewN ?_ _ | refine blk_drew ?_ | refine blk_alloc ?_ _)); exact BK182.out⟩, ⟨by repeat (first | (with_reducible first | exact HB.out | apply below_alloc | apply pw_below_drewN | apply below_drew1 | refine below_set ?_ GE182.out) | exact HB.out)⟩⟩
        · replace c11 := Bool.eq_false_iff.mpr c11
          subst c11
          have H1 : (preset_Check.j1 kj1 x3_1 false a0_0 a0_1 a0_2 a0_3 l0_4 l0_5 a0_6 a0_7) = some r := by rw [if_neg (show ¬ (false = true) by decide)] at H; exact H
          clear H
          have H := H1
          clear H1
          have H' := Aside0.mk H
          clear H
          have hcz14_0 : wc.cell? ⟨gb182, 0, none⟩ = some (.int .i64 a0_0) := (blk_cell BK182.out 0).trans rfl
          have hcz14_1 : wc.cell? ⟨gb182, 1, none⟩ = some (.bool a0_1) := (blk_cell BK182.out 1).trans rfl
          have hcz14_2 : wc.cell? ⟨gb182, 2, none⟩ = some (.int .i64 a0_2) := (blk_cell BK182.out 2).trans rfl
          have hcz14_3 : wc.cell? ⟨gb182, 3, none⟩ = some (.int .i64 a0_3) := (blk_cell BK182.out 3).trans rfl
          have hcz14_4 : wc.cell? ⟨gb182, 4, none⟩ = some (.slice A0_4 l0_4.length c0_4) := (blk_cell BK182.out 4).trans rfl
          have hcz14_5 : wc.cell? ⟨gb182, 5, none⟩ = some (.slice A0_5 l0_5.length c0_5) := (blk_cell BK182.out 5).trans rfl
          have hcz14_6 : wc.cell? ⟨gb182, 6, none⟩ = some (.int .i64 a0_6) := (blk_cell BK182.out 6).trans rfl
          have hcz14_7 : wc.cell? ⟨gb182, 7, none⟩ = some (.bool a0_7) := (blk_cell BK182.out 7).trans rfl
          have hfz14_0 := blk_frozen BK182.out 0
          have hfz14_1 := blk_frozen BK182.out 1
          have hfz14_2 := blk_frozen BK182.out 2
          have hfz14_3 := blk_frozen BK182.out 3
          have hfz14_4 := blk_frozen BK182.out 4
          have hfz14_5 := blk_frozen BK182.out 5
          have hfz14_6 := blk_frozen BK182.out 6
          have hfz14_7 := blk_frozen BK182.out 7
          go_wp2_with (first | ((with_reducible refine gate_callee (f := 25) rfl ?_); refine goesL_ (some 15) rfl rfl Tryd.func25 (by kernel_rfl) rfl #[.slice A0_4 l0_4.length c0_4, .int .i64 4, .int .i64 2, .int .i64 15] rfl (by (try simp only [List.map_toArray, List.map_cons, List.map_nil]); first | done | rfl | (simp only [List.length_drop, List.length_take]; rfl)) ?_; (with_reducible refine (preset_rising.calls kj1 _ _ l0_4 4 2 15 false _ ?side1 ?side2 A10.out).mono ?_); (case side1 => repeat (first | exact (Kd.C_below HR0_4.out HB.out) | (with_reducible refine Kd.C_alloc ?_ _) | (with_reducible refine Kd.C_drewN ?_ _) | (with_reducible refine Kd.C_drew ?_))); (case side2 => exact HC0_4.out); rintro e w' ⟨rfl, ⟨nd, rfl⟩⟩; refine ⟨_, rfl, ?_⟩))
          go_meet
          case rel => exact ⟨_, (false), (by first | rfl | (simp; done) | (simp [*]; done)), H', ⟨by have := HJ1.out; first | omega | exact Nat.le_refl _⟩, ⟨by (with_reducible repeat (first | refine blk_drewN ?_ _ | refine blk_drew ?_ | refine blk_alloc ?_ _)); exact BK182.out⟩, ⟨by repeat (first | (with_reducible first | exact HB.out | apply below_alloc | apply pw_below_drewN | apply below_drew1 | refine below_set ?_ GE182.out) | exact HB.out)⟩⟩
      case rest =>
        clear HC9
        try clear c1
        try clear c2
        try clear p2
        try clear c5
        try clear c11
        try clear c12
        try clear hcz13_0
        try clear hcz13_1
        try clear hcz13_2
        try clear hcz13_3
        try clear hcz13_4
        try clear hcz13_5
        try clear hcz13_6
        try clear hcz13_7
        try clear hcz14_0
        try clear hcz14_1
        try clear hcz14_2
        try clear hcz14_3
        try clear hcz14_4
        try clear hcz14_5
        try clear hcz14_6
        try clear hcz14_7
        try clear hcz7_0
        try clear hcz7_1
        try clear hcz7_2
        try clear hcz7_3
        try clear hcz7_4
        try clear hcz7_5
        try clear hcz7_6
        try clear hcz7_7
        try clear hcz8_0
        try clear hcz8_1
        try clear hcz8_2
        try clear hcz8_3
        try clear hcz8_4
        try clear hcz8_5
        try clear hcz8_6
        try clear hcz8_7
        try clear hfz13_0
        try clear hfz13_1
        try clear hfz13_2
        try clear hfz13_3
        try clear hfz13_4
        try clear hfz13_5
        try clear hfz13_6
        try clear hfz13_7
        try clear hfz14_0
        try clear hfz14_1
        try clear hfz14_2
        try clear hfz14_3
        try clear hfz14_4
        try clear hfz14_5
        try clear hfz14_6
        try clear hfz14_7
        try clear hfz7_0
        try clear hfz7_1
        try clear hfz7_2
        try clear hfz7_3
        try clear hfz7_4
        try clear hfz7_5
        try clear hfz7_6
        try clear hfz7_7
        try clear hfz8_0
        try clear hfz8_1
        try clear hfz8_2
        try clear hfz8_3
        try clear hfz8_4
        try clear hfz8_5
        try clear hfz8_6
        try clear hfz8_7
        try clear p2
        obtain ⟨kq, x4_8, rfl, HA, HJ8, BK182, HB⟩ := hcut
        cases kq with
        | zero => exact absurd HA.out (by simp [preset_Check.j1])
        | succ kj8 =>
          have H := HA.out
          clear HA
          simp only [preset_Check.j1] at H
          have HC15 := Aside0.mk H
          clear H
          go_upto_region 3 with (fail)
          go_cut [38] (fun v38 wc => ∃ (kq : Nat) (x38_14 : Bool), v38 = .bool x38_14 ∧ Aside0 (preset_Check.j2 kq x38_14 a0_0 a0_1 a0_2 a0_3 l0_4 l0_5 a0_6 a0_7 = some r) ∧ Aside0 (kq ≤ kj8) ∧ Aside0 (wc.heap[gb182]? = some (.cells #[.int .i64 a0_0, .bool a0_1, .int .i64 a0_2, .int .i64 a0_3, (.slice A0_4 l0_4.length c0_4), (.slice A0_5 l0_5.length c0_5), .int .i64 a0_6, .bool a0_7] 24 (0, 0))) ∧ Aside0 (Below w.heap.size w wc))
          case first =>
            have H := HC15.out
            clear HC15
            by_cases c16 : x3_1 = true
            · subst c16
              have H1 : (if x4_8 = true then ((preset_within.f a0_0 1 65535).bind fun t187 => (if t187 = true then ((preset_within.f a0_6 0 8).bind fun t188 => (preset_Check.j2 kj8 (!t188) a0_0 a0_1 a0_2 a0_3 l0_4 l0_5 a0_6 a0_7)) else (preset_Check.j2 kj8 true a0_0 a0_1 a0_2 a0_3 l0_4 l0_5 a0_6 a0_7))) else (preset_Check.j2 kj8 true a0_0 a0_1 a0_2 a0_3 l0_4 l0_5 a0_6 a0_7)) = some r := by rw [if_pos rfl] at H; exact H
              clear H
              have H := H1
              clear H1
              by_cases c17 : x4_8 = true
              · subst c17
                have H1 : ((preset_within.f a0_0 1 65535).bind fun t187 => (if t187 = true then ((preset_within.f a0_6 0 8).bind fun t188 => (preset_Check.j2 kj8 (!t188) a0_0 a0_1 a0_2 a0_3 l0_4 l0_5 a0_6 a0_7)) else (preset_Check.j2 kj8 true a0_0 a0_1 a0_2 a0_3 l0_4 l0_5 a0_6 a0_7))) = some r := by rw [if_pos rfl] at H; exact H
                clear H
                have H := H1
                clear H1
                replace H := Option.bind_eq_some_iff.mp H
                obtain ⟨t187, A180, H⟩ := H
                replace H : (if t187 = true then ((preset_within.f a0_6 0 8).bind fun t188 => (preset_Check.j2 kj8 (!t188) a0_0 a0_1 a0_2 a0_3 l0_4 l0_5 a0_6 a0_7)) else (preset_Check.j2 kj8 true a0_0 a0_1 a0_2 a0_3 l0_4 l0_5 a0_6 a0_7)) = some r := H
                have A18 := Aside0.mk A180
                clear A180
                by_cases c19 : t187 = true
                · subst c19
                  have H1 : ((preset_within.f a0_6 0 8).bind fun t188 => (preset_Check.j2 kj8 (!t188) a0_0 a0_1 a0_2 a0_3 l0_4 l0_5 a0_6 a0_7)) = some r := by rw [if_pos rfl] at H; exact H
                  clear H
                  have H := H1
                  clear H1
                  replace H := Option.bind_eq_some_iff.mp H
                  obtain ⟨t188, A200, H⟩ := H
                  replace H : (preset_Check.j2 kj8 (!t188) a0_0 a0_1 a0_2 a0_3 l0_4 l0_5 a0_6 a0_7) = some r := H
                  have A20 := Aside0.mk A200
                  clear A200
                  have H' := Aside0.mk H
                  clear H
                  have hcz21_0 : wc.cell? ⟨gb182, 0, none⟩ = some (.int .i64 a0_0) := (blk_cell BK182.out 0).trans rfl
                  have hcz21_1 : wc.cell? ⟨gb182, 1, none⟩ = some (.bool a0_1) := (blk_cell BK182.out 1).trans rfl
                  have hcz21_2 : wc.cell? ⟨gb182, 2, none⟩ = some (.int .i64 a0_2) := (blk_cell BK182.out 2).trans rfl
                  have hcz21_3 : wc.cell? ⟨gb182, 3, none⟩ = some (.int .i64 a0_3) := (blk_cell BK182.out 3).trans rfl
                  have hcz21_4 : wc.cell? ⟨gb182, 4, none⟩ = some (.slice A0_4 l0_4.length c0_4) := (blk_cell BK182.out 4).trans rfl
                  have hcz21_5 : wc.cell? ⟨gb182, 5, none⟩ = some (.slice A0_5 l0_5.length c0_5) := (blk_cell BK182.out 5).trans rfl
                  have hcz21_6 : wc.cell? ⟨gb182, 6, none⟩ = some (.int .i64 a0_6) := (blk_cell BK182.out 6).trans rfl
                  have hcz21_7 : wc.cell? ⟨gb182, 7, none⟩ = some (.bool a0_7) := (blk_cell BK182.out 7).trans rfl
                  have hfz21_0 := blk_frozen BK182.out 0
                  have hfz21_1 := blk_frozen BK182.out 1
                  have hfz21_2 := blk_frozen BK182.out 2
                  have hfz21_3 := blk_frozen BK182.out 3
                  have hfz21_4 := blk_frozen BK182.out 4
                  have hfz21_5 := blk_frozen BK182.out 5
                  have hfz21_6 := blk_frozen BK182.out 6
                  have hfz21_7 := blk_frozen BK182.out 7
                  go_wp2_with (first | (go_at_call 24; (with_reducible refine (preset_within.calls a0_0 1 65535 true _ A18.out).mono ?_); rintro e w' ⟨rfl, ⟨nd, rfl⟩⟩) | (go_at_call 24; (with_reducible refine (preset_within.calls a0_6 0 8 t188 _ A20.out).mono ?_); rintro e w' ⟨rfl, ⟨nd, rfl⟩⟩))
                  go_meet
                  case rel => exact ⟨_, (!t188), (by first | rfl | (simp; done) | (simp [*]; done)), H', ⟨by have := HJ1.out; have := HJ8.out; first | omega | exact Nat.le_refl _⟩, ⟨by (with_reducible repeat (first | refine blk_drewN ?_ _ | refine blk_drew ?_ | refine blk_alloc ?_ _)); exact BK182.out⟩, ⟨by repeat (first | (with_reducible first | exact HB.out | apply below_alloc | apply pw_below_drewN | apply below_drew1 | refine below_set ?_ GE182.out) | exact HB.out)⟩⟩
                · replace c19 := Bool.eq_false_iff.mpr c19
                  subst c19
                  have H1 : (preset_Check.j2 kj8 true a0_0 a0_1 a0_2 a0_3 l0_4 l0_5 a0_6 a0_7) = some r := by rw [if_neg (show ¬ (false = true) by decide)] at H; exact H
                  clear H
                  have H := H1
                  clear H1
                  have H' := Aside0.mk H
                  clear H
                  have hcz22_0 : wc.cell? ⟨gb182, 0, none⟩ = some (.int .i64 a0_0) := (blk_cell BK182.out 0).trans rfl
                  have hcz22_1 : wc.cell? ⟨gb182, 1, none⟩ = some (.bool a0_1) := (blk_cell BK182.out 1).trans rfl
                  have hcz22_2 : wc.cell? ⟨gb182, 2, none⟩ = some (.int .i64 a0_2) := (blk_cell BK182.out 2).trans rfl
                  have hcz22_3 : wc.cell? ⟨gb182, 3, none⟩ = some (.int .i64 a0_3) := (blk_cell BK182.out 3).trans rfl
                  have hcz22_4 : wc.cell? ⟨gb182, 4, none⟩ = some (.slice A0_4 l0_4.length c0_4) := (blk_cell BK182.out 4).trans rfl
                  have hcz22_5 : wc.cell? ⟨gb182, 5, none⟩ = some (.slice A0_5 l0_5.length c0_5) := (blk_cell BK182.out 5).trans rfl
                  have hcz22_6 : wc.cell? ⟨gb182, 6, none⟩ = some (.int .i64 a0_6) := (blk_cell BK182.out 6).trans rfl
                  have hcz22_7 : wc.cell? ⟨gb182, 7, none⟩ = some (.bool a0_7) := (blk_cell BK182.out 7).trans rfl
                  have hfz22_0 := blk_frozen BK182.out 0
                  have hfz22_1 := blk_frozen BK182.out 1
                  have hfz22_2 := blk_frozen BK182.out 2
                  have hfz22_3 := blk_frozen BK182.out 3
                  have hfz22_4 := blk_frozen BK182.out 4
                  have hfz22_5 := blk_frozen BK182.out 5
                  have hfz22_6 := blk_frozen BK182.out 6
                  have hfz22_7 := blk_frozen BK182.out 7
                  go_wp2_with (first | (go_at_call 24; (with_reducible refine (preset_within.calls a0_0 1 65535 false _ A18.out).mono ?_); rintro e w' ⟨rfl, ⟨nd, rfl⟩⟩))
                  go_meet
                  case rel => exact ⟨_, (true), (by first | rfl | (simp; done) | (simp [*]; done)), H', ⟨by have := HJ1.out; have := HJ8.out; first | omega | exact Nat.le_refl _⟩, ⟨by (with_reducible repeat (first | refine blk_drewN ?_ _ | refine blk_drew ?_ | refine blk_alloc ?_ _)); exact BK182.out⟩, ⟨by repeat (first | (with_reducible first | exact HB.out | apply below_alloc | apply pw_below_drewN | apply below_drew1 | refine below_set ?_ GE182.out) | exact HB.out)⟩⟩
              · replace c17 := Bool.eq_false_iff.mpr c17
                subst c17
                have H1 : (preset_Check.j2 kj8 true a0_0 a0_1 a0_2 a0_3 l0_4 l0_5 a0_6 a0_7) = some r := by rw [if_neg (show ¬ (false = true) by decide)] at H; exact H
                clear H
                have H := H1
                clear H1
                have H' := Aside0.mk H
                clear H
                go_wp2
                go_meet
                case rel => exact ⟨_, (true), (by first | rfl | (simp; done) | (simp [*]; done)), H', ⟨by have := HJ1.out; have := HJ8.out; first | omega | exact Nat.le_refl _⟩, ⟨by (with_reducible repeat (first | refine blk_drewN ?_ _ | refine blk_drew ?_ | refine blk_alloc ?_ _)); exact BK182.out⟩, ⟨by repeat (first | (with_reducible first | exact HB.out | apply below_alloc | apply pw_below_drewN | apply below_drew1 | refine below_set ?_ GE182.out) | exact HB.out)⟩⟩
            · replace c16 := Bool.eq_false_iff.mpr c16
              subst c16
              have H1 : (preset_Check.j2 kj8 true a0_0 a0_1 a0_2 a0_3 l0_4 l0_5 a0_6 a0_7) = some r := by rw [if_neg (show ¬ (false = true) by decide)] at H; exact H
              clear H
              have H := H1
              clear H1
              have H' := Aside0.mk H
              clear H
              go_wp2
              go_meet
              case rel => exact ⟨_, (true), (by first | rfl | (simp; done) | (simp [*]; done)), H', ⟨by have := HJ1.out; have := HJ8.out; first | omega | exact Nat.le_refl _⟩, ⟨by (with_reducible repeat (first | refine blk_drewN ?_ _ | refine blk_drew ?_ | refine blk_alloc ?_ _)); exact BK182.out⟩, ⟨by repeat (first | (with_reducible first | exact HB.out | apply below_alloc | apply pw_below_drewN | apply below_drew1 | refine below_set ?_ GE182.out) | exact HB.out)⟩⟩
          case rest =>
            clear HC15
            try clear c1
            try clear c2
            try clear p2
            try clear c5
            try clear c11
            try clear c12
            try clear c16
            try clear c17
            try clear c19
            try clear hcz13_0
            try clear hcz13_1
            try clear hcz13_2
            try clear hcz13_3
            try clear hcz13_4
            try clear hcz13_5
            try clear hcz13_6
            try clear hcz13_7
            try clear hcz14_0
            try clear hcz14_1
            try clear hcz14_2
            try clear hcz14_3
            try clear hcz14_4
            try clear hcz14_5
            try clear hcz14_6
            try clear hcz14_7
            try clear hcz21_0
            try clear hcz21_1
            try clear hcz21_2
            try clear hcz21_3
            try clear hcz21_4
            try clear hcz21_5
            try clear hcz21_6
            try clear hcz21_7
            try clear hcz22_0
            try clear hcz22_1
            try clear hcz22_2
            try clear hcz22_3
            try clear hcz22_4
            try clear hcz22_5
            try clear hcz22_6
            try clear hcz22_7
            try clear hcz7_0
            try clear hcz7_1
            try clear hcz7_2
            try clear hcz7_3
            try clear hcz7_4
            try clear hcz7_5
            try clear hcz7_6
            try clear hcz7_7
            try clear hcz8_0
            try clear hcz8_1
            try clear hcz8_2
            try clear hcz8_3
            try clear hcz8_4
            try clear hcz8_5
            try clear hcz8_6
            try clear hcz8_7
            try clear hfz13_0
            try clear hfz13_1
            try clear hfz13_2
            try clear hfz13_3
            try clear hfz13_4
            try clear hfz13_5
            try clear hfz13_6
            try clear hfz13_7
            try clear hfz14_0
            try clear hfz14_1
            try clear hfz14_2
            try clear hfz14_3
            try clear hfz14_4
            try clear hfz14_5
            try clear hfz14_6
            try clear hfz14_7
            try clear hfz21_0
            try clear hfz21_1
            try clear hfz21_2
            try clear hfz21_3
            try clear hfz21_4
            try clear hfz21_5
            try clear hfz21_6
            try clear hfz21_7
            try clear hfz22_0
            try clear hfz22_1
            try clear hfz22_2
            try clear hfz22_3
            try clear hfz22_4
            try clear hfz22_5
            try clear hfz22_6
            try clear hfz22_7
            try clear hfz7_0
            try clear hfz7_1
            try clear hfz7_2
            try clear hfz7_3
            try clear hfz7_4
            try clear hfz7_5
            try clear hfz7_6
            try clear hfz7_7
            try clear hfz8_0
            try clear hfz8_1
            try clear hfz8_2
            try clear hfz8_3
            try clear hfz8_4
            try clear hfz8_5
            try clear hfz8_6
            try clear hfz8_7
            try clear p2
            obtain ⟨kq, x38_14, rfl, HA, HJ14, BK182, HB⟩ := hcut
            cases kq with
            | zero => exact absurd HA.out (by simp [preset_Check.j2])
            | succ kj14 =>
              have H := HA.out
              clear HA
              simp only [preset_Check.j2] at H
              by_cases c23 : x38_14 = true
              · subst c23
                have H1 : (some 17) = some r := by rw [if_pos rfl] at H; exact H
                clear H
                have H := H1
                clear H1
                obtain rfl := Option.some.inj H
                go_wp2
                go_ret
                exact ⟨by first | rfl | (simp [errW_none, errW_some] <;> rfl) | (simp [*, errW_none, errW_some] <;> rfl), by repeat (first | (with_reducible first | exact HB.out | apply below_alloc | apply pw_below_drewN | apply below_drew1 | refine below_set ?_ GE182.out) | exact HB.out)⟩
              · replace c23 := Bool.eq_false_iff.mpr c23
                subst c23
                have H1 : (if a0_3 > 0 then (if (l0_4.length : Int) = 0 then (some 17) else (if (l0_5.length : Int) = 0 then (some 17) else (some 0))) else (some 0)) = some r := by rw [if_neg (show ¬ (false = true) by decide)] at H; exact H
                clear H
                have H := H1
                clear H1
                by_cases c24 : a0_3 > 0
                · rw [if_pos c24] at H
                  have c24b0 : decide (0 < a0_3) = true := decide_eq_true c24
                  clear c24
                  by_cases c25 : (l0_4.length : Int) = 0
                  · rw [if_pos c25] at H
                    have c25b0 : ((l0_4.length : Int) == 0) = true := beq_iff_eq.mpr c25
                    have c25b1 : ((l0_4.length : Int) != 0) = false := bne_eq_false_iff_eq.mpr c25
                    clear c25
                    obtain rfl := Option.some.inj H
                    have hcz26_0 : wc.cell? ⟨gb182, 0, none⟩ = some (.int .i64 a0_0) := (blk_cell BK182.out 0).trans rfl
                    have hcz26_1 : wc.cell? ⟨gb182, 1, none⟩ = some (.bool a0_1) := (blk_cell BK182.out 1).trans rfl
                    have hcz26_2 : wc.cell? ⟨gb182, 2, none⟩ = some (.int .i64 a0_2) := (blk_cell BK182.out 2).trans rfl
                    have hcz26_3 : wc.cell? ⟨gb182, 3, none⟩ = some (.int .i64 a0_3) := (blk_cell BK182.out 3).trans rfl
                    have hcz26_4 : wc.cell? ⟨gb182, 4, none⟩ = some (.slice A0_4 l0_4.length c0_4) := (blk_cell BK182.out 4).trans rfl
                    have hcz26_5 : wc.cell? ⟨gb182, 5, none⟩ = some (.slice A0_5 l0_5.length c0_5) := (blk_cell BK182.out 5).trans rfl
                    have hcz26_6 : wc.cell? ⟨gb182, 6, none⟩ = some (.int .i64 a0_6) := (blk_cell BK182.out 6).trans rfl
                    have hcz26_7 : wc.cell? ⟨gb182, 7, none⟩ = some (.bool a0_7) := (blk_cell BK182.out 7).trans rfl
                    have hfz26_0 := blk_frozen BK182.out 0
                    have hfz26_1 := blk_frozen BK182.out 1
                    have hfz26_2 := blk_frozen BK182.out 2
                    have hfz26_3 := blk_frozen BK182.out 3
                    have hfz26_4 := blk_frozen BK182.out 4
                    have hfz26_5 := blk_frozen BK182.out 5
                    have hfz26_6 := blk_frozen BK182.out 6
                    have hfz26_7 := blk_frozen BK182.out 7
                    go_wp2
                    go_ret
                    exact ⟨by first | rfl | (simp [errW_none, errW_some] <;> rfl) | (simp [*, errW_none, errW_some] <;> rfl), by repeat (first | (with_reducible first | exact HB.out | apply below_alloc | apply pw_below_drewN | apply below_drew1 | refine below_set ?_ GE182.out) | exact HB.out)⟩
                  · rw [if_neg c25] at H
                    have c25b0 : ((l0_4.length : Int) == 0) = false := beq_eq_false_iff_ne.mpr c25
                    have c25b1 : ((l0_4.length : Int) != 0) = true := bne_iff_ne.mpr c25
                    have c25b2 : ¬ (l0_4 = []) := fun h_ => c25 (by rw [h_]; rfl)
                    by_cases c27 : (l0_5.length : Int) = 0
                    · rw [if_pos c27] at H
                      have c27b0 : ((l0_5.length : Int) == 0) = true := beq_iff_eq.mpr c27
                      have c27b1 : ((l0_5.length : Int) != 0) = false := bne_eq_false_iff_eq.mpr c27
                      clear c27
                      obtain rfl := Option.some.inj H
                      have hcz28_0 : wc.cell? ⟨gb182, 0, none⟩ = some (.int .i64 a0_0) := (blk_cell BK182.out 0).trans rfl
                      have hcz28_1 : wc.cell? ⟨gb182, 1, none⟩ = some (.bool a0_1) := (blk_cell BK182.out 1).trans rfl
                      have hcz28_2 : wc.cell? ⟨gb182, 2, none⟩ = some (.int .i64 a0_2) := (blk_cell BK182.out 2).trans rfl
                      have hcz28_3 : wc.cell? ⟨gb182, 3, none⟩ = some (.int .i64 a0_3) := (blk_cell BK182.out 3).trans rfl
                      have hcz28_4 : wc.cell? ⟨gb182, 4, none⟩ = some (.slice A0_4 l0_4.length c0_4) := (blk_cell BK182.out 4).trans rfl
                      have hcz28_5 : wc.cell? ⟨gb182, 5, none⟩ = some (.slice A0_5 l0_5.length c0_5) := (blk_cell BK182.out 5).trans rfl
                      have hcz28_6 : wc.cell? ⟨gb182, 6, none⟩ = some (.int .i64 a0_6) := (blk_cell BK182.out 6).trans rfl
                      have hcz28_7 : wc.cell? ⟨gb182, 7, none⟩ = some (.bool a0_7) := (blk_cell BK182.out 7).trans rfl
                      have hfz28_0 := blk_frozen BK182.out 0
                      have hfz28_1 := blk_frozen BK182.out 1
                      have hfz28_2 := blk_frozen BK182.out 2
                      have hfz28_3 := blk_frozen BK182.out 3
                      have hfz28_4 := blk_frozen BK182.out 4
                      have hfz28_5 := blk_frozen BK182.out 5
                      have hfz28_6 := blk_frozen BK182.out 6
                      have hfz28_7 := blk_frozen BK182.out 7
                      go_wp2
                      go_ret
                      exact ⟨by first | rfl | (simp [errW_none, errW_some] <;> rfl) | (simp [*, errW_none, errW_some] <;> rfl), by repeat (first | (with_reducible first | exact HB.out | apply below_alloc | apply pw_below_drewN | apply below_drew1 | refine below_set ?_ GE182.out) | exact HB.out)⟩
                    · rw [if_neg c27] at H
                      have c27b0 : ((l0_5.length : Int) == 0) = false := beq_eq_false_iff_ne.mpr c27
                      have c27b1 : ((l0_5.length : Int) != 0) = true := bne_iff_ne.mpr c27
                      have c27b2 : ¬ (l0_5 = []) := fun h_ => c27 (by rw [h_]; rfl)
                      obtain rfl := Option.some.inj H
                      have hcz29_0 : wc.cell? ⟨gb182, 0, none⟩ = some (.int .i64 a0_0) := (blk_cell BK182.out 0).trans rfl
                      have hcz29_1 : wc.cell? ⟨gb182, 1, none⟩ = some (.bool a0_1) := (blk_cell BK182.out 1).trans rfl
                      have hcz29_2 : wc.cell? ⟨gb182, 2, none⟩ = some (.int .i64 a0_2) := (blk_cell BK182.out 2).trans rfl
                      have hcz29_3 : wc.cell? ⟨gb182, 3, none⟩ = some (.int .i64 a0_3) := (blk_cell BK182.out 3).trans rfl
                      have hcz29_4 : wc.cell? ⟨gb182, 4, none⟩ = some (.slice A0_4 l0_4.length c0_4) := (blk_cell BK182.out 4).trans rfl
                      have hcz29_5 : wc.cell? ⟨gb182, 5, none⟩ = some (.slice A0_5 l0_5.length c0_5) := (blk_cell BK182.out 5).trans rfl
                      have hcz29_6 : wc.cell? ⟨gb182, 6, none⟩ = some (.int .i64 a0_6) := (blk_cell BK182.out 6).trans rfl
                      have hcz29_7 : wc.cell? ⟨gb182, 7, none⟩ = some (.bool a0_7) := (blk_cell BK182.out 7).trans rfl
                      have hfz29_0 := blk_frozen BK182.out 0
                      have hfz29_1 := blk_frozen BK182.out 1
                      have hfz29_2 := blk_frozen BK182.out 2
                      have hfz29_3 := blk_frozen BK182.out 3
                      have hfz29_4 := blk_frozen BK182.out 4
                      have hfz29_5 := blk_frozen BK182.out 5
                      have hfz29_6 := blk_frozen BK182.out 6
                      have hfz29_7 := blk_frozen BK182.out 7
                      go_wp2
                      go_ret
                      exact ⟨by first | rfl | (simp [errW_none, errW_some] <;> rfl) | (simp [*, errW_none, errW_some] <;> rfl), by repeat (first | (with_reducible first | exact HB.out | apply below_alloc | apply pw_below_drewN | apply below_drew1 | refine below_set ?_ GE182.out) | exact HB.out)⟩
                · rw [if_neg c24] at H
                  have c24b0 : decide (0 < a0_3) = false := decide_eq_false c24
                  clear c24
                  obtain rfl := Option.some.inj H
                  have hcz30_0 : wc.cell? ⟨gb182, 0, none⟩ = some (.int .i64 a0_0) := (blk_cell BK182.out 0).trans rfl
                  have hcz30_1 : wc.cell? ⟨gb182, 1, none⟩ = some (.bool a0_1) := (blk_cell BK182.out 1).trans rfl
                  have hcz30_2 : wc.cell? ⟨gb182, 2, none⟩ = some (.int .i64 a0_2) := (blk_cell BK182.out 2).trans rfl
                  have hcz30_3 : wc.cell? ⟨gb182, 3, none⟩ = some (.int .i64 a0_3) := (blk_cell BK182.out 3).trans rfl
                  have hcz30_4 : wc.cell? ⟨gb182, 4, none⟩ = some (.slice A0_4 l0_4.length c0_4) := (blk_cell BK182.out 4).trans rfl
                  have hcz30_5 : wc.cell? ⟨gb182, 5, none⟩ = some (.slice A0_5 l0_5.length c0_5) := (blk_cell BK182.out 5).trans rfl
                  have hcz30_6 : wc.cell? ⟨gb182, 6, none⟩ = some (.int .i64 a0_6) := (blk_cell BK182.out 6).trans rfl
                  have hcz30_7 : wc.cell? ⟨gb182, 7, none⟩ = some (.bool a0_7) := (blk_cell BK182.out 7).trans rfl
                  have hfz30_0 := blk_frozen BK182.out 0
                  have hfz30_1 := blk_frozen BK182.out 1
                  have hfz30_2 := blk_frozen BK182.out 2
                  have hfz30_3 := blk_frozen BK182.out 3
                  have hfz30_4 := blk_frozen BK182.out 4
                  have hfz30_5 := blk_frozen BK182.out 5
                  have hfz30_6 := blk_frozen BK182.out 6
                  have hfz30_7 := blk_frozen BK182.out 7
                  go_wp2
                  go_ret
                  exact ⟨by first | rfl | (simp [errW_none, errW_some] <;> rfl) | (simp [*, errW_none, errW_some] <;> rfl), by repeat (first | (with_reducible first | exact HB.out | apply below_alloc | apply pw_below_drewN | apply below_drew1 | refine below_set ?_ GE182.out) | exact HB.out)⟩

end Go.Proofs.YtgdgncdnhpflcaaDoor.PPresetMore
