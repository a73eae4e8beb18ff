-- written by this session's program wip/reprint.sh (a turned copy of the kit's print): the session's own text
import Derived.Test.YtdacblackoaphaaPBoundFramesx0
import Derived.Test.YtdacblackoaphaaPBoundFramesx1
import Derived.Test.YtdacblackoaphaaPBoundFramesx12
namespace Go.Proofs.Ytdacblackoaphaa.PBoundFrames
open Go.RowKit Go.Proofs.YtdacblackoaphaaW.PrintWords Go.Proofs.YtdacblackoaphaaW.PrintLast Go.Proofs.YtdacblackoaphaaW.PrintMore Go.Proofs.Ytdacblackoaphaa.H
attribute [local go_sem] max2_int min2_int max_two min_two max_three min_three max_four min_four   -- for this text's walks alone
set_option linter.unusedVariables false
set_option linter.unusedSimpArgs false

/-! ### serinetteref24_Head: function 38 -/
def serinetteref24_Head.f (k : Nat) (a0 : Int) (a1 : Int) (a2 : Int) : Option (Int) := (serinetteref17_Put.f k a0 a1 0 0 a2 false).bind fun bt387 => (some (bt387.1.length : Int))
theorem serinetteref24_Head.mono : ∀ a0 a1 a2 k, LeO (serinetteref24_Head.f k a0 a1 a2) (serinetteref24_Head.f (k + 1) a0 a1 a2) := by
  intro a0 a1 a2 k
  unfold serinetteref24_Head.f
  repeat' first
      | (with_reducible exact serinetteref17_Put.mono _ _ _ _ _ _ _)
      | (with_reducible exact LeO.refl _)
      | (with_reducible exact LeO.none _)
      | (with_reducible refine LeO.ite ?_ ?_)
      | (with_reducible refine LeO.bind ?_ (fun _ => ?_))
      | exact serinetteref17_Put.mono _ _ _ _ _ _ _
      | exact LeO.none _
      | refine LeO.ite ?_ ?_
      | refine LeO.bind ?_ (fun _ => ?_)
set_option maxHeartbeats 8000000 in
set_option maxRecDepth 100000 in
theorem serinetteref24_Head.calls (k : Nat) (a0 : Int) (a1 : Int) (a2 : Int) (r : Int) (w : World) (h : serinetteref24_Head.f k a0 a1 a2 = some r) :
    Calls Try.prog 38 #[.int .i64 a0, .int .i64 a1, .int .i64 a2] w fun e w' => e = .returned (.int .i64 r) ∧ Below w.heap.size w w' := by
  have hu70 := Try.underlying70
  have HB := Aside0.mk (Below.refl w.heap.size w)
  have H : ((serinetteref17_Put.f k a0 a1 0 0 a2 false).bind fun bt387 => (some (bt387.1.length : Int))) = some r := h
  clear h
  replace H := Option.bind_eq_some_iff.mp H
  obtain ⟨⟨t387, t390⟩, A40, H⟩ := H
  replace H : (some (t387.length : Int)) = some r := H
  have A4 := Aside0.mk A40
  clear A40
  obtain rfl := Option.some.inj H
  go_enter Try.func38, Try.ntmps38
  go_wp2_with (first | ((with_reducible refine gate_callee (f := 43) rfl ?_); refine goesL_ (some 14) rfl rfl Try.func43 (by kernel_rfl) rfl #[.agg #[.int .i64 a0, .int .i64 a1, .int .i64 0, .int .i64 0, .int .i64 a2, .bool false]] rfl (by (try simp only [List.map_toArray, List.map_cons, List.map_nil]); first | done | rfl | (simp only [List.length_drop, List.length_take]; rfl)) ?_; (with_reducible refine (serinetteref17_Put.calls k a0 a1 0 0 a2 false t387 t390 _ A4.out).mono ?_); rintro e w5 ⟨v388, rfl, ho0, hb⟩; refine ⟨_, rfl, ?_⟩; have n0_ := Aside0.mk (Kd.R_lower ho0 (below_size (by repeat (first | (with_reducible first | exact HB.out | apply below_alloc | apply pw_below_drewN | apply below_drew1) | exact HB.out)))); have n1_ := Aside0.mk (below_step (by repeat (first | (with_reducible first | exact HB.out | apply below_alloc | apply pw_below_drewN | apply below_drew1) | exact HB.out)) hb); clear HB; have HO389 := n0_; have HB := n1_; clear n0_ n1_; (try clear hb); (try clear hb2); (try clear hk); (try clear hi); (try clear ho0); obtain ⟨Ao6, co6, eo6⟩ := Kd.R_slice HO389.out; subst eo6))
  go_ret
  exact ⟨by first | rfl | (simp [errW_none, errW_some] <;> rfl) | (simp [*, errW_none, errW_some] <;> rfl), by repeat (first | (with_reducible first | exact HB.out | apply below_alloc | apply pw_below_drewN | apply below_drew1) | exact HB.out)⟩

/-! ### serinetteref24_Frame: function 28 -/
def serinetteref24_Frame.l0 : Nat → Int → Int → Int → Int → Option (Int)
  | 0, _, _, _, _ => none
  | k + 1, x0, x2, x4, x11 => if (Int.tmod x11 8) = 0 then ((serinetteref24_Head.f k x0 x2 x4).bind fun t391 => (some (wrap64 ((wrap64 (t391 + (wrap64 (Int.tdiv x11 8)))) + 2)))) else (serinetteref24_Frame.l0 k x0 x2 x4 (wrap64 (x11 + 1)))
def serinetteref24_Frame.f (k : Nat) (a0 : Int) (a1 : Int) (a2 : Int) (a3 : Int) (a4 : Int) : Option (Int) := serinetteref24_Frame.l0 k a0 a2 a4 (wrap64 (a1 * (wrap64 (8 + (wrap64 (a3 * a0))))))
theorem serinetteref24_Frame.mono_l : ∀ k, (∀ y0 y1 y2 y3, LeO (serinetteref24_Frame.l0 k y0 y1 y2 y3) (serinetteref24_Frame.l0 (k + 1) y0 y1 y2 y3))
  | 0 => fun _ _ _ _ r h => by simp [serinetteref24_Frame.l0] at h
  | k + 1 => by
    have ih0 := serinetteref24_Frame.mono_l k
    · intro y0 y1 y2 y3
      unfold serinetteref24_Frame.l0
      repeat' first
      | (with_reducible exact ih0 _ _ _ _)
      | (with_reducible exact serinetteref24_Head.mono _ _ _ _)
      | (with_reducible exact LeO.refl _)
      | (with_reducible exact LeO.none _)
      | (with_reducible refine LeO.ite ?_ ?_)
      | (with_reducible refine LeO.bind ?_ (fun _ => ?_))
      | exact ih0 _ _ _ _
      | exact serinetteref24_Head.mono _ _ _ _
      | exact LeO.none _
      | refine LeO.ite ?_ ?_
      | refine LeO.bind ?_ (fun _ => ?_)
theorem serinetteref24_Frame.mono : ∀ a0 a1 a2 a3 a4 k, LeO (serinetteref24_Frame.f k a0 a1 a2 a3 a4) (serinetteref24_Frame.f (k + 1) a0 a1 a2 a3 a4) := by
  intro a0 a1 a2 a3 a4 k
  have ih0 := serinetteref24_Frame.mono_l k
  unfold serinetteref24_Frame.f
  repeat' first
      | (with_reducible exact ih0 _ _ _ _)
      | (with_reducible exact serinetteref24_Head.mono _ _ _ _)
      | (with_reducible exact LeO.refl _)
      | (with_reducible exact LeO.none _)
      | (with_reducible refine LeO.ite ?_ ?_)
      | (with_reducible refine LeO.bind ?_ (fun _ => ?_))
      | exact ih0 _ _ _ _
      | exact serinetteref24_Head.mono _ _ _ _
      | exact LeO.none _
      | refine LeO.ite ?_ ?_
      | refine LeO.bind ?_ (fun _ => ?_)
set_option maxHeartbeats 8000000 in
set_option maxRecDepth 100000 in
theorem serinetteref24_Frame.calls (k : Nat) (a0 : Int) (a1 : Int) (a2 : Int) (a3 : Int) (a4 : Int) (r : Int) (w : World) (h : serinetteref24_Frame.f k a0 a1 a2 a3 a4 = some r) :
    Calls Try.prog 28 #[.int .i64 a0, .int .i64 a1, .int .i64 a2, .int .i64 a3, .int .i64 a4] w fun e w' => e = .returned (.int .i64 r) ∧ Below w.heap.size w w' := by
  have HB := Aside0.mk (Below.refl w.heap.size w)
  have H : (serinetteref24_Frame.l0 k a0 a2 a4 (wrap64 (a1 * (wrap64 (8 + (wrap64 (a3 * a0))))))) = some r := h
  clear h
  have H' := Aside0.mk H
  clear H
  go_enter Try.func28, Try.ntmps28
  go_wp2
  go_loopg [11] k (fun kq v11 w' => ∃ (x11_1 : Int), v11 = .int .i64 x11_1 ∧ Aside0 (serinetteref24_Frame.l0 kq a0 a2 a4 x11_1 = some r) ∧ Aside0 (kq ≤ k) ∧ Aside0 (Below w.heap.size w w'))
  case atStart => exact ⟨(wrap64 (a1 * (wrap64 (8 + (wrap64 (a3 * a0)))))), (by first | rfl | (simp; done) | (simp [*]; done)), H', ⟨Nat.le_refl _⟩, ⟨by repeat (first | (with_reducible first | exact HB.out | apply below_alloc | apply pw_below_drewN | apply below_drew1) | exact HB.out)⟩⟩
  case round =>
    clear H'
    try clear c2
    try clear p2
    obtain ⟨x11_1, rfl, HA, HK1, HB⟩ := hrel
    cases gk with
    | zero => exact absurd HA.out (by simp [serinetteref24_Frame.l0])
    | succ k1 =>
      have H := HA.out
      clear HA
      simp only [serinetteref24_Frame.l0] at H
      by_cases c6 : (Int.tmod x11_1 8) = 0
      · rw [if_pos c6] at H
        have c6b0 : ((Int.tmod x11_1 8) == 0) = true := beq_iff_eq.mpr c6
        have c6b1 : ((Int.tmod x11_1 8) != 0) = false := bne_eq_false_iff_eq.mpr c6
        clear c6
        replace H := Option.bind_eq_some_iff.mp H
        obtain ⟨t391, A70, H⟩ := H
        replace H : (some (wrap64 ((wrap64 (t391 + (wrap64 (Int.tdiv x11_1 8)))) + 2))) = some r := H
        have A7 := Aside0.mk A70
        clear A70
        obtain rfl := Option.some.inj H
        go_wp2_with (first | ((with_reducible refine gate_callee (f := 38) rfl ?_); refine goesL_ (some 26) rfl rfl Try.func38 (by kernel_rfl) rfl #[.int .i64 a0, .int .i64 a2, .int .i64 a4] rfl (by (try simp only [List.map_toArray, List.map_cons, List.map_nil]); first | done | rfl | (simp only [List.length_drop, List.length_take]; rfl)) ?_; (with_reducible refine (serinetteref24_Head.calls k1 a0 a2 a4 t391 _ A7.out).mono ?_); rintro e w8 ⟨rfl, hb⟩; refine ⟨_, rfl, ?_⟩; have n0_ := Aside0.mk (below_step (by repeat (first | (with_reducible first | exact HB.out | apply below_alloc | apply pw_below_drewN | apply below_drew1) | exact HB.out)) hb); clear HB; have HB := n0_; clear n0_; (try clear hb); (try clear hb2); (try clear hk); (try clear hi)))
        go_ret
        exact ⟨by first | rfl | (simp [errW_none, errW_some] <;> rfl) | (simp [*, errW_none, errW_some] <;> rfl), by repeat (first | (with_reducible first | exact HB.out | apply below_alloc | apply pw_below_drewN | apply below_drew1) | exact HB.out)⟩
      · rw [if_neg c6] at H
        have c6b0 : ((Int.tmod x11_1 8) == 0) = false := beq_eq_false_iff_ne.mpr c6
        have c6b1 : ((Int.tmod x11_1 8) != 0) = true := bne_iff_ne.mpr c6
        have H' := Aside0.mk H
        clear H
        go_wp2
        go_roundg k1
        case measure => have := HK1.out; omega
        case rel => exact ⟨(wrap64 (x11_1 + 1)), (by first | rfl | (simp; done) | (simp [*]; done)), H', ⟨by have := HK1.out; omega⟩, ⟨by repeat (first | (with_reducible first | exact HB.out | apply below_alloc | apply pw_below_drewN | apply below_drew1) | exact HB.out)⟩⟩

/-! ### serinetteref24_Frames: function 12 -/
def serinetteref24_Frames.l0 : Nat → Int → Int → Int → Int → Int → Int → Int → Int → Option (Int)
  | 0, _, _, _, _, _, _, _, _ => none
  | k + 1, x0, x1, x2, x3, x4, x11, x12, x13 => if x13 < x0 then ((serinetteref24_Frame.f k (mn x1 (wrap64 (x0 - x13))) x2 x3 x4 x12).bind fun t392 => (serinetteref24_Frames.l0 k x0 x1 x2 x3 x4 (wrap64 (x11 + t392)) (wrap64 (x12 + 1)) (wrap64 (x13 + x1)))) else (some x11)
def serinetteref24_Frames.f (k : Nat) (a0 : Int) (a1 : Int) (a2 : Int) (a3 : Int) (a4 : Int) : Option (Int) := serinetteref24_Frames.l0 k a0 a1 a2 a3 a4 0 0 0
theorem serinetteref24_Frames.mono_l : ∀ k, (∀ y0 y1 y2 y3 y4 y5 y6 y7, LeO (serinetteref24_Frames.l0 k y0 y1 y2 y3 y4 y5 y6 y7) (serinetteref24_Frames.l0 (k + 1) y0 y1 y2 y3 y4 y5 y6 y7))
  | 0 => fun _ _ _ _ _ _ _ _ r h => by simp [serinetteref24_Frames.l0] at h
  | k + 1 => by
    have ih0 := serinetteref24_Frames.mono_l k
    · intro y0 y1 y2 y3 y4 y5 y6 y7
      unfold serinetteref24_Frames.l0
      repeat' first
      | (with_reducible exact ih0 _ _ _ _ _ _ _ _)
      | (with_reducible exact serinetteref24_Frame.mono _ _ _ _ _ _)
      | (with_reducible exact LeO.refl _)
      | (with_reducible exact LeO.none _)
      | (with_reducible refine LeO.ite ?_ ?_)
      | (with_reducible refine LeO.bind ?_ (fun _ => ?_))
      | exact ih0 _ _ _ _ _ _ _ _
      | exact serinetteref24_Frame.mono _ _ _ _ _ _
      | exact LeO.none _
      | refine LeO.ite ?_ ?_
      | refine LeO.bind ?_ (fun _ => ?_)
theorem serinetteref24_Frames.mono : ∀ a0 a1 a2 a3 a4 k, LeO (serinetteref24_Frames.f k a0 a1 a2 a3 a4) (serinetteref24_Frames.f (k + 1) a0 a1 a2 a3 a4) := by
  intro a0 a1 a2 a3 a4 k
  have ih0 := serinetteref24_Frames.mono_l k
  unfold serinetteref24_Frames.f
  repeat' first
      | (with_reducible exact ih0 _ _ _ _ _ _ _ _)
      | (with_reducible exact serinetteref24_Frame.mono _ _ _ _ _ _)
      | (with_reducible exact LeO.refl _)
      | (with_reducible exact LeO.none _)
      | (with_reducible refine LeO.ite ?_ ?_)
      | (with_reducible refine LeO.bind ?_ (fun _ => ?_))
      | exact ih0 _ _ _ _ _ _ _ _
      | exact serinetteref24_Frame.mono _ _ _ _ _ _
      | exact LeO.none _
      | refine LeO.ite ?_ ?_
      | refine LeO.bind ?_ (fun _ => ?_)
set_option maxHeartbeats 8000000 in
set_option maxRecDepth 100000 in
theorem serinetteref24_Frames.calls (k : Nat) (a0 : Int) (a1 : Int) (a2 : Int) (a3 : Int) (a4 : Int) (r : Int) (w : World) (h : serinetteref24_Frames.f k a0 a1 a2 a3 a4 = some r) :
    Calls Try.prog 12 #[.int .i64 a0, .int .i64 a1, .int .i64 a2, .int .i64 a3, .int .i64 a4] w fun e w' => e = .returned (.int .i64 r) ∧ Below w.heap.size w w' := by
  have HB := Aside0.mk (Below.refl w.heap.size w)
  have H : (serinetteref24_Frames.l0 k a0 a1 a2 a3 a4 0 0 0) = some r := h
  clear h
  have H' := Aside0.mk H
  clear H
  go_enter Try.func12, Try.ntmps12
  go_wp2
  go_loopg [11, 12, 13] k (fun kq v11 v12 v13 w' => ∃ (x11_1 : Int) (x12_1 : Int) (x13_1 : Int), v11 = .int .i64 x11_1 ∧ v12 = .int .i64 x12_1 ∧ v13 = .int .i64 x13_1 ∧ Aside0 (serinetteref24_Frames.l0 kq a0 a1 a2 a3 a4 x11_1 x12_1 x13_1 = some r) ∧ Aside0 (kq ≤ k) ∧ Aside0 (Below w.heap.size w w'))
  case atStart => exact ⟨(0), (0), (0), (by first | rfl | (simp; done) | (simp [*]; done)), (by first | rfl | (simp; done) | (simp [*]; done)), (by first | rfl | (simp; done) | (simp [*]; done)), H', ⟨Nat.le_refl _⟩, ⟨by repeat (first | (with_reducible first | exact HB.out | apply below_alloc | apply pw_below_drewN | apply below_drew1) | exact HB.out)⟩⟩
  case round =>
    clear H'
    try clear c1
    try clear p2
    obtain ⟨x11_1, x12_1, x13_1, rfl, rfl, rfl, HA, HK1, HB⟩ := hrel
    cases gk with
    | zero => exact absurd HA.out (by simp [serinetteref24_Frames.l0])
    | succ k1 =>
      have H := HA.out
      clear HA
      simp only [serinetteref24_Frames.l0] at H
      by_cases c6 : x13_1 < a0
      · rw [if_pos c6] at H
        have c6b0 : decide (x13_1 < a0) = true := decide_eq_true c6
        clear c6
        obtain ⟨ji7, hji7⟩ : ∃ j_ : Int, (mn a1 (wrap64 (a0 - x13_1))) = j_ := ⟨_, rfl⟩
        replace H : ((serinetteref24_Frame.f k1 (ji7) a2 a3 a4 x12_1).bind fun t392 => (serinetteref24_Frames.l0 k1 a0 a1 a2 a3 a4 (wrap64 (x11_1 + t392)) (wrap64 (x12_1 + 1)) (wrap64 (x13_1 + a1)))) = some r := by first | (rw [hji7] at H; exact H) | (simp only [hji7] at H ⊢; exact H)
        have hji7_ : (if (wrap64 (a0 - x13_1)) < a1 then (wrap64 (a0 - x13_1)) else a1) = ji7 := hji7
        replace H := Option.bind_eq_some_iff.mp H
        obtain ⟨t392, A80, H⟩ := H
        replace H : (serinetteref24_Frames.l0 k1 a0 a1 a2 a3 a4 (wrap64 (x11_1 + t392)) (wrap64 (x12_1 + 1)) (wrap64 (x13_1 + a1))) = some r := H
        have A8 := Aside0.mk A80
        clear A80
        have H' := Aside0.mk H
        clear H
        go_wp2_with (first | ((with_reducible refine gate_callee (f := 28) rfl ?_); refine goesL_ (some 30) rfl rfl Try.func28 (by kernel_rfl) rfl #[.int .i64 ji7, .int .i64 a2, .int .i64 a3, .int .i64 a4, .int .i64 x12_1] rfl (by (try simp only [List.map_toArray, List.map_cons, List.map_nil]); first | done | (simp only [hji7]; rfl) | rfl | (simp only [List.length_drop, List.length_take]; rfl)) ?_; (with_reducible refine (serinetteref24_Frame.calls k1 ji7 a2 a3 a4 x12_1 t392 _ A8.out).mono ?_); rintro e w9 ⟨rfl, hb⟩; refine ⟨_, rfl, ?_⟩; have n0_ := Aside0.mk (below_step (by repeat (first | (with_reducible first | exact HB.out | apply below_alloc | apply pw_below_drewN | apply below_drew1) | exact HB.out)) hb); clear HB; have HB := n0_; clear n0_; (try clear hb); (try clear hb2); (try clear hk); (try clear hi)))
        go_roundg k1
        case measure => have := HK1.out; omega
        case rel => exact ⟨(wrap64 (x11_1 + t392)), (wrap64 (x12_1 + 1)), (wrap64 (x13_1 + a1)), (by first | rfl | (simp; done) | (simp [*]; done)), (by first | rfl | (simp; done) | (simp [*]; done)), (by first | rfl | (simp; done) | (simp [*]; done)), H', ⟨by have := HK1.out; omega⟩, ⟨by repeat (first | (with_reducible first | exact HB.out | apply below_alloc | apply pw_below_drewN | apply below_drew1) | exact HB.out)⟩⟩
      · rw [if_neg c6] at H
        have c6b0 : decide (x13_1 < a0) = false := decide_eq_false c6
        clear c6
        obtain rfl := Option.some.inj H
        go_wp2
        go_ret
        exact ⟨by first | rfl | (simp [errW_none, errW_some] <;> rfl) | (simp [*, errW_none, errW_some] <;> rfl), by repeat (first | (with_reducible first | exact HB.out | apply below_alloc | apply pw_below_drewN | apply below_drew1) | exact HB.out)⟩

/-! ### bound_Ahead: function 13 -/
def bound_Ahead.l0 : Nat → Int → Int → List ByteArray → Int → Int → ByteArray → List ByteArray → Int → Int → Option (Int)
  | 0, _, _, _, _, _, _, _, _, _ => none
  | k + 1, x1, x7, x15, x16, x17, x395000, x395001, x395002, x395003 => if x17 < x16 then (if 0 ≤ x17 then (if x17 < (x15.length : Int) then (bound_Ahead.l0 k x1 (wrap64 (x7 + (wrap64 (4 + ((rdOf ByteArray.empty x15 x17).size : Int))))) x15 x16 (wrap64 (x17 + 1)) x395000 x395001 x395002 x395003) else (none)) else (none)) else (if x395002 > 0 then (if x1 > 0 then (if x395002 = 0 then (none) else (if x395003 > 0 then (some (wrap64 ((wrap64 ((wrap64 (x7 + 4)) + (wrap64 (18 * (wrap64 ((wrap64 (Int.tdiv (wrap64 (x1 - 1)) x395002)) + 1)))))) + (wrap64 (4 + x395003))))) else (some (wrap64 ((wrap64 (x7 + 4)) + (wrap64 (18 * (wrap64 ((wrap64 (Int.tdiv (wrap64 (x1 - 1)) x395002)) + 1))))))))) else (if x395003 > 0 then (some (wrap64 ((wrap64 (x7 + 4)) + (wrap64 (4 + x395003))))) else (some (wrap64 (x7 + 4))))) else (if x395003 > 0 then (some (wrap64 (x7 + (wrap64 (4 + x395003))))) else (some x7)))
def bound_Ahead.f (k : Nat) (a0_0 : ByteArray) (l0_1 : List ByteArray) (a1 : Int) (a2_0 : ByteArray) (l2_1 : List ByteArray) (a2_2 : Int) (a2_3 : Int) : Option (Int) := bound_Ahead.l0 k a1 (wrap64 (54 + (a0_0.size : Int))) l0_1 (l0_1.length : Int) 0 a2_0 l2_1 a2_2 a2_3
theorem bound_Ahead.mono_l : ∀ k, (∀ y0 y1 y2 y3 y4 y5 y6 y7 y8, LeO (bound_Ahead.l0 k y0 y1 y2 y3 y4 y5 y6 y7 y8) (bound_Ahead.l0 (k + 1) y0 y1 y2 y3 y4 y5 y6 y7 y8))
  | 0 => fun _ _ _ _ _ _ _ _ _ r h => by simp [bound_Ahead.l0] at h
  | k + 1 => by
    have ih0 := bound_Ahead.mono_l k
    · intro y0 y1 y2 y3 y4 y5 y6 y7 y8
      unfold bound_Ahead.l0
      repeat' first
      | (with_reducible exact ih0 _ _ _ _ _ _ _ _ _)
      | (with_reducible exact LeO.refl _)
      | (with_reducible exact LeO.none _)
      | (with_reducible refine LeO.ite ?_ ?_)
      | (with_reducible refine LeO.bind ?_ (fun _ => ?_))
      | exact ih0 _ _ _ _ _ _ _ _ _
      | exact LeO.none _
      | refine LeO.ite ?_ ?_
      | refine LeO.bind ?_ (fun _ => ?_)
theorem bound_Ahead.mono : ∀ a0 a1 a2 a3 a4 a5 a6 k, LeO (bound_Ahead.f k a0 a1 a2 a3 a4 a5 a6) (bound_Ahead.f (k + 1) a0 a1 a2 a3 a4 a5 a6) := by
  intro a0 a1 a2 a3 a4 a5 a6 k
  have ih0 := bound_Ahead.mono_l k
  unfold bound_Ahead.f
  repeat' first
      | (with_reducible exact ih0 _ _ _ _ _ _ _ _ _)
      | (with_reducible exact LeO.refl _)
      | (with_reducible exact LeO.none _)
      | (with_reducible refine LeO.ite ?_ ?_)
      | (with_reducible refine LeO.bind ?_ (fun _ => ?_))
      | exact ih0 _ _ _ _ _ _ _ _ _
      | exact LeO.none _
      | refine LeO.ite ?_ ?_
      | refine LeO.bind ?_ (fun _ => ?_)
set_option maxHeartbeats 8000000 in
set_option maxRecDepth 100000 in
theorem bound_Ahead.calls (k : Nat) (a0_0 : ByteArray) (A0_1 : Option Addr) (c0_1 : Nat) (l0_1 : List ByteArray) (a1 : Int) (a2_0 : ByteArray) (A2_1 : Option Addr) (c2_1 : Nat) (l2_1 : List ByteArray) (a2_2 : Int) (a2_3 : Int) (r : Int) (w : World) (hr0_1 : Kd.C Kd.string w A0_1 l0_1.length l0_1) (hc0_1 : l0_1.length ≤ c0_1) (hr2_1 : Kd.C Kd.string w A2_1 l2_1.length l2_1) (hc2_1 : l2_1.length ≤ c2_1) (h : bound_Ahead.f k a0_0 l0_1 a1 a2_0 l2_1 a2_2 a2_3 = some r) :
    Calls Try.prog 13 #[.agg #[.string a0_0, .slice A0_1 l0_1.length c0_1], .int .i64 a1, .agg #[.string a2_0, .slice A2_1 l2_1.length c2_1, .int .i64 a2_2, .int .i64 a2_3]] w fun e w' => e = .returned (.int .i64 r) ∧ Below w.heap.size w w' := by
  have hu34 := Try.underlying34
  have hu36 := Try.underlying36
  have HR0_1 := Aside0.mk hr0_1
  have HC0_1 := Aside0.mk hc0_1
  clear hr0_1 hc0_1
  have HR2_1 := Aside0.mk hr2_1
  have HC2_1 := Aside0.mk hc2_1
  clear hr2_1 hc2_1
  have HB := Aside0.mk (Below.refl w.heap.size w)
  have H : (bound_Ahead.l0 k a1 (wrap64 (54 + (a0_0.size : Int))) l0_1 (l0_1.length : Int) 0 a2_0 l2_1 a2_2 a2_3) = some r := h
  clear h
  have H' := Aside0.mk H
  clear H
  go_enter Try.func13, Try.ntmps13
  go_wp2_with (first | ((with_reducible refine gate_dst (N := 3) rfl ?_); refine box_event ?hg (N := 3) ?hd (cs := #[.string a0_0, .slice A0_1 l0_1.length c0_1]) (t := 34) ?hr ?_; (case hd => rfl); (case hg => rfl); (case hr => first | (go_simp; done) | (go_simp; rfl)); intro gb393 hg w4 hbox hb; have n0_ := Aside0.mk (below_step (by repeat (first | (with_reducible first | exact HB.out | apply below_alloc | apply pw_below_drewN | apply below_drew1) | exact HB.out)) hb); have n1_ := Aside0.mk (hbox); have n2_ := Aside0.mk ((by rw [hg]; exact (below_size (by repeat (first | (with_reducible first | exact HB.out | apply below_alloc | apply pw_below_drewN | apply below_drew1) | exact HB.out))) : w.heap.size ≤ gb393)); have n3_ := Aside0.mk ((by rw [hg]; exact (below_size (by repeat (first | (with_reducible first | exact HB.out | apply below_alloc | apply pw_below_drewN | apply below_drew1) | exact HB.out))) : w.heap.size ≤ gb393)); clear HB; have HB := n0_; have BK393 := n1_; have GW393 := n2_; have GE393 := n3_; clear n0_ n1_ n2_ n3_; clear hb hbox hg) | ((with_reducible refine gate_dst (N := 5) rfl ?_); refine box_event ?hg (N := 5) ?hd (cs := #[.string a2_0, .slice A2_1 l2_1.length c2_1, .int .i64 a2_2, .int .i64 a2_3]) (t := 36) ?hr ?_; (case hd => rfl); (case hg => rfl); (case hr => first | (go_simp; done) | (go_simp; rfl)); intro gb394 hg w5 hbox hb; have n0_ := Aside0.mk (blk_below (g := gb393) (o := .cells #[.string a0_0, .slice A0_1 l0_1.length c0_1] 34 (0, 0)) (by (with_reducible repeat (first | refine blk_drewN ?_ _ | refine blk_drew ?_ | refine blk_alloc ?_ _)); exact BK393.out) hb); have n1_ := Aside0.mk (below_step (by repeat (first | (with_reducible first | exact HB.out | apply below_alloc | apply pw_below_drewN | apply below_drew1 | refine below_set ?_ GE393.out) | exact HB.out)) hb); have n2_ := Aside0.mk (hbox); have n3_ := Aside0.mk ((by rw [hg]; exact (below_size (by repeat (first | (with_reducible first | exact HB.out | apply below_alloc | apply pw_below_drewN | apply below_drew1 | refine below_set ?_ GE393.out) | exact HB.out))) : w.heap.size ≤ gb394)); have n4_ := Aside0.mk ((by rw [hg]; exact (below_size (by repeat (first | (with_reducible first | exact HB.out | apply below_alloc | apply pw_below_drewN | apply below_drew1 | refine below_set ?_ GE393.out) | exact HB.out))) : w.heap.size ≤ gb394)); have n5_ := Aside0.mk ((by rw [hg]; exact Nat.ne_of_lt (blk_lt (g := gb393) (o := .cells #[.string a0_0, .slice A0_1 l0_1.length c0_1] 34 (0, 0)) (by (with_reducible repeat (first | refine blk_drewN ?_ _ | refine blk_drew ?_ | refine blk_alloc ?_ _)); exact BK393.out)) : gb393 ≠ gb394)); have n6_ := Aside0.mk ((by rw [hg]; exact Nat.ne_of_gt (blk_lt (g := gb393) (o := .cells #[.string a0_0, .slice A0_1 l0_1.length c0_1] 34 (0, 0)) (by (with_reducible repeat (first | refine blk_drewN ?_ _ | refine blk_drew ?_ | refine blk_alloc ?_ _)); exact BK393.out)) : gb394 ≠ gb393)); clear BK393; clear HB; have BK393 := n0_; have HB := n1_; have BK394 := n2_; have GW394 := n3_; have GE394 := n4_; have NB393_394 := n5_; have NB394_393 := n6_; clear n0_ n1_ n2_ n3_ n4_ n5_ n6_; clear hb hbox hg; have hnb6 := NB393_394.out; have hnc6 := NB394_393.out; have hcz7_0 : w5.cell? ⟨gb393, 0, none⟩ = some (.string a0_0) := (blk_cell BK393.out 0).trans rfl; have hcz7_1 : w5.cell? ⟨gb393, 1, none⟩ = some (.slice A0_1 l0_1.length c0_1) := (blk_cell BK393.out 1).trans rfl; have hfz7_0 := blk_frozen BK393.out 0; have hfz7_1 := blk_frozen BK393.out 1))
  go_loopg [7, 17] k (fun kq v7 v17 w' => ∃ (x7_1 : Int) (x17_1 : Int), v7 = .int .i64 x7_1 ∧ v17 = .int .i64 x17_1 ∧ Aside0 (bound_Ahead.l0 kq a1 x7_1 l0_1 (l0_1.length : Int) x17_1 a2_0 l2_1 a2_2 a2_3 = some r) ∧ Aside0 (kq ≤ k) ∧ Aside0 (w'.heap[gb393]? = some (.cells #[.string a0_0, (.slice A0_1 l0_1.length c0_1)] 34 (0, 0))) ∧ Aside0 (w'.heap[gb394]? = some (.cells #[.string a2_0, (.slice A2_1 l2_1.length c2_1), .int .i64 a2_2, .int .i64 a2_3] 36 (0, 0))) ∧ Aside0 (Below w.heap.size w w'))
  case atStart => exact ⟨(wrap64 (54 + (a0_0.size : Int))), (0), (by first | rfl | (simp; done) | (simp [*]; done)), (by first | rfl | (simp; done) | (simp [*]; done)), H', ⟨Nat.le_refl _⟩, ⟨by (with_reducible repeat (first | refine blk_drewN ?_ _ | refine blk_drew ?_ | refine blk_alloc ?_ _)); exact BK393.out⟩, ⟨by (with_reducible repeat (first | refine blk_drewN ?_ _ | refine blk_drew ?_ | refine blk_alloc ?_ _)); exact BK394.out⟩, ⟨by repeat (first | (with_reducible first | exact HB.out | apply below_alloc | apply pw_below_drewN | apply below_drew1 | refine below_set ?_ GE393.out | refine below_set ?_ GE394.out) | exact HB.out)⟩⟩
  case round =>
    clear H'
    try clear c1
    try clear c2
    try clear p2
    try clear c6
    try clear p6
    try clear hcz7_0
    try clear hcz7_1
    try clear hfz7_0
    try clear hfz7_1
    obtain ⟨x7_1, x17_1, rfl, rfl, HA, HK1, BK393, BK394, HB⟩ := hrel
    cases gk with
    | zero => exact absurd HA.out (by simp [bound_Ahead.l0])
    | succ k1 =>
      have H := HA.out
      clear HA
      simp only [bound_Ahead.l0] at H
      by_cases c8 : x17_1 < (l0_1.length : Int)
      · rw [if_pos c8] at H
        have c8b0 : decide (x17_1 < (l0_1.length : Int)) = true := decide_eq_true c8
        clear c8
        by_cases c9 : 0 ≤ x17_1
        · rw [if_pos c9] at H
          have c9b0 : decide (0 ≤ x17_1) = true := decide_eq_true c9
          clear c9
          by_cases c10 : x17_1 < (l0_1.length : Int)
          · rw [if_pos c10] at H
            have c10b0 : decide (x17_1 < (l0_1.length : Int)) = true := decide_eq_true c10
            clear c10
            have H' := Aside0.mk H
            clear H
            have p395 : 0 ≤ (x17_1 : Int) := of_decide_eq_true (by first | (with_reducible assumption) | assumption)
            have q395 : x17_1 < (l0_1.length : Int) := of_decide_eq_true (by first | (with_reducible assumption) | assumption)
            obtain ⟨ad395, e395, hx395_0⟩ := Kd.at_string HR0_1.out x17_1 p395 q395
            cases e395
            replace hx395_0 := (HB.out.cell (World.block_lt_of_cell? w _ hx395_0)).trans hx395_0
            replace p395 := eq_true p395
            replace q395 := eq_true q395
            go_wp2
            go_roundg k1
            case measure => have := HK1.out; omega
            case rel => exact ⟨(wrap64 (x7_1 + (wrap64 (4 + ((rdOf ByteArray.empty l0_1 x17_1).size : Int))))), (wrap64 (x17_1 + 1)), (by first | rfl | (simp; done) | (simp [*]; done)), (by first | rfl | (simp; done) | (simp [*]; done)), H', ⟨by have := HK1.out; omega⟩, ⟨by (with_reducible repeat (first | refine blk_drewN ?_ _ | refine blk_drew ?_ | refine blk_alloc ?_ _)); exact BK393.out⟩, ⟨by (with_reducible repeat (first | refine blk_drewN ?_ _ | refine blk_drew ?_ | refine blk_alloc ?_ _)); exact BK394.out⟩, ⟨by repeat (first | (with_reducible first | exact HB.out | apply below_alloc | apply pw_below_drewN | apply below_drew1 | refine below_set ?_ GE393.out | refine below_set ?_ GE394.out) | exact HB.out)⟩⟩
          · rw [if_neg c10] at H
            exact absurd H (by simp)
        · rw [if_neg c9] at H
          exact absurd H (by simp)
      · rw [if_neg c8] at H
        have c8b0 : decide (x17_1 < (l0_1.length : Int)) = false := decide_eq_false c8
        clear c8
        by_cases c11 : a2_2 > 0
        · rw [if_pos c11] at H
          have c11b0 : decide (0 < a2_2) = true := decide_eq_true c11
          clear c11
          by_cases c12 : a1 > 0
          · rw [if_pos c12] at H
            have c12b0 : decide (0 < a1) = true := decide_eq_true c12
            clear c12
            by_cases c13 : a2_2 = 0
            · rw [if_pos c13] at H
              exact absurd H (by simp)
            · rw [if_neg c13] at H
              have c13b0 : (a2_2 == 0) = false := beq_eq_false_iff_ne.mpr c13
              have c13b1 : (a2_2 != 0) = true := bne_iff_ne.mpr c13
              by_cases c14 : a2_3 > 0
              · rw [if_pos c14] at H
                have c14b0 : decide (0 < a2_3) = true := decide_eq_true c14
                clear c14
                obtain rfl := Option.some.inj H
                have hnb15 := NB394_393.out
                have hnc15 := NB393_394.out
                have hcz16_0 : wr.cell? ⟨gb394, 0, none⟩ = some (.string a2_0) := (blk_cell BK394.out 0).trans rfl
                have hcz16_1 : wr.cell? ⟨gb394, 1, none⟩ = some (.slice A2_1 l2_1.length c2_1) := (blk_cell BK394.out 1).trans rfl
                have hcz16_2 : wr.cell? ⟨gb394, 2, none⟩ = some (.int .i64 a2_2) := (blk_cell BK394.out 2).trans rfl
                have hcz16_3 : wr.cell? ⟨gb394, 3, none⟩ = some (.int .i64 a2_3) := (blk_cell BK394.out 3).trans rfl
                have hfz16_0 := blk_frozen BK394.out 0
                have hfz16_1 := blk_frozen BK394.out 1
                have hfz16_2 := blk_frozen BK394.out 2
                have hfz16_3 := blk_frozen BK394.out 3
                go_wp2
                go_ret
                exact ⟨by first | rfl | (simp [errW_none, errW_some] <;> rfl) | (simp [*, errW_none, errW_some] <;> rfl), by repeat (first | (with_reducible first | exact HB.out | apply below_alloc | apply pw_below_drewN | apply below_drew1 | refine below_set ?_ GE393.out | refine below_set ?_ GE394.out) | exact HB.out)⟩
              · rw [if_neg c14] at H
                have c14b0 : decide (0 < a2_3) = false := decide_eq_false c14
                clear c14
                obtain rfl := Option.some.inj H
                have hnb17 := NB394_393.out
                have hnc17 := NB393_394.out
                have hcz18_0 : wr.cell? ⟨gb394, 0, none⟩ = some (.string a2_0) := (blk_cell BK394.out 0).trans rfl
                have hcz18_1 : wr.cell? ⟨gb394, 1, none⟩ = some (.slice A2_1 l2_1.length c2_1) := (blk_cell BK394.out 1).trans rfl
                have hcz18_2 : wr.cell? ⟨gb394, 2, none⟩ = some (.int .i64 a2_2) := (blk_cell BK394.out 2).trans rfl
                have hcz18_3 : wr.cell? ⟨gb394, 3, none⟩ = some (.int .i64 a2_3) := (blk_cell BK394.out 3).trans rfl
                have hfz18_0 := blk_frozen BK394.out 0
                have hfz18_1 := blk_frozen BK394.out 1
                have hfz18_2 := blk_frozen BK394.out 2
                have hfz18_3 := blk_frozen BK394.out 3
                go_wp2
                go_ret
                exact ⟨by first | rfl | (simp [errW_none, errW_some] <;> rfl) | (simp [*, errW_none, errW_some] <;> rfl), by repeat (first | (with_reducible first | exact HB.out | apply below_alloc | apply pw_below_drewN | apply below_drew1 | refine below_set ?_ GE393.out | refine below_set ?_ GE394.out) | exact HB.out)⟩
          · rw [if_neg c12] at H
            have c12b0 : decide (0 < a1) = false := decide_eq_false c12
            clear c12
            by_cases c19 : a2_3 > 0
            · rw [if_pos c19] at H
              have c19b0 : decide (0 < a2_3) = true := decide_eq_true c19
              clear c19
              obtain rfl := Option.some.inj H
              have hnb20 := NB394_393.out
              have hnc20 := NB393_394.out
              have hcz21_0 : wr.cell? ⟨gb394, 0, none⟩ = some (.string a2_0) := (blk_cell BK394.out 0).trans rfl
              have hcz21_1 : wr.cell? ⟨gb394, 1, none⟩ = some (.slice A2_1 l2_1.length c2_1) := (blk_cell BK394.out 1).trans rfl
              have hcz21_2 : wr.cell? ⟨gb394, 2, none⟩ = some (.int .i64 a2_2) := (blk_cell BK394.out 2).trans rfl
              have hcz21_3 : wr.cell? ⟨gb394, 3, none⟩ = some (.int .i64 a2_3) := (blk_cell BK394.out 3).trans rfl
              have hfz21_0 := blk_frozen BK394.out 0
              have hfz21_1 := blk_frozen BK394.out 1
              have hfz21_2 := blk_frozen BK394.out 2
              have hfz21_3 := blk_frozen BK394.out 3
              go_wp2
              go_ret
              exact ⟨by first | rfl | (simp [errW_none, errW_some] <;> rfl) | (simp [*, errW_none, errW_some] <;> rfl), by repeat (first | (with_reducible first | exact HB.out | apply below_alloc | apply pw_below_drewN | apply below_drew1 | refine below_set ?_ GE393.out | refine below_set ?_ GE394.out) | exact HB.out)⟩
            · rw [if_neg c19] at H
              have c19b0 : decide (0 < a2_3) = false := decide_eq_false c19
              clear c19
              obtain rfl := Option.some.inj H
              have hnb22 := NB394_393.out
              have hnc22 := NB393_394.out
              have hcz23_0 : wr.cell? ⟨gb394, 0, none⟩ = some (.string a2_0) := (blk_cell BK394.out 0).trans rfl
              have hcz23_1 : wr.cell? ⟨gb394, 1, none⟩ = some (.slice A2_1 l2_1.length c2_1) := (blk_cell BK394.out 1).trans rfl
              have hcz23_2 : wr.cell? ⟨gb394, 2, none⟩ = some (.int .i64 a2_2) := (blk_cell BK394.out 2).trans rfl
              have hcz23_3 : wr.cell? ⟨gb394, 3, none⟩ = some (.int .i64 a2_3) := (blk_cell BK394.out 3).trans rfl
              have hfz23_0 := blk_frozen BK394.out 0
              have hfz23_1 := blk_frozen BK394.out 1
              have hfz23_2 := blk_frozen BK394.out 2
              have hfz23_3 := blk_frozen BK394.out 3
              go_wp2
              go_ret
              exact ⟨by first | rfl | (simp [errW_none, errW_some] <;> rfl) | (simp [*, errW_none, errW_some] <;> rfl), by repeat (first | (with_reducible first | exact HB.out | apply below_alloc | apply pw_below_drewN | apply below_drew1 | refine below_set ?_ GE393.out | refine below_set ?_ GE394.out) | exact HB.out)⟩
        · rw [if_neg c11] at H
          have c11b0 : decide (0 < a2_2) = false := decide_eq_false c11
          clear c11
          by_cases c24 : a2_3 > 0
          · rw [if_pos c24] at H
            have c24b0 : decide (0 < a2_3) = true := decide_eq_true c24
            clear c24
            obtain rfl := Option.some.inj H
            have hnb25 := NB394_393.out
            have hnc25 := NB393_394.out
            have hcz26_0 : wr.cell? ⟨gb394, 0, none⟩ = some (.string a2_0) := (blk_cell BK394.out 0).trans rfl
            have hcz26_1 : wr.cell? ⟨gb394, 1, none⟩ = some (.slice A2_1 l2_1.length c2_1) := (blk_cell BK394.out 1).trans rfl
            have hcz26_2 : wr.cell? ⟨gb394, 2, none⟩ = some (.int .i64 a2_2) := (blk_cell BK394.out 2).trans rfl
            have hcz26_3 : wr.cell? ⟨gb394, 3, none⟩ = some (.int .i64 a2_3) := (blk_cell BK394.out 3).trans rfl
            have hfz26_0 := blk_frozen BK394.out 0
            have hfz26_1 := blk_frozen BK394.out 1
            have hfz26_2 := blk_frozen BK394.out 2
            have hfz26_3 := blk_frozen BK394.out 3
            go_wp2
            go_ret
            exact ⟨by first | rfl | (simp [errW_none, errW_some] <;> rfl) | (simp [*, errW_none, errW_some] <;> rfl), by repeat (first | (with_reducible first | exact HB.out | apply below_alloc | apply pw_below_drewN | apply below_drew1 | refine below_set ?_ GE393.out | refine below_set ?_ GE394.out) | exact HB.out)⟩
          · rw [if_neg c24] at H
            have c24b0 : decide (0 < a2_3) = false := decide_eq_false c24
            clear c24
            obtain rfl := Option.some.inj H
            have hnb27 := NB394_393.out
            have hnc27 := NB393_394.out
            have hcz28_0 : wr.cell? ⟨gb394, 0, none⟩ = some (.string a2_0) := (blk_cell BK394.out 0).trans rfl
            have hcz28_1 : wr.cell? ⟨gb394, 1, none⟩ = some (.slice A2_1 l2_1.length c2_1) := (blk_cell BK394.out 1).trans rfl
            have hcz28_2 : wr.cell? ⟨gb394, 2, none⟩ = some (.int .i64 a2_2) := (blk_cell BK394.out 2).trans rfl
            have hcz28_3 : wr.cell? ⟨gb394, 3, none⟩ = some (.int .i64 a2_3) := (blk_cell BK394.out 3).trans rfl
            have hfz28_0 := blk_frozen BK394.out 0
            have hfz28_1 := blk_frozen BK394.out 1
            have hfz28_2 := blk_frozen BK394.out 2
            have hfz28_3 := blk_frozen BK394.out 3
            go_wp2
            go_ret
            exact ⟨by first | rfl | (simp [errW_none, errW_some] <;> rfl) | (simp [*, errW_none, errW_some] <;> rfl), by repeat (first | (with_reducible first | exact HB.out | apply below_alloc | apply pw_below_drewN | apply below_drew1 | refine below_set ?_ GE393.out | refine below_set ?_ GE394.out) | exact HB.out)⟩

/-! ### bound_Frames: function 14 -/
def bound_Frames.j0 : Nat → Int → Int → Int → Int → Int → Bool → Option (Int)
  | 0, _, _, _, _, _, _ => none
  | k + 1, x0, x1, x2, x3, x4, x19 => if x19 = true then (some 0) else (if x1 = 0 then (none) else ((bound_block.f k x1).bind fun t396 => ((bound_rate.f k x3).bind fun t397 => ((bound_body.f x1 x2 x4).bind fun t398 => (if (Int.tmod x0 x1) > 0 then ((bound_block.f k (Int.tmod x0 x1)).bind fun t399 => ((bound_rate.f k x3).bind fun t400 => ((bound_body.f (Int.tmod x0 x1) x2 x4).bind fun t401 => ((bound_Numbers.f k (wrap64 ((wrap64 (Int.tdiv x0 x1)) + 1))).bind fun t402 => (some (wrap64 ((wrap64 ((wrap64 ((wrap64 (Int.tdiv x0 x1)) * (wrap64 ((wrap64 ((wrap64 (5 + t396)) + t397)) + t398)))) + (wrap64 ((wrap64 ((wrap64 (5 + t399)) + t400)) + t401)))) + t402))))))) else ((bound_Numbers.f k (wrap64 (Int.tdiv x0 x1))).bind fun t403 => (some (wrap64 ((wrap64 ((wrap64 (Int.tdiv x0 x1)) * (wrap64 ((wrap64 ((wrap64 (5 + t396)) + t397)) + t398)))) + t403)))))))))
def bound_Frames.f (k : Nat) (a0 : Int) (a1 : Int) (a2 : Int) (a3 : Int) (a4 : Int) : Option (Int) := if a1 < 1 then (bound_Frames.j0 k a0 a1 a2 a3 a4 true) else (bound_Frames.j0 k a0 a1 a2 a3 a4 (decide (a0 < 1)))
theorem bound_Frames.mono_l : ∀ k, (∀ y0 y1 y2 y3 y4 y5, LeO (bound_Frames.j0 k y0 y1 y2 y3 y4 y5) (bound_Frames.j0 (k + 1) y0 y1 y2 y3 y4 y5))
  | 0 => fun _ _ _ _ _ _ r h => by simp [bound_Frames.j0] at h
  | k + 1 => by
    have ih0 := bound_Frames.mono_l k
    · intro y0 y1 y2 y3 y4 y5
      unfold bound_Frames.j0
      repeat' first
      | (with_reducible exact ih0 _ _ _ _ _ _)
      | (with_reducible exact bound_Numbers.mono _ _)
      | (with_reducible exact bound_block.mono _ _)
      | (with_reducible exact bound_rate.mono _ _)
      | (with_reducible exact LeO.refl _)
      | (with_reducible exact LeO.none _)
      | (with_reducible refine LeO.ite ?_ ?_)
      | (with_reducible refine LeO.bind ?_ (fun _ => ?_))
      | exact ih0 _ _ _ _ _ _
      | exact bound_Numbers.mono _ _
      | exact bound_block.mono _ _
      | exact bound_rate.mono _ _
      | exact LeO.none _
      | refine LeO.ite ?_ ?_
      | refine LeO.bind ?_ (fun _ => ?_)
theorem bound_Frames.mono : ∀ a0 a1 a2 a3 a4 k, LeO (bound_Frames.f k a0 a1 a2 a3 a4) (bound_Frames.f (k + 1) a0 a1 a2 a3 a4) := by
  intro a0 a1 a2 a3 a4 k
  have ih0 := bound_Frames.mono_l k
  unfold bound_Frames.f
  repeat' first
      | (with_reducible exact ih0 _ _ _ _ _ _)
      | (with_reducible exact bound_Numbers.mono _ _)
      | (with_reducible exact bound_block.mono _ _)
      | (with_reducible exact bound_rate.mono _ _)
      | (with_reducible exact LeO.refl _)
      | (with_reducible exact LeO.none _)
      | (with_reducible refine LeO.ite ?_ ?_)
      | (with_reducible refine LeO.bind ?_ (fun _ => ?_))
      | exact ih0 _ _ _ _ _ _
      | exact bound_Numbers.mono _ _
      | exact bound_block.mono _ _
      | exact bound_rate.mono _ _
      | exact LeO.none _
      | refine LeO.ite ?_ ?_
      | refine LeO.bind ?_ (fun _ => ?_)
set_option maxHeartbeats 8000000 in
set_option maxRecDepth 100000 in
theorem bound_Frames.calls (k : Nat) (a0 : Int) (a1 : Int) (a2 : Int) (a3 : Int) (a4 : Int) (r : Int) (w : World) (h : bound_Frames.f k a0 a1 a2 a3 a4 = some r) :
    Calls Try.prog 14 #[.int .i64 a0, .int .i64 a1, .int .i64 a2, .int .i64 a3, .int .i64 a4] w fun e w' => e = .returned (.int .i64 r) ∧ Below w.heap.size w w' := by
  have HB := Aside0.mk (Below.refl w.heap.size w)
  have H : (if a1 < 1 then (bound_Frames.j0 k a0 a1 a2 a3 a4 true) else (bound_Frames.j0 k a0 a1 a2 a3 a4 (decide (a0 < 1)))) = some r := h
  clear h
  have HC6 := Aside0.mk H
  clear H
  go_enter Try.func14, Try.ntmps14
  go_upto_region 1 with (fail)
  repeat (go_quiet (fail); go_upto_region 1 with (fail))
  go_cut [19] (fun v19 wc => ∃ (kq : Nat) (x19_5 : Bool), v19 = .bool x19_5 ∧ Aside0 (bound_Frames.j0 kq a0 a1 a2 a3 a4 x19_5 = some r) ∧ Aside0 (kq ≤ k) ∧ Aside0 (Below w.heap.size w wc))
  case first =>
    have H := HC6.out
    clear HC6
    by_cases c7 : a1 < 1
    · rw [if_pos c7] at H
      have c7b0 : decide (a1 < 1) = true := decide_eq_true c7
      clear c7
      (first | rw [c7b0] | (simp only [i64_w, i32_w]; rw [c7b0]) | skip)
      have H' := Aside0.mk H
      clear H
      go_wp2
      repeat (go_quiet (fail); try go_wp2)
      go_meet
      case rel => exact ⟨_, (true), (by first | rfl | (simp; done) | (simp [*]; done)), H', ⟨by first | omega | exact Nat.le_refl _⟩, ⟨by repeat (first | (with_reducible first | exact HB.out | apply below_alloc | apply pw_below_drewN | apply below_drew1) | exact HB.out)⟩⟩
    · rw [if_neg c7] at H
      have c7b0 : decide (a1 < 1) = false := decide_eq_false c7
      clear c7
      (first | rw [c7b0] | (simp only [i64_w, i32_w]; rw [c7b0]) | skip)
      have H' := Aside0.mk H
      clear H
      go_wp2
      repeat (go_quiet (fail); try go_wp2)
      go_meet
      case rel => exact ⟨_, (decide (a0 < 1)), (by first | rfl | (simp; done) | (simp [*]; done)), H', ⟨by first | omega | exact Nat.le_refl _⟩, ⟨by repeat (first | (with_reducible first | exact HB.out | apply below_alloc | apply pw_below_drewN | apply below_drew1) | exact HB.out)⟩⟩
  case rest =>
    clear HC6
    try clear c1
    try clear p2
    try clear c7
    try clear c7b0
    obtain ⟨kq, x19_5, rfl, HA, HJ5, HB⟩ := hcut
    cases kq with
    | zero => exact absurd HA.out (by simp [bound_Frames.j0])
    | succ kj5 =>
      have H := HA.out
      clear HA
      simp only [bound_Frames.j0] at H
      by_cases c8 : x19_5 = true
      · subst c8
        have H1 : (some 0) = some r := by rw [if_pos rfl] at H; exact H
        clear H
        have H := H1
        clear H1
        obtain rfl := Option.some.inj H
        go_wp2
        repeat (go_quiet (fail); try go_wp2)
        go_ret
        exact ⟨by first | rfl | (simp [errW_none, errW_some] <;> rfl) | (simp [*, errW_none, errW_some] <;> rfl), by repeat (first | (with_reducible first | exact HB.out | apply below_alloc | apply pw_below_drewN | apply below_drew1) | exact HB.out)⟩
      · replace c8 := Bool.eq_false_iff.mpr c8
        subst c8
        have H1 : (if a1 = 0 then (none) else ((bound_block.f kj5 a1).bind fun t396 => ((bound_rate.f kj5 a3).bind fun t397 => ((bound_body.f a1 a2 a4).bind fun t398 => (if (Int.tmod a0 a1) > 0 then ((bound_block.f kj5 (Int.tmod a0 a1)).bind fun t399 => ((bound_rate.f kj5 a3).bind fun t400 => ((bound_body.f (Int.tmod a0 a1) a2 a4).bind fun t401 => ((bound_Numbers.f kj5 (wrap64 ((wrap64 (Int.tdiv a0 a1)) + 1))).bind fun t402 => (some (wrap64 ((wrap64 ((wrap64 ((wrap64 (Int.tdiv a0 a1)) * (wrap64 ((wrap64 ((wrap64 (5 + t396)) + t397)) + t398)))) + (wrap64 ((wrap64 ((wrap64 (5 + t399)) + t400)) + t401)))) + t402))))))) else ((bound_Numbers.f kj5 (wrap64 (Int.tdiv a0 a1))).bind fun t403 => (some (wrap64 ((wrap64 ((wrap64 (Int.tdiv a0 a1)) * (wrap64 ((wrap64 ((wrap64 (5 + t396)) + t397)) + t398)))) + t403))))))))) = some r := by rw [if_neg (show ¬ (false = true) by decide)] at H; exact H
        clear H
        have H := H1
        clear H1
        by_cases c9 : a1 = 0
        · rw [if_pos c9] at H
          exact absurd H (by simp)
        · rw [if_neg c9] at H
          have c9b0 : (a1 == 0) = false := beq_eq_false_iff_ne.mpr c9
          have c9b1 : (a1 != 0) = true := bne_iff_ne.mpr c9
          replace H := Option.bind_eq_some_iff.mp H
          obtain ⟨t396, A100, H⟩ := H
          replace H : ((bound_rate.f kj5 a3).bind fun t397 => ((bound_body.f a1 a2 a4).bind fun t398 => (if (Int.tmod a0 a1) > 0 then ((bound_block.f kj5 (Int.tmod a0 a1)).bind fun t399 => ((bound_rate.f kj5 a3).bind fun t400 => ((bound_body.f (Int.tmod a0 a1) a2 a4).bind fun t401 => ((bound_Numbers.f kj5 (wrap64 ((wrap64 (Int.tdiv a0 a1)) + 1))).bind fun t402 => (some (wrap64 ((wrap64 ((wrap64 ((wrap64 (Int.tdiv a0 a1)) * (wrap64 ((wrap64 ((wrap64 (5 + t396)) + t397)) + t398)))) + (wrap64 ((wrap64 ((wrap64 (5 + t399)) + t400)) + t401)))) + t402))))))) else ((bound_Numbers.f kj5 (wrap64 (Int.tdiv a0 a1))).bind fun t403 => (some (wrap64 ((wrap64 ((wrap64 (Int.tdiv a0 a1)) * (wrap64 ((wrap64 ((wrap64 (5 + t396)) + t397)) + t398)))) + t403))))))) = some r := H
          have A10 := Aside0.mk A100
          clear A100
          replace H := Option.bind_eq_some_iff.mp H
          obtain ⟨t397, A110, H⟩ := H
          replace H : ((bound_body.f a1 a2 a4).bind fun t398 => (if (Int.tmod a0 a1) > 0 then ((bound_block.f kj5 (Int.tmod a0 a1)).bind fun t399 => ((bound_rate.f kj5 a3).bind fun t400 => ((bound_body.f (Int.tmod a0 a1) a2 a4).bind fun t401 => ((bound_Numbers.f kj5 (wrap64 ((wrap64 (Int.tdiv a0 a1)) + 1))).bind fun t402 => (some (wrap64 ((wrap64 ((wrap64 ((wrap64 (Int.tdiv a0 a1)) * (wrap64 ((wrap64 ((wrap64 (5 + t396)) + t397)) + t398)))) + (wrap64 ((wrap64 ((wrap64 (5 + t399)) + t400)) + t401)))) + t402))))))) else ((bound_Numbers.f kj5 (wrap64 (Int.tdiv a0 a1))).bind fun t403 => (some (wrap64 ((wrap64 ((wrap64 (Int.tdiv a0 a1)) * (wrap64 ((wrap64 ((wrap64 (5 + t396)) + t397)) + t398)))) + t403)))))) = some r := H
          have A11 := Aside0.mk A110
          clear A110
          replace H := Option.bind_eq_some_iff.mp H
          obtain ⟨t398, A120, H⟩ := H
          replace H : (if (Int.tmod a0 a1) > 0 then ((bound_block.f kj5 (Int.tmod a0 a1)).bind fun t399 => ((bound_rate.f kj5 a3).bind fun t400 => ((bound_body.f (Int.tmod a0 a1) a2 a4).bind fun t401 => ((bound_Numbers.f kj5 (wrap64 ((wrap64 (Int.tdiv a0 a1)) + 1))).bind fun t402 => (some (wrap64 ((wrap64 ((wrap64 ((wrap64 (Int.tdiv a0 a1)) * (wrap64 ((wrap64 ((wrap64 (5 + t396)) + t397)) + t398)))) + (wrap64 ((wrap64 ((wrap64 (5 + t399)) + t400)) + t401)))) + t402))))))) else ((bound_Numbers.f kj5 (wrap64 (Int.tdiv a0 a1))).bind fun t403 => (some (wrap64 ((wrap64 ((wrap64 (Int.tdiv a0 a1)) * (wrap64 ((wrap64 ((wrap64 (5 + t396)) + t397)) + t398)))) + t403))))) = some r := H
          have A12 := Aside0.mk A120
          clear A120
          by_cases c13 : (Int.tmod a0 a1) > 0
          · rw [if_pos c13] at H
            have c13b0 : decide (0 < (Int.tmod a0 a1)) = true := decide_eq_true c13
            clear c13
            replace H := Option.bind_eq_some_iff.mp H
            obtain ⟨t399, A140, H⟩ := H
            replace H : ((bound_rate.f kj5 a3).bind fun t400 => ((bound_body.f (Int.tmod a0 a1) a2 a4).bind fun t401 => ((bound_Numbers.f kj5 (wrap64 ((wrap64 (Int.tdiv a0 a1)) + 1))).bind fun t402 => (some (wrap64 ((wrap64 ((wrap64 ((wrap64 (Int.tdiv a0 a1)) * (wrap64 ((wrap64 ((wrap64 (5 + t396)) + t397)) + t398)))) + (wrap64 ((wrap64 ((wrap64 (5 + t399)) + t400)) + t401)))) + t402)))))) = some r := H
            have A14 := Aside0.mk A140
            clear A140
            replace H := Option.bind_eq_some_iff.mp H
            obtain ⟨t400, A150, H⟩ := H
            replace H : ((bound_body.f (Int.tmod a0 a1) a2 a4).bind fun t401 => ((bound_Numbers.f kj5 (wrap64 ((wrap64 (Int.tdiv a0 a1)) + 1))).bind fun t402 => (some (wrap64 ((wrap64 ((wrap64 ((wrap64 (Int.tdiv a0 a1)) * (wrap64 ((wrap64 ((wrap64 (5 + t396)) + t397)) + t398)))) + (wrap64 ((wrap64 ((wrap64 (5 + t399)) + t400)) + t401)))) + t402))))) = some r := H
            have A15 := Aside0.mk A150
            clear A150
            have D_A15 : t397 = t400 := Option.some.inj (A11.out.symm.trans A15.out)
            subst D_A15
            replace H := Option.bind_eq_some_iff.mp H
            obtain ⟨t401, A160, H⟩ := H
            replace H : ((bound_Numbers.f kj5 (wrap64 ((wrap64 (Int.tdiv a0 a1)) + 1))).bind fun t402 => (some (wrap64 ((wrap64 ((wrap64 ((wrap64 (Int.tdiv a0 a1)) * (wrap64 ((wrap64 ((wrap64 (5 + t396)) + t397)) + t398)))) + (wrap64 ((wrap64 ((wrap64 (5 + t399)) + t397)) + t401)))) + t402)))) = some r := H
            have A16 := Aside0.mk A160
            clear A160
            replace H := Option.bind_eq_some_iff.mp H
            obtain ⟨t402, A170, H⟩ := H
            replace H : (some (wrap64 ((wrap64 ((wrap64 ((wrap64 (Int.tdiv a0 a1)) * (wrap64 ((wrap64 ((wrap64 (5 + t396)) + t397)) + t398)))) + (wrap64 ((wrap64 ((wrap64 (5 + t399)) + t397)) + t401)))) + t402))) = some r := H
            have A17 := Aside0.mk A170
            clear A170
            obtain rfl := Option.some.inj H
            go_wp2_with (first | (go_at_call 29; (with_reducible refine (bound_block.calls kj5 a1 t396 _ A10.out).mono ?_); rintro e w18 ⟨rfl, hb⟩; have n0_ := Aside0.mk (below_step (by repeat (first | (with_reducible first | exact HB.out | apply below_alloc | apply pw_below_drewN | apply below_drew1) | exact HB.out)) hb); clear HB; have HB := n0_; clear n0_; (try clear hb); (try clear hb2); (try clear hk); (try clear hi)) | (go_at_call 30; (with_reducible refine (bound_rate.calls kj5 a3 t397 _ A11.out).mono ?_); rintro e w19 ⟨rfl, hb⟩; have n0_ := Aside0.mk (below_step (by repeat (first | (with_reducible first | exact HB.out | apply below_alloc | apply pw_below_drewN | apply below_drew1) | exact HB.out)) hb); clear HB; have HB := n0_; clear n0_; (try clear hb); (try clear hb2); (try clear hk); (try clear hi)) | (go_at_call 31; (with_reducible refine (bound_body.calls a1 a2 a4 t398 _ A12.out).mono ?_); rintro e w' ⟨rfl, ⟨nd, rfl⟩⟩; (try first | exact ⟨rfl, _, World.drewN_drewN _ _ _⟩ | exact ⟨rfl, _, Eq.trans (World.drewN_drewN _ _ _) (congrArg (World.drewN _) (Nat.add_assoc _ _ _))⟩)) | (go_at_call 29; (with_reducible refine (bound_block.calls kj5 (Int.tmod a0 a1) t399 _ A14.out).mono ?_); rintro e w20 ⟨rfl, hb⟩; have n0_ := Aside0.mk (below_step (by repeat (first | (with_reducible first | exact HB.out | apply below_alloc | apply pw_below_drewN | apply below_drew1) | exact HB.out)) hb); clear HB; have HB := n0_; clear n0_; (try clear hb); (try clear hb2); (try clear hk); (try clear hi)) | (go_at_call 30; (with_reducible refine (bound_rate.calls kj5 a3 t397 _ A15.out).mono ?_); rintro e w21 ⟨rfl, hb⟩; have n0_ := Aside0.mk (below_step (by repeat (first | (with_reducible first | exact HB.out | apply below_alloc | apply pw_below_drewN | apply below_drew1) | exact HB.out)) hb); clear HB; have HB := n0_; clear n0_; (try clear hb); (try clear hb2); (try clear hk); (try clear hi)) | (go_at_call 31; (with_reducible refine (bound_body.calls (Int.tmod a0 a1) a2 a4 t401 _ A16.out).mono ?_); rintro e w' ⟨rfl, ⟨nd, rfl⟩⟩; (try first | exact ⟨rfl, _, World.drewN_drewN _ _ _⟩ | exact ⟨rfl, _, Eq.trans (World.drewN_drewN _ _ _) (congrArg (World.drewN _) (Nat.add_assoc _ _ _))⟩)) | (go_at_call 23; (with_reducible refine (bound_Numbers.calls kj5 (wrap64 ((wrap64 (Int.tdiv a0 a1)) + 1)) t402 _ A17.out).mono ?_); rintro e w22 ⟨rfl, hb⟩; have n0_ := Aside0.mk (below_step (by repeat (first | (with_reducible first | exact HB.out | apply below_alloc | apply pw_below_drewN | apply below_drew1) | exact HB.out)) hb); clear HB; have HB := n0_; clear n0_; (try clear hb); (try clear hb2); (try clear hk); (try clear hi)))
            repeat (go_quiet (first | (go_at_call 29; (with_reducible refine (bound_block.calls kj5 a1 t396 _ A10.out).mono ?_); rintro e w18 ⟨rfl, hb⟩; have n0_ := Aside0.mk (below_step (by repeat (first | (with_reducible first | exact HB.out | apply below_alloc | apply pw_below_drewN | apply below_drew1) | exact HB.out)) hb); clear HB; have HB := n0_; clear n0_; (try clear hb); (try clear hb2); (try clear hk); (try clear hi)) | (go_at_call 30; (with_reducible refine (bound_rate.calls kj5 a3 t397 _ A11.out).mono ?_); rintro e w19 ⟨rfl, hb⟩; have n0_ := Aside0.mk (below_step (by repeat (first | (with_reducible first | exact HB.out | apply below_alloc | apply pw_below_drewN | apply below_drew1) | exact HB.out)) hb); clear HB; have HB := n0_; clear n0_; (try clear hb); (try clear hb2); (try clear hk); (try clear hi)) | (go_at_call 31; (with_reducible refine (bound_body.calls a1 a2 a4 t398 _ A12.out).mono ?_); rintro e w' ⟨rfl, ⟨nd, rfl⟩⟩; (try first | exact ⟨rfl, _, World.drewN_drewN _ _ _⟩ | exact ⟨rfl, _, Eq.trans (World.drewN_drewN _ _ _) (congrArg (World.drewN _) (Nat.add_assoc _ _ _))⟩)) | (go_at_call 29; (with_reducible refine (bound_block.calls kj5 (Int.tmod a0 a1) t399 _ A14.out).mono ?_); rintro e w20 ⟨rfl, hb⟩; have n0_ := Aside0.mk (below_step (by repeat (first | (with_reducible first | exact HB.out | apply below_alloc | apply pw_below_drewN | apply below_drew1) | exact HB.out)) hb); clear HB; have HB := n0_; clear n0_; (try clear hb); (try clear hb2); (try clear hk); (try clear hi)) | (go_at_call 30; (with_reducible refine (bound_rate.calls kj5 a3 t397 _ A15.out).mono ?_); rintro e w21 ⟨rfl, hb⟩; have n0_ := Aside0.mk (below_step (by repeat (first | (with_reducible first | exact HB.out | apply below_alloc | apply pw_below_drewN | apply below_drew1) | exact HB.out)) hb); clear HB; have HB := n0_; clear n0_; (try clear hb); (try clear hb2); (try clear hk); (try clear hi)) | (go_at_call 31; (with_reducible refine (bound_body.calls (Int.tmod a0 a1) a2 a4 t401 _ A16.out).mono ?_); rintro e w' ⟨rfl, ⟨nd, rfl⟩⟩; (try first | exact ⟨rfl, _, World.drewN_drewN _ _ _⟩ | exact ⟨rfl, _, Eq.trans (World.drewN_drewN _ _ _) (congrArg (World.drewN _) (Nat.add_assoc _ _ _))⟩)) | (go_at_call 23; (with_reducible refine (bound_Numbers.calls kj5 (wrap64 ((wrap64 (Int.tdiv a0 a1)) + 1)) t402 _ A17.out).mono ?_); rintro e w22 ⟨rfl, hb⟩; have n0_ := Aside0.mk (below_step (by repeat (first | (with_reducible first | exact HB.out | apply below_alloc | apply pw_below_drewN | apply below_drew1) | exact HB.out)) hb); clear HB; have HB := n0_; clear n0_; (try clear hb); (try clear hb2); (try clear hk); (try clear hi))); try go_wp2_with (first | (go_at_call 29; (with_reducible refine (bound_block.calls kj5 a1 t396 _ A10.out).mono ?_); rintro e w18 ⟨rfl, hb⟩; have n0_ := Aside0.mk (below_step (by repeat (first | (with_reducible first | exact HB.out | apply below_alloc | apply pw_below_drewN | apply below_drew1) | exact HB.out)) hb); clear HB; have HB := n0_; clear n0_; (try clear hb); (try clear hb2); (try clear hk); (try clear hi)) | (go_at_call 30; (with_reducible refine (bound_rate.calls kj5 a3 t397 _ A11.out).mono ?_); rintro e w19 ⟨rfl, hb⟩; have n0_ := Aside0.mk (below_step (by repeat (first | (with_reducible first | exact HB.out | apply below_alloc | apply pw_below_drewN | apply below_drew1) | exact HB.out)) hb); clear HB; have HB := n0_; clear n0_; (try clear hb); (try clear hb2); (try clear hk); (try clear hi)) | (go_at_call 31; (with_reducible refine (bound_body.calls a1 a2 a4 t398 _ A12.out).mono ?_); rintro e w' ⟨rfl, ⟨nd, rfl⟩⟩; (try first | exact ⟨rfl, _, World.drewN_drewN _ _ _⟩ | exact ⟨rfl, _, Eq.trans (World.drewN_drewN _ _ _) (congrArg (World.drewN _) (Nat.add_assoc _ _ _))⟩)) | (go_at_call 29; (with_reducible refine (bound_block.calls kj5 (Int.tmod a0 a1) t399 _ A14.out).mono ?_); rintro e w20 ⟨rfl, hb⟩; have n0_ := Aside0.mk (below_step (by repeat (first | (with_reducible first | exact HB.out | apply below_alloc | apply pw_below_drewN | apply below_drew1) | exact HB.out)) hb); clear HB; have HB := n0_; clear n0_; (try clear hb); (try clear hb2); (try clear hk); (try clear hi)) | (go_at_call 30; (with_reducible refine (bound_rate.calls kj5 a3 t397 _ A15.out).mono ?_); rintro e w21 ⟨rfl, hb⟩; have n0_ := Aside0.mk (below_step (by repeat (first | (with_reducible first | exact HB.out | apply below_alloc | apply pw_below_drewN | apply below_drew1) | exact HB.out)) hb); clear HB; have HB := n0_; clear n0_; (try clear hb); (try clear hb2); (try clear hk); (try clear hi)) | (go_at_call 31; (with_reducible refine (bound_body.calls (Int.tmod a0 a1) a2 a4 t401 _ A16.out).mono ?_); rintro e w' ⟨rfl, ⟨nd, rfl⟩⟩; (try first | exact ⟨rfl, _, World.drewN_drewN _ _ _⟩ | exact ⟨rfl, _, Eq.trans (World.drewN_drewN _ _ _) (congrArg (World.drewN _) (Nat.add_assoc _ _ _))⟩)) | (go_at_call 23; (with_reducible refine (bound_Numbers.calls kj5 (wrap64 ((wrap64 (Int.tdiv a0 a1)) + 1)) t402 _ A17.out).mono ?_); rintro e w22 ⟨rfl, hb⟩; have n0_ := Aside0.mk (below_step (by repeat (first | (with_reducible first | exact HB.out | apply below_alloc | apply pw_below_drewN | apply below_drew1) | exact HB.out)) hb); clear HB; have HB := n0_; clear n0_; (try clear hb); (try clear hb2); (try clear hk); (try clear hi))))
            go_ret
            exact ⟨by first | rfl | (simp [errW_none, errW_some] <;> rfl) | (simp [*, errW_none, errW_some] <;> rfl), by repeat (first | (with_reducible first | exact HB.out | apply below_alloc | apply pw_below_drewN | apply below_drew1) | exact HB.out)⟩
          · rw [if_neg c13] at H
            have c13b0 : decide (0 < (Int.tmod a0 a1)) = false := decide_eq_false c13
            clear c13
            replace H := Option.bind_eq_some_iff.mp H
            obtain ⟨t403, A230, H⟩ := H
            replace H : (some (wrap64 ((wrap64 ((wrap64 (Int.tdiv a0 a1)) * (wrap64 ((wrap64 ((wrap64 (5 + t396)) + t397)) + t398)))) + t403))) = some r := H
            have A23 := Aside0.mk A230
            clear A230
            obtain rfl := Option.some.inj H
            go_wp2_with (first | (go_at_call 29; (with_reducible refine (bound_block.calls kj5 a1 t396 _ A10.out).mono ?_); rintro e w24 ⟨rfl, hb⟩; have n0_ := Aside0.mk (below_step (by repeat (first | (with_reducible first | exact HB.out | apply below_alloc | apply pw_below_drewN | apply below_drew1) | exact HB.out)) hb); clear HB; have HB := n0_; clear n0_; (try clear hb); (try clear hb2); (try clear hk); (try clear hi)) | (go_at_call 30; (with_reducible refine (bound_rate.calls kj5 a3 t397 _ A11.out).mono ?_); rintro e w25 ⟨rfl, hb⟩; have n0_ := Aside0.mk (below_step (by repeat (first | (with_reducible first | exact HB.out | apply below_alloc | apply pw_below_drewN | apply below_drew1) | exact HB.out)) hb); clear HB; have HB := n0_; clear n0_; (try clear hb); (try clear hb2); (try clear hk); (try clear hi)) | (go_at_call 31; (with_reducible refine (bound_body.calls a1 a2 a4 t398 _ A12.out).mono ?_); rintro e w' ⟨rfl, ⟨nd, rfl⟩⟩; (try first | exact ⟨rfl, _, World.drewN_drewN _ _ _⟩ | exact ⟨rfl, _, Eq.trans (World.drewN_drewN _ _ _) (congrArg (World.drewN _) (Nat.add_assoc _ _ _))⟩)) | (go_at_call 23; (with_reducible refine (bound_Numbers.calls kj5 (wrap64 (Int.tdiv a0 a1)) t403 _ A23.out).mono ?_); rintro e w26 ⟨rfl, hb⟩; have n0_ := Aside0.mk (below_step (by repeat (first | (with_reducible first | exact HB.out | apply below_alloc | apply pw_below_drewN | apply below_drew1) | exact HB.out)) hb); clear HB; have HB := n0_; clear n0_; (try clear hb); (try clear hb2); (try clear hk); (try clear hi)))
            repeat (go_quiet (first | (go_at_call 29; (with_reducible refine (bound_block.calls kj5 a1 t396 _ A10.out).mono ?_); rintro e w24 ⟨rfl, hb⟩; have n0_ := Aside0.mk (below_step (by repeat (first | (with_reducible first | exact HB.out | apply below_alloc | apply pw_below_drewN | apply below_drew1) | exact HB.out)) hb); clear HB; have HB := n0_; clear n0_; (try clear hb); (try clear hb2); (try clear hk); (try clear hi)) | (go_at_call 30; (with_reducible refine (bound_rate.calls kj5 a3 t397 _ A11.out).mono ?_); rintro e w25 ⟨rfl, hb⟩; have n0_ := Aside0.mk (below_step (by repeat (first | (with_reducible first | exact HB.out | apply below_alloc | apply pw_below_drewN | apply below_drew1) | exact HB.out)) hb); clear HB; have HB := n0_; clear n0_; (try clear hb); (try clear hb2); (try clear hk); (try clear hi)) | (go_at_call 31; (with_reducible refine (bound_body.calls a1 a2 a4 t398 _ A12.out).mono ?_); rintro e w' ⟨rfl, ⟨nd, rfl⟩⟩; (try first | exact ⟨rfl, _, World.drewN_drewN _ _ _⟩ | exact ⟨rfl, _, Eq.trans (World.drewN_drewN _ _ _) (congrArg (World.drewN _) (Nat.add_assoc _ _ _))⟩)) | (go_at_call 23; (with_reducible refine (bound_Numbers.calls kj5 (wrap64 (Int.tdiv a0 a1)) t403 _ A23.out).mono ?_); rintro e w26 ⟨rfl, hb⟩; have n0_ := Aside0.mk (below_step (by repeat (first | (with_reducible first | exact HB.out | apply below_alloc | apply pw_below_drewN | apply below_drew1) | exact HB.out)) hb); clear HB; have HB := n0_; clear n0_; (try clear hb); (try clear hb2); (try clear hk); (try clear hi))); try go_wp2_with (first | (go_at_call 29; (with_reducible refine (bound_block.calls kj5 a1 t396 _ A10.out).mono ?_); rintro e w24 ⟨rfl, hb⟩; have n0_ := Aside0.mk (below_step (by repeat (first | (with_reducible first | exact HB.out | apply below_alloc | apply pw_below_drewN | apply below_drew1) | exact HB.out)) hb); clear HB; have HB := n0_; clear n0_; (try clear hb); (try clear hb2); (try clear hk); (try clear hi)) | (go_at_call 30; (with_reducible refine (bound_rate.calls kj5 a3 t397 _ A11.out).mono ?_); rintro e w25 ⟨rfl, hb⟩; have n0_ := Aside0.mk (below_step (by repeat (first | (with_reducible first | exact HB.out | apply below_alloc | apply pw_below_drewN | apply below_drew1) | exact HB.out)) hb); clear HB; have HB := n0_; clear n0_; (try clear hb); (try clear hb2); (try clear hk); (try clear hi)) | (go_at_call 31; (with_reducible refine (bound_body.calls a1 a2 a4 t398 _ A12.out).mono ?_); rintro e w' ⟨rfl, ⟨nd, rfl⟩⟩; (try first | exact ⟨rfl, _, World.drewN_drewN _ _ _⟩ | exact ⟨rfl, _, Eq.trans (World.drewN_drewN _ _ _) (congrArg (World.drewN _) (Nat.add_assoc _ _ _))⟩)) | (go_at_call 23; (with_reducible refine (bound_Numbers.calls kj5 (wrap64 (Int.tdiv a0 a1)) t403 _ A23.out).mono ?_); rintro e w26 ⟨rfl, hb⟩; have n0_ := Aside0.mk (below_step (by repeat (first | (with_reducible first | exact HB.out | apply below_alloc | apply pw_below_drewN | apply below_drew1) | exact HB.out)) hb); clear HB; have HB := n0_; clear n0_; (try clear hb); (try clear hb2); (try clear hk); (try clear hi))))
            go_ret
            exact ⟨by first | rfl | (simp [errW_none, errW_some] <;> rfl) | (simp [*, errW_none, errW_some] <;> rfl), by repeat (first | (with_reducible first | exact HB.out | apply below_alloc | apply pw_below_drewN | apply below_drew1) | exact HB.out)⟩

/-! ### bound_Stream: function 15 -/
def bound_Stream.f (k : Nat) (a0 : Int) (a1 : Int) (a2 : Int) (a3 : Int) (a4 : Int) (a5_0 : ByteArray) (l5_1 : List ByteArray) (a5_2 : Int) (a5_3 : Int) : Option (Int) := if a1 > 0 then (if a1 = 0 then (none) else ((bound_Ahead.f k a5_0 l5_1 (wrap64 (Int.tdiv (wrap64 ((wrap64 (a0 + a1)) - 1)) a1)) a5_0 l5_1 a5_2 a5_3).bind fun t405 => ((bound_Frames.f k a0 a1 a2 a3 a4).bind fun t406 => (some (wrap64 (t405 + t406)))))) else ((bound_Ahead.f k a5_0 l5_1 0 a5_0 l5_1 a5_2 a5_3).bind fun t407 => ((bound_Frames.f k a0 a1 a2 a3 a4).bind fun t408 => (some (wrap64 (t407 + t408)))))
theorem bound_Stream.mono : ∀ a0 a1 a2 a3 a4 a5 a6 a7 a8 k, LeO (bound_Stream.f k a0 a1 a2 a3 a4 a5 a6 a7 a8) (bound_Stream.f (k + 1) a0 a1 a2 a3 a4 a5 a6 a7 a8) := by
  intro a0 a1 a2 a3 a4 a5 a6 a7 a8 k
  unfold bound_Stream.f
  repeat' first
      | (with_reducible exact bound_Ahead.mono _ _ _ _ _ _ _ _)
      | (with_reducible exact bound_Frames.mono _ _ _ _ _ _)
      | (with_reducible exact LeO.refl _)
      | (with_reducible exact LeO.none _)
      | (with_reducible refine LeO.ite ?_ ?_)
      | (with_reducible refine LeO.bind ?_ (fun _ => ?_))
      | exact bound_Ahead.mono _ _ _ _ _ _ _ _
      | exact bound_Frames.mono _ _ _ _ _ _
      | exact LeO.none _
      | refine LeO.ite ?_ ?_
      | refine LeO.bind ?_ (fun _ => ?_)
set_option maxHeartbeats 8000000 in
set_option maxRecDepth 100000 in
theorem bound_Stream.calls (k : Nat) (a0 : Int) (a1 : Int) (a2 : Int) (a3 : Int) (a4 : Int) (a5_0 : ByteArray) (A5_1 : Option Addr) (c5_1 : Nat) (l5_1 : List ByteArray) (a5_2 : Int) (a5_3 : Int) (r : Int) (w : World) (hr5_1 : Kd.C Kd.string w A5_1 l5_1.length l5_1) (hc5_1 : l5_1.length ≤ c5_1) (h : bound_Stream.f k a0 a1 a2 a3 a4 a5_0 l5_1 a5_2 a5_3 = some r) :
    Calls Try.prog 15 #[.int .i64 a0, .int .i64 a1, .int .i64 a2, .int .i64 a3, .int .i64 a4, .agg #[.string a5_0, .slice A5_1 l5_1.length c5_1, .int .i64 a5_2, .int .i64 a5_3]] w fun e w' => e = .returned (.int .i64 r) ∧ Below w.heap.size w w' := by
  have hu36 := Try.underlying36
  have hu34 := Try.underlying34
  have HR5_1 := Aside0.mk hr5_1
  have HC5_1 := Aside0.mk hc5_1
  clear hr5_1 hc5_1
  have HB := Aside0.mk (Below.refl w.heap.size w)
  have H : (if a1 > 0 then (if a1 = 0 then (none) else ((bound_Ahead.f k a5_0 l5_1 (wrap64 (Int.tdiv (wrap64 ((wrap64 (a0 + a1)) - 1)) a1)) a5_0 l5_1 a5_2 a5_3).bind fun t405 => ((bound_Frames.f k a0 a1 a2 a3 a4).bind fun t406 => (some (wrap64 (t405 + t406)))))) else ((bound_Ahead.f k a5_0 l5_1 0 a5_0 l5_1 a5_2 a5_3).bind fun t407 => ((bound_Frames.f k a0 a1 a2 a3 a4).bind fun t408 => (some (wrap64 (t407 + t408)))))) = some r := h
  clear h
  by_cases c7 : a1 > 0
  · rw [if_pos c7] at H
    have c7b0 : decide (0 < a1) = true := decide_eq_true c7
    clear c7
    by_cases c8 : a1 = 0
    · rw [if_pos c8] at H
      exact absurd H (by simp)
    · rw [if_neg c8] at H
      have c8b0 : (a1 == 0) = false := beq_eq_false_iff_ne.mpr c8
      have c8b1 : (a1 != 0) = true := bne_iff_ne.mpr c8
      replace H := Option.bind_eq_some_iff.mp H
      obtain ⟨t405, A90, H⟩ := H
      replace H : ((bound_Frames.f k a0 a1 a2 a3 a4).bind fun t406 => (some (wrap64 (t405 + t406)))) = some r := H
      have A9 := Aside0.mk A90
      clear A90
      replace H := Option.bind_eq_some_iff.mp H
      obtain ⟨t406, A100, H⟩ := H
      replace H : (some (wrap64 (t405 + t406))) = some r := H
      have A10 := Aside0.mk A100
      clear A100
      obtain rfl := Option.some.inj H
      go_enter Try.func15, Try.ntmps15
      go_wp2_with (first | ((with_reducible refine gate_dst (N := 11) rfl ?_); refine box_event ?hg (N := 11) ?hd (cs := #[.string a5_0, .slice A5_1 l5_1.length c5_1, .int .i64 a5_2, .int .i64 a5_3]) (t := 36) ?hr ?_; (case hd => rfl); (case hg => rfl); (case hr => first | (go_simp; done) | (go_simp; rfl)); intro gb404 hg w11 hbox hb; have n0_ := Aside0.mk (below_step (by repeat (first | (with_reducible first | exact HB.out | apply below_alloc | apply pw_below_drewN | apply below_drew1) | exact HB.out)) hb); have n1_ := Aside0.mk (hbox); have n2_ := Aside0.mk ((by rw [hg]; exact (below_size (by repeat (first | (with_reducible first | exact HB.out | apply below_alloc | apply pw_below_drewN | apply below_drew1) | exact HB.out))) : w.heap.size ≤ gb404)); have n3_ := Aside0.mk ((by rw [hg]; exact (below_size (by repeat (first | (with_reducible first | exact HB.out | apply below_alloc | apply pw_below_drewN | apply below_drew1) | exact HB.out))) : w.heap.size ≤ gb404)); clear HB; have HB := n0_; have BK404 := n1_; have GW404 := n2_; have GE404 := n3_; clear n0_ n1_ n2_ n3_; clear hb hbox hg; have hcz12_0 : w11.cell? ⟨gb404, 0, none⟩ = some (.string a5_0) := (blk_cell BK404.out 0).trans rfl; have hcz12_1 : w11.cell? ⟨gb404, 1, none⟩ = some (.slice A5_1 l5_1.length c5_1) := (blk_cell BK404.out 1).trans rfl; have hcz12_2 : w11.cell? ⟨gb404, 2, none⟩ = some (.int .i64 a5_2) := (blk_cell BK404.out 2).trans rfl; have hcz12_3 : w11.cell? ⟨gb404, 3, none⟩ = some (.int .i64 a5_3) := (blk_cell BK404.out 3).trans rfl; have hfz12_0 := blk_frozen BK404.out 0; have hfz12_1 := blk_frozen BK404.out 1; have hfz12_2 := blk_frozen BK404.out 2; have hfz12_3 := blk_frozen BK404.out 3) | ((with_reducible refine gate_callee (f := 13) rfl ?_); refine goesL_ (some 26) rfl rfl Try.func13 (by kernel_rfl) rfl #[.agg #[.string a5_0, .slice A5_1 l5_1.length c5_1], .int .i64 (wrap64 (Int.tdiv (wrap64 ((wrap64 (a0 + a1)) - 1)) a1)), .agg #[.string a5_0, .slice A5_1 l5_1.length c5_1, .int .i64 a5_2, .int .i64 a5_3]] rfl (by (try simp only [List.map_toArray, List.map_cons, List.map_nil]); first | done | rfl | (simp only [List.length_drop, List.length_take]; rfl)) ?_; (with_reducible refine (bound_Ahead.calls k a5_0 _ _ l5_1 (wrap64 (Int.tdiv (wrap64 ((wrap64 (a0 + a1)) - 1)) a1)) a5_0 _ _ l5_1 a5_2 a5_3 t405 _ ?side1 ?side2 ?side3 ?side4 A9.out).mono ?_); (case side1 => repeat (first | exact (Kd.C_below HR5_1.out HB.out) | (with_reducible refine Kd.C_alloc ?_ _) | (with_reducible refine Kd.C_drewN ?_ _) | (with_reducible refine Kd.C_drew ?_))); (case side2 => exact HC5_1.out); (case side3 => repeat (first | exact (Kd.C_below HR5_1.out HB.out) | (with_reducible refine Kd.C_alloc ?_ _) | (with_reducible refine Kd.C_drewN ?_ _) | (with_reducible refine Kd.C_drew ?_))); (case side4 => exact HC5_1.out); rintro e w13 ⟨rfl, hb⟩; refine ⟨_, rfl, ?_⟩; have n0_ := Aside0.mk (blk_below (g := gb404) (o := .cells #[.string a5_0, .slice A5_1 l5_1.length c5_1, .int .i64 a5_2, .int .i64 a5_3] 36 (0, 0)) (by (with_reducible repeat (first | refine blk_drewN ?_ _ | refine blk_drew ?_ | refine blk_alloc ?_ _)); exact BK404.out) hb); have n1_ := Aside0.mk (below_step (by repeat (first | (with_reducible first | exact HB.out | apply below_alloc | apply pw_below_drewN | apply below_drew1 | refine below_set ?_ GE404.out) | exact HB.out)) hb); clear BK404; clear HB; have BK404 := n0_; have HB := n1_; clear n0_ n1_; (try clear hb); (try clear hb2); (try clear hk); (try clear hi)) | ((with_reducible refine gate_callee (f := 14) rfl ?_); refine goesL_ (some 32) rfl rfl Try.func14 (by kernel_rfl) rfl #[.int .i64 a0, .int .i64 a1, .int .i64 a2, .int .i64 a3, .int .i64 a4] rfl (by (try simp only [List.map_toArray, List.map_cons, List.map_nil]); first | done | rfl | (simp only [List.length_drop, List.length_take]; rfl)) ?_; (with_reducible refine (bound_Frames.calls k a0 a1 a2 a3 a4 t406 _ A10.out).mono ?_); rintro e w14 ⟨rfl, hb⟩; refine ⟨_, rfl, ?_⟩; have n0_ := Aside0.mk (blk_below (g := gb404) (o := .cells #[.string a5_0, .slice A5_1 l5_1.length c5_1, .int .i64 a5_2, .int .i64 a5_3] 36 (0, 0)) (by (with_reducible repeat (first | refine blk_drewN ?_ _ | refine blk_drew ?_ | refine blk_alloc ?_ _)); exact BK404.out) hb); have n1_ := Aside0.mk (below_step (by repeat (first | (with_reducible first | exact HB.out | apply below_alloc | apply pw_below_drewN | apply below_drew1 | refine below_set ?_ GE404.out) | exact HB.out)) hb); clear BK404; clear HB; have BK404 := n0_; have HB := n1_; clear n0_ n1_; (try clear hb); (try clear hb2); (try clear hk); (try clear hi)))
      go_ret
      exact ⟨by first | rfl | (simp [errW_none, errW_some] <;> rfl) | (simp [*, errW_none, errW_some] <;> rfl), by repeat (first | (with_reducible first | exact HB.out | apply below_alloc | apply pw_below_drewN | apply below_drew1 | refine below_set ?_ GE404.out) | exact HB.out)⟩
  · rw [if_neg c7] at H
    have c7b0 : decide (0 < a1) = false := decide_eq_false c7
    clear c7
    replace H := Option.bind_eq_some_iff.mp H
    obtain ⟨t407, A150, H⟩ := H
    replace H : ((bound_Frames.f k a0 a1 a2 a3 a4).bind fun t408 => (some (wrap64 (t407 + t408)))) = some r := H
    have A15 := Aside0.mk A150
    clear A150
    replace H := Option.bind_eq_some_iff.mp H
    obtain ⟨t408, A160, H⟩ := H
    replace H : (some (wrap64 (t407 + t408))) = some r := H
    have A16 := Aside0.mk A160
    clear A160
    obtain rfl := Option.some.inj H
    go_enter Try.func15, Try.ntmps15
    go_wp2_with (first | ((with_reducible refine gate_dst (N := 11) rfl ?_); refine box_event ?hg (N := 11) ?hd (cs := #[.string a5_0, .slice A5_1 l5_1.length c5_1, .int .i64 a5_2, .int .i64 a5_3]) (t := 36) ?hr ?_; (case hd => rfl); (case hg => rfl); (case hr => first | (go_simp; done) | (go_simp; rfl)); intro gb404 hg w17 hbox hb; have n0_ := Aside0.mk (below_step (by repeat (first | (with_reducible first | exact HB.out | apply below_alloc | apply pw_below_drewN | apply below_drew1) | exact HB.out)) hb); have n1_ := Aside0.mk (hbox); have n2_ := Aside0.mk ((by rw [hg]; exact (below_size (by repeat (first | (with_reducible first | exact HB.out | apply below_alloc | apply pw_below_drewN | apply below_drew1) | exact HB.out))) : w.heap.size ≤ gb404)); have n3_ := Aside0.mk ((by rw [hg]; exact (below_size (by repeat (first | (with_reducible first | exact HB.out | apply below_alloc | apply pw_below_drewN | apply below_drew1) | exact HB.out))) : w.heap.size ≤ gb404)); clear HB; have HB := n0_; have BK404 := n1_; have GW404 := n2_; have GE404 := n3_; clear n0_ n1_ n2_ n3_; clear hb hbox hg; have hcz18_0 : w17.cell? ⟨gb404, 0, none⟩ = some (.string a5_0) := (blk_cell BK404.out 0).trans rfl; have hcz18_1 : w17.cell? ⟨gb404, 1, none⟩ = some (.slice A5_1 l5_1.length c5_1) := (blk_cell BK404.out 1).trans rfl; have hcz18_2 : w17.cell? ⟨gb404, 2, none⟩ = some (.int .i64 a5_2) := (blk_cell BK404.out 2).trans rfl; have hcz18_3 : w17.cell? ⟨gb404, 3, none⟩ = some (.int .i64 a5_3) := (blk_cell BK404.out 3).trans rfl; have hfz18_0 := blk_frozen BK404.out 0; have hfz18_1 := blk_frozen BK404.out 1; have hfz18_2 := blk_frozen BK404.out 2; have hfz18_3 := blk_frozen BK404.out 3) | ((with_reducible refine gate_callee (f := 13) rfl ?_); refine goesL_ (some 26) rfl rfl Try.func13 (by kernel_rfl) rfl #[.agg #[.string a5_0, .slice A5_1 l5_1.length c5_1], .int .i64 0, .agg #[.string a5_0, .slice A5_1 l5_1.length c5_1, .int .i64 a5_2, .int .i64 a5_3]] rfl (by (try simp only [List.map_toArray, List.map_cons, List.map_nil]); first | done | rfl | (simp only [List.length_drop, List.length_take]; rfl)) ?_; (with_reducible refine (bound_Ahead.calls k a5_0 _ _ l5_1 0 a5_0 _ _ l5_1 a5_2 a5_3 t407 _ ?side1 ?side2 ?side3 ?side4 A15.out).mono ?_); (case side1 => repeat (first | exact (Kd.C_below HR5_1.out HB.out) | (with_reducible refine Kd.C_alloc ?_ _) | (with_reducible refine Kd.C_drewN ?_ _) | (with_reducible refine Kd.C_drew ?_))); (case side2 => exact HC5_1.out); (case side3 => repeat (first | exact (Kd.C_below HR5_1.out HB.out) | (with_reducible refine Kd.C_alloc ?_ _) | (with_reducible refine Kd.C_drewN ?_ _) | (with_reducible refine Kd.C_drew ?_))); (case side4 => exact HC5_1.out); rintro e w19 ⟨rfl, hb⟩; refine ⟨_, rfl, ?_⟩; have n0_ := Aside0.mk (blk_below (g := gb404) (o := .cells #[.string a5_0, .slice A5_1 l5_1.length c5_1, .int .i64 a5_2, .int .i64 a5_3] 36 (0, 0)) (by (with_reducible repeat (first | refine blk_drewN ?_ _ | refine blk_drew ?_ | refine blk_alloc ?_ _)); exact BK404.out) hb); have n1_ := Aside0.mk (below_step (by repeat (first | (with_reducible first | exact HB.out | apply below_alloc | apply pw_below_drewN | apply below_drew1 | refine below_set ?_ GE404.out) | exact HB.out)) hb); clear BK404; clear HB; have BK404 := n0_; have HB := n1_; clear n0_ n1_; (try clear hb); (try clear hb2); (try clear hk); (try clear hi)) | ((with_reducible refine gate_callee (f := 14) rfl ?_); refine goesL_ (some 32) rfl rfl Try.func14 (by kernel_rfl) rfl #[.int .i64 a0, .int .i64 a1, .int .i64 a2, .int .i64 a3, .int .i64 a4] rfl (by (try simp only [List.map_toArray, List.map_cons, List.map_nil]); first | done | rfl | (simp only [List.length_drop, List.length_take]; rfl)) ?_; (with_reducible refine (bound_Frames.calls k a0 a1 a2 a3 a4 t408 _ A16.out).mono ?_); rintro e w20 ⟨rfl, hb⟩; refine ⟨_, rfl, ?_⟩; have n0_ := Aside0.mk (blk_below (g := gb404) (o := .cells #[.string a5_0, .slice A5_1 l5_1.length c5_1, .int .i64 a5_2, .int .i64 a5_3] 36 (0, 0)) (by (with_reducible repeat (first | refine blk_drewN ?_ _ | refine blk_drew ?_ | refine blk_alloc ?_ _)); exact BK404.out) hb); have n1_ := Aside0.mk (below_step (by repeat (first | (with_reducible first | exact HB.out | apply below_alloc | apply pw_below_drewN | apply below_drew1 | refine below_set ?_ GE404.out) | exact HB.out)) hb); clear BK404; clear HB; have BK404 := n0_; have HB := n1_; clear n0_ n1_; (try clear hb); (try clear hb2); (try clear hk); (try clear hi)))
    go_ret
    exact ⟨by first | rfl | (simp [errW_none, errW_some] <;> rfl) | (simp [*, errW_none, errW_some] <;> rfl), by repeat (first | (with_reducible first | exact HB.out | apply below_alloc | apply pw_below_drewN | apply below_drew1 | refine below_set ?_ GE404.out) | exact HB.out)⟩

end Go.Proofs.Ytdacblackoaphaa.PBoundFrames
