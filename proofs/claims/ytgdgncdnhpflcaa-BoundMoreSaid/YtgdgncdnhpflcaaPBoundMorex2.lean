-- written by this session's program wip/reprint.sh (a turned copy of the kit's print): the session's own text
import Derived.Test.YtgdgncdnhpflcaaPBoundMorex0
import Derived.Test.YtgdgncdnhpflcaaPBoundMorex1
namespace Go.Proofs.Ytgdgncdnhpflcaa.PBoundMore
open Go.RowKit Go.Proofs.YtgdgncdnhpflcaaW.PrintWords Go.Proofs.YtgdgncdnhpflcaaW.PrintLast Go.Proofs.YtgdgncdnhpflcaaW.PrintMore
attribute [local go_sem] max2_int min2_int max_two min_two max_three min_three max_four min_four   -- for this text's walks alone
set_option linter.unusedVariables false
set_option linter.unusedSimpArgs false

/-! ### serinettelaw24_awake: function 26 -/
def serinettelaw24_awake.f (k : Nat)  : Option (Bool) := (bound_Head.f k 4096 44100 0).bind fun t125 => (if t125 = 6 then ((bound_Frame.f k 4 1 8000 8 0).bind fun t126 => (if t126 = 14 then ((bound_Numbers.f k 129).bind fun t127 => (some (t127 == 130))) else (some false))) else (some false))
theorem serinettelaw24_awake.mono : ∀ k, LeO (serinettelaw24_awake.f k ) (serinettelaw24_awake.f (k + 1) ) := by
  intro  k
  unfold serinettelaw24_awake.f
  repeat' first
      | (with_reducible exact bound_Frame.mono _ _ _ _ _ _)
      | (with_reducible exact bound_Head.mono _ _ _ _)
      | (with_reducible exact bound_Numbers.mono _ _)
      | (with_reducible exact LeO.refl _)
      | (with_reducible exact LeO.none _)
      | (with_reducible refine LeO.ite ?_ ?_)
      | (with_reducible refine LeO.bind ?_ (fun _ => ?_))
      | exact bound_Frame.mono _ _ _ _ _ _
      | exact bound_Head.mono _ _ _ _
      | exact bound_Numbers.mono _ _
      | exact LeO.none _
      | refine LeO.ite ?_ ?_
      | refine LeO.bind ?_ (fun _ => ?_)
set_option maxHeartbeats 8000000 in
set_option maxRecDepth 100000 in
theorem serinettelaw24_awake.calls (k : Nat)  (r : Bool) (w : World) (h : serinettelaw24_awake.f k  = some r) :
    Calls Try.prog 26 #[] w fun e w' => e = .returned (.bool r) ∧ Below w.heap.size w w' := by
  have HB := Aside0.mk (Below.refl w.heap.size w)
  have H : ((bound_Head.f k 4096 44100 0).bind fun t125 => (if t125 = 6 then ((bound_Frame.f k 4 1 8000 8 0).bind fun t126 => (if t126 = 14 then ((bound_Numbers.f k 129).bind fun t127 => (some (t127 == 130))) else (some false))) else (some false))) = some r := h
  clear h
  replace H := Option.bind_eq_some_iff.mp H
  obtain ⟨t125, A10, H⟩ := H
  replace H : (if t125 = 6 then ((bound_Frame.f k 4 1 8000 8 0).bind fun t126 => (if t126 = 14 then ((bound_Numbers.f k 129).bind fun t127 => (some (t127 == 130))) else (some false))) else (some false)) = some r := H
  have A1 := Aside0.mk A10
  clear A10
  by_cases c2 : t125 = 6
  · rw [if_pos c2] at H
    have c2b0 : (t125 == 6) = true := beq_iff_eq.mpr c2
    have c2b1 : (t125 != 6) = false := bne_eq_false_iff_eq.mpr c2
    clear c2
    replace H := Option.bind_eq_some_iff.mp H
    obtain ⟨t126, A30, H⟩ := H
    replace H : (if t126 = 14 then ((bound_Numbers.f k 129).bind fun t127 => (some (t127 == 130))) else (some false)) = some r := H
    have A3 := Aside0.mk A30
    clear A30
    by_cases c4 : t126 = 14
    · rw [if_pos c4] at H
      have c4b0 : (t126 == 14) = true := beq_iff_eq.mpr c4
      have c4b1 : (t126 != 14) = false := bne_eq_false_iff_eq.mpr c4
      clear c4
      replace H := Option.bind_eq_some_iff.mp H
      obtain ⟨t127, A50, H⟩ := H
      replace H : (some (t127 == 130)) = some r := H
      have A5 := Aside0.mk A50
      clear A50
      obtain rfl := Option.some.inj H
      go_enter Try.func26, Try.ntmps26
      go_wp2_with (first | ((with_reducible refine gate_callee (f := 27) rfl ?_); refine goesL_ (some 1) rfl rfl Try.func27 (by kernel_rfl) rfl #[.int .i64 4096, .int .i64 44100, .int .i64 0] rfl (by (try simp only [List.map_toArray, List.map_cons, List.map_nil]); first | done | rfl | (simp only [List.length_drop, List.length_take]; rfl)) ?_; (with_reducible refine (bound_Head.calls k 4096 44100 0 t125 _ A1.out).mono ?_); rintro e w6 ⟨rfl, hb⟩; refine ⟨_, rfl, ?_⟩; have n0_ := Aside0.mk (below_step (by repeat (first | (with_reducible first | exact HB.out | apply below_alloc | apply pw_below_drewN | apply below_drew1) | exact HB.out)) hb); clear HB; have HB := n0_; clear n0_; (try clear hb); (try clear hb2); (try clear hk); (try clear hi)) | (go_at_call 29; (with_reducible refine (bound_Frame.calls k 4 1 8000 8 0 t126 _ A3.out).mono ?_); rintro e w7 ⟨rfl, hb⟩; have n0_ := Aside0.mk (below_step (by repeat (first | (with_reducible first | exact HB.out | apply below_alloc | apply pw_below_drewN | apply below_drew1) | exact HB.out)) hb); clear HB; have HB := n0_; clear n0_; (try clear hb); (try clear hb2); (try clear hk); (try clear hi)) | (go_at_call 31; (with_reducible refine (bound_Numbers.calls k 129 t127 _ A5.out).mono ?_); rintro e w8 ⟨rfl, hb⟩; have n0_ := Aside0.mk (below_step (by repeat (first | (with_reducible first | exact HB.out | apply below_alloc | apply pw_below_drewN | apply below_drew1) | exact HB.out)) hb); clear HB; have HB := n0_; clear n0_; (try clear hb); (try clear hb2); (try clear hk); (try clear hi)))
      go_ret
      exact ⟨by first | rfl | (simp [errW_none, errW_some] <;> rfl) | (simp [*, errW_none, errW_some] <;> rfl), by repeat (first | (with_reducible first | exact HB.out | apply below_alloc | apply pw_below_drewN | apply below_drew1) | exact HB.out)⟩
    · rw [if_neg c4] at H
      have c4b0 : (t126 == 14) = false := beq_eq_false_iff_ne.mpr c4
      have c4b1 : (t126 != 14) = true := bne_iff_ne.mpr c4
      obtain rfl := Option.some.inj H
      go_enter Try.func26, Try.ntmps26
      go_wp2_with (first | ((with_reducible refine gate_callee (f := 27) rfl ?_); refine goesL_ (some 1) rfl rfl Try.func27 (by kernel_rfl) rfl #[.int .i64 4096, .int .i64 44100, .int .i64 0] rfl (by (try simp only [List.map_toArray, List.map_cons, List.map_nil]); first | done | rfl | (simp only [List.length_drop, List.length_take]; rfl)) ?_; (with_reducible refine (bound_Head.calls k 4096 44100 0 t125 _ A1.out).mono ?_); rintro e w9 ⟨rfl, hb⟩; refine ⟨_, rfl, ?_⟩; have n0_ := Aside0.mk (below_step (by repeat (first | (with_reducible first | exact HB.out | apply below_alloc | apply pw_below_drewN | apply below_drew1) | exact HB.out)) hb); clear HB; have HB := n0_; clear n0_; (try clear hb); (try clear hb2); (try clear hk); (try clear hi)) | (go_at_call 29; (with_reducible refine (bound_Frame.calls k 4 1 8000 8 0 t126 _ A3.out).mono ?_); rintro e w10 ⟨rfl, hb⟩; have n0_ := Aside0.mk (below_step (by repeat (first | (with_reducible first | exact HB.out | apply below_alloc | apply pw_below_drewN | apply below_drew1) | exact HB.out)) hb); clear HB; have HB := n0_; clear n0_; (try clear hb); (try clear hb2); (try clear hk); (try clear hi)))
      go_ret
      exact ⟨by first | rfl | (simp [errW_none, errW_some] <;> rfl) | (simp [*, errW_none, errW_some] <;> rfl), by repeat (first | (with_reducible first | exact HB.out | apply below_alloc | apply pw_below_drewN | apply below_drew1) | exact HB.out)⟩
  · rw [if_neg c2] at H
    have c2b0 : (t125 == 6) = false := beq_eq_false_iff_ne.mpr c2
    have c2b1 : (t125 != 6) = true := bne_iff_ne.mpr c2
    obtain rfl := Option.some.inj H
    go_enter Try.func26, Try.ntmps26
    go_wp2_with (first | ((with_reducible refine gate_callee (f := 27) rfl ?_); refine goesL_ (some 1) rfl rfl Try.func27 (by kernel_rfl) rfl #[.int .i64 4096, .int .i64 44100, .int .i64 0] rfl (by (try simp only [List.map_toArray, List.map_cons, List.map_nil]); first | done | rfl | (simp only [List.length_drop, List.length_take]; rfl)) ?_; (with_reducible refine (bound_Head.calls k 4096 44100 0 t125 _ A1.out).mono ?_); rintro e w11 ⟨rfl, hb⟩; refine ⟨_, rfl, ?_⟩; have n0_ := Aside0.mk (below_step (by repeat (first | (with_reducible first | exact HB.out | apply below_alloc | apply pw_below_drewN | apply below_drew1) | exact HB.out)) hb); clear HB; have HB := n0_; clear n0_; (try clear hb); (try clear hb2); (try clear hk); (try clear hi)))
    go_ret
    exact ⟨by first | rfl | (simp [errW_none, errW_some] <;> rfl) | (simp [*, errW_none, errW_some] <;> rfl), by repeat (first | (with_reducible first | exact HB.out | apply below_alloc | apply pw_below_drewN | apply below_drew1) | exact HB.out)⟩

/-! ### bound_Frames: function 37 -/
def bound_Frames.j0 : Nat → Int → Int → Int → Int → Int → Bool → Option (Int)
  | 0, _, _, _, _, _, _ => none
  | k + 1, x0, x1, x2, x3, x4, x19 => if x19 = true then (some 0) else (if x1 = 0 then (none) else ((bound_block.f k x1).bind fun t128 => ((bound_rate.f k x3).bind fun t129 => ((bound_body.f x1 x2 x4).bind fun t130 => (if (Int.tmod x0 x1) > 0 then ((bound_block.f k (Int.tmod x0 x1)).bind fun t131 => ((bound_rate.f k x3).bind fun t132 => ((bound_body.f (Int.tmod x0 x1) x2 x4).bind fun t133 => ((bound_Numbers.f k (wrap64 ((wrap64 (Int.tdiv x0 x1)) + 1))).bind fun t134 => (some (wrap64 ((wrap64 ((wrap64 ((wrap64 (Int.tdiv x0 x1)) * (wrap64 ((wrap64 ((wrap64 (5 + t128)) + t129)) + t130)))) + (wrap64 ((wrap64 ((wrap64 (5 + t131)) + t132)) + t133)))) + t134))))))) else ((bound_Numbers.f k (wrap64 (Int.tdiv x0 x1))).bind fun t135 => (some (wrap64 ((wrap64 ((wrap64 (Int.tdiv x0 x1)) * (wrap64 ((wrap64 ((wrap64 (5 + t128)) + t129)) + t130)))) + t135)))))))))
def bound_Frames.f (k : Nat) (a0 : Int) (a1 : Int) (a2 : Int) (a3 : Int) (a4 : Int) : Option (Int) := if a1 < 1 then (bound_Frames.j0 k a0 a1 a2 a3 a4 true) else (bound_Frames.j0 k a0 a1 a2 a3 a4 (decide (a0 < 1)))
theorem bound_Frames.mono_l : ∀ k, (∀ y0 y1 y2 y3 y4 y5, LeO (bound_Frames.j0 k y0 y1 y2 y3 y4 y5) (bound_Frames.j0 (k + 1) y0 y1 y2 y3 y4 y5))
  | 0 => fun _ _ _ _ _ _ r h => by simp [bound_Frames.j0] at h
  | k + 1 => by
    have ih0 := bound_Frames.mono_l k
    · intro y0 y1 y2 y3 y4 y5
      unfold bound_Frames.j0
      repeat' first
      | (with_reducible exact ih0 _ _ _ _ _ _)
      | (with_reducible exact bound_Numbers.mono _ _)
      | (with_reducible exact bound_block.mono _ _)
      | (with_reducible exact bound_rate.mono _ _)
      | (with_reducible exact LeO.refl _)
      | (with_reducible exact LeO.none _)
      | (with_reducible refine LeO.ite ?_ ?_)
      | (with_reducible refine LeO.bind ?_ (fun _ => ?_))
      | exact ih0 _ _ _ _ _ _
      | exact bound_Numbers.mono _ _
      | exact bound_block.mono _ _
      | exact bound_rate.mono _ _
      | exact LeO.none _
      | refine LeO.ite ?_ ?_
      | refine LeO.bind ?_ (fun _ => ?_)
theorem bound_Frames.mono : ∀ a0 a1 a2 a3 a4 k, LeO (bound_Frames.f k a0 a1 a2 a3 a4) (bound_Frames.f (k + 1) a0 a1 a2 a3 a4) := by
  intro a0 a1 a2 a3 a4 k
  have ih0 := bound_Frames.mono_l k
  unfold bound_Frames.f
  repeat' first
      | (with_reducible exact ih0 _ _ _ _ _ _)
      | (with_reducible exact bound_Numbers.mono _ _)
      | (with_reducible exact bound_block.mono _ _)
      | (with_reducible exact bound_rate.mono _ _)
      | (with_reducible exact LeO.refl _)
      | (with_reducible exact LeO.none _)
      | (with_reducible refine LeO.ite ?_ ?_)
      | (with_reducible refine LeO.bind ?_ (fun _ => ?_))
      | exact ih0 _ _ _ _ _ _
      | exact bound_Numbers.mono _ _
      | exact bound_block.mono _ _
      | exact bound_rate.mono _ _
      | exact LeO.none _
      | refine LeO.ite ?_ ?_
      | refine LeO.bind ?_ (fun _ => ?_)
set_option maxHeartbeats 8000000 in
set_option maxRecDepth 100000 in
theorem bound_Frames.calls (k : Nat) (a0 : Int) (a1 : Int) (a2 : Int) (a3 : Int) (a4 : Int) (r : Int) (w : World) (h : bound_Frames.f k a0 a1 a2 a3 a4 = some r) :
    Calls Try.prog 37 #[.int .i64 a0, .int .i64 a1, .int .i64 a2, .int .i64 a3, .int .i64 a4] w fun e w' => e = .returned (.int .i64 r) ∧ Below w.heap.size w w' := by
  have HB := Aside0.mk (Below.refl w.heap.size w)
  have H : (if a1 < 1 then (bound_Frames.j0 k a0 a1 a2 a3 a4 true) else (bound_Frames.j0 k a0 a1 a2 a3 a4 (decide (a0 < 1)))) = some r := h
  clear h
  have HC6 := Aside0.mk H
  clear H
  go_enter Try.func37, Try.ntmps37
  go_upto_region 1 with (fail)
  repeat (go_quiet (fail); go_upto_region 1 with (fail))
  go_cut [19] (fun v19 wc => ∃ (kq : Nat) (x19_5 : Bool), v19 = .bool x19_5 ∧ Aside0 (bound_Frames.j0 kq a0 a1 a2 a3 a4 x19_5 = some r) ∧ Aside0 (kq ≤ k) ∧ Aside0 (Below w.heap.size w wc))
  case first =>
    have H := HC6.out
    clear HC6
    by_cases c7 : a1 < 1
    · rw [if_pos c7] at H
      have c7b0 : decide (a1 < 1) = true := decide_eq_true c7
      clear c7
      (first | rw [c7b0] | (simp only [i64_w, i32_w]; rw [c7b0]) | skip)
      have H' := Aside0.mk H
      clear H
      go_wp2
      repeat (go_quiet (fail); try go_wp2)
      go_meet
      case rel => exact ⟨_, (true), (by first | rfl | (simp; done) | (simp [*]; done)), H', ⟨by first | omega | exact Nat.le_refl _⟩, ⟨by repeat (first | (with_reducible first | exact HB.out | apply below_alloc | apply pw_below_drewN | apply below_drew1) | exact HB.out)⟩⟩
    · rw [if_neg c7] at H
      have c7b0 : decide (a1 < 1) = false := decide_eq_false c7
      clear c7
      (first | rw [c7b0] | (simp only [i64_w, i32_w]; rw [c7b0]) | skip)
      have H' := Aside0.mk H
      clear H
      go_wp2
      repeat (go_quiet (fail); try go_wp2)
      go_meet
      case rel => exact ⟨_, (decide (a0 < 1)), (by first | rfl | (simp; done) | (simp [*]; done)), H', ⟨by first | omega | exact Nat.le_refl _⟩, ⟨by repeat (first | (with_reducible first | exact HB.out | apply below_alloc | apply pw_below_drewN | apply below_drew1) | exact HB.out)⟩⟩
  case rest =>
    clear HC6
    try clear p2
    try clear c3
    try clear c7
    try clear c7b0
    obtain ⟨kq, x19_5, rfl, HA, HJ5, HB⟩ := hcut
    cases kq with
    | zero => exact absurd HA.out (by simp [bound_Frames.j0])
    | succ kj5 =>
      have H := HA.out
      clear HA
      simp only [bound_Frames.j0] at H
      by_cases c8 : x19_5 = true
      · subst c8
        have H1 : (some 0) = some r := by rw [if_pos rfl] at H; exact H
        clear H
        have H := H1
        clear H1
        obtain rfl := Option.some.inj H
        go_wp2
        repeat (go_quiet (fail); try go_wp2)
        go_ret
        exact ⟨by first | rfl | (simp [errW_none, errW_some] <;> rfl) | (simp [*, errW_none, errW_some] <;> rfl), by repeat (first | (with_reducible first | exact HB.out | apply below_alloc | apply pw_below_drewN | apply below_drew1) | exact HB.out)⟩
      · replace c8 := Bool.eq_false_iff.mpr c8
        subst c8
        have H1 : (if a1 = 0 then (none) else ((bound_block.f kj5 a1).bind fun t128 => ((bound_rate.f kj5 a3).bind fun t129 => ((bound_body.f a1 a2 a4).bind fun t130 => (if (Int.tmod a0 a1) > 0 then ((bound_block.f kj5 (Int.tmod a0 a1)).bind fun t131 => ((bound_rate.f kj5 a3).bind fun t132 => ((bound_body.f (Int.tmod a0 a1) a2 a4).bind fun t133 => ((bound_Numbers.f kj5 (wrap64 ((wrap64 (Int.tdiv a0 a1)) + 1))).bind fun t134 => (some (wrap64 ((wrap64 ((wrap64 ((wrap64 (Int.tdiv a0 a1)) * (wrap64 ((wrap64 ((wrap64 (5 + t128)) + t129)) + t130)))) + (wrap64 ((wrap64 ((wrap64 (5 + t131)) + t132)) + t133)))) + t134))))))) else ((bound_Numbers.f kj5 (wrap64 (Int.tdiv a0 a1))).bind fun t135 => (some (wrap64 ((wrap64 ((wrap64 (Int.tdiv a0 a1)) * (wrap64 ((wrap64 ((wrap64 (5 + t128)) + t129)) + t130)))) + t135))))))))) = some r := by rw [if_neg (show ¬ (false = true) by decide)] at H; exact H
        clear H
        have H := H1
        clear H1
        by_cases c9 : a1 = 0
        · rw [if_pos c9] at H
          exact absurd H (by simp)
        · rw [if_neg c9] at H
          have c9b0 : (a1 == 0) = false := beq_eq_false_iff_ne.mpr c9
          have c9b1 : (a1 != 0) = true := bne_iff_ne.mpr c9
          replace H := Option.bind_eq_some_iff.mp H
          obtain ⟨t128, A100, H⟩ := H
          replace H : ((bound_rate.f kj5 a3).bind fun t129 => ((bound_body.f a1 a2 a4).bind fun t130 => (if (Int.tmod a0 a1) > 0 then ((bound_block.f kj5 (Int.tmod a0 a1)).bind fun t131 => ((bound_rate.f kj5 a3).bind fun t132 => ((bound_body.f (Int.tmod a0 a1) a2 a4).bind fun t133 => ((bound_Numbers.f kj5 (wrap64 ((wrap64 (Int.tdiv a0 a1)) + 1))).bind fun t134 => (some (wrap64 ((wrap64 ((wrap64 ((wrap64 (Int.tdiv a0 a1)) * (wrap64 ((wrap64 ((wrap64 (5 + t128)) + t129)) + t130)))) + (wrap64 ((wrap64 ((wrap64 (5 + t131)) + t132)) + t133)))) + t134))))))) else ((bound_Numbers.f kj5 (wrap64 (Int.tdiv a0 a1))).bind fun t135 => (some (wrap64 ((wrap64 ((wrap64 (Int.tdiv a0 a1)) * (wrap64 ((wrap64 ((wrap64 (5 + t128)) + t129)) + t130)))) + t135))))))) = some r := H
          have A10 := Aside0.mk A100
          clear A100
          replace H := Option.bind_eq_some_iff.mp H
          obtain ⟨t129, A110, H⟩ := H
          replace H : ((bound_body.f a1 a2 a4).bind fun t130 => (if (Int.tmod a0 a1) > 0 then ((bound_block.f kj5 (Int.tmod a0 a1)).bind fun t131 => ((bound_rate.f kj5 a3).bind fun t132 => ((bound_body.f (Int.tmod a0 a1) a2 a4).bind fun t133 => ((bound_Numbers.f kj5 (wrap64 ((wrap64 (Int.tdiv a0 a1)) + 1))).bind fun t134 => (some (wrap64 ((wrap64 ((wrap64 ((wrap64 (Int.tdiv a0 a1)) * (wrap64 ((wrap64 ((wrap64 (5 + t128)) + t129)) + t130)))) + (wrap64 ((wrap64 ((wrap64 (5 + t131)) + t132)) + t133)))) + t134))))))) else ((bound_Numbers.f kj5 (wrap64 (Int.tdiv a0 a1))).bind fun t135 => (some (wrap64 ((wrap64 ((wrap64 (Int.tdiv a0 a1)) * (wrap64 ((wrap64 ((wrap64 (5 + t128)) + t129)) + t130)))) + t135)))))) = some r := H
          have A11 := Aside0.mk A110
          clear A110
          replace H := Option.bind_eq_some_iff.mp H
          obtain ⟨t130, A120, H⟩ := H
          replace H : (if (Int.tmod a0 a1) > 0 then ((bound_block.f kj5 (Int.tmod a0 a1)).bind fun t131 => ((bound_rate.f kj5 a3).bind fun t132 => ((bound_body.f (Int.tmod a0 a1) a2 a4).bind fun t133 => ((bound_Numbers.f kj5 (wrap64 ((wrap64 (Int.tdiv a0 a1)) + 1))).bind fun t134 => (some (wrap64 ((wrap64 ((wrap64 ((wrap64 (Int.tdiv a0 a1)) * (wrap64 ((wrap64 ((wrap64 (5 + t128)) + t129)) + t130)))) + (wrap64 ((wrap64 ((wrap64 (5 + t131)) + t132)) + t133)))) + t134))))))) else ((bound_Numbers.f kj5 (wrap64 (Int.tdiv a0 a1))).bind fun t135 => (some (wrap64 ((wrap64 ((wrap64 (Int.tdiv a0 a1)) * (wrap64 ((wrap64 ((wrap64 (5 + t128)) + t129)) + t130)))) + t135))))) = some r := H
          have A12 := Aside0.mk A120
          clear A120
          by_cases c13 : (Int.tmod a0 a1) > 0
          · rw [if_pos c13] at H
            have c13b0 : decide (0 < (Int.tmod a0 a1)) = true := decide_eq_true c13
            clear c13
            replace H := Option.bind_eq_some_iff.mp H
            obtain ⟨t131, A140, H⟩ := H
            replace H : ((bound_rate.f kj5 a3).bind fun t132 => ((bound_body.f (Int.tmod a0 a1) a2 a4).bind fun t133 => ((bound_Numbers.f kj5 (wrap64 ((wrap64 (Int.tdiv a0 a1)) + 1))).bind fun t134 => (some (wrap64 ((wrap64 ((wrap64 ((wrap64 (Int.tdiv a0 a1)) * (wrap64 ((wrap64 ((wrap64 (5 + t128)) + t129)) + t130)))) + (wrap64 ((wrap64 ((wrap64 (5 + t131)) + t132)) + t133)))) + t134)))))) = some r := H
            have A14 := Aside0.mk A140
            clear A140
            replace H := Option.bind_eq_some_iff.mp H
            obtain ⟨t132, A150, H⟩ := H
            replace H : ((bound_body.f (Int.tmod a0 a1) a2 a4).bind fun t133 => ((bound_Numbers.f kj5 (wrap64 ((wrap64 (Int.tdiv a0 a1)) + 1))).bind fun t134 => (some (wrap64 ((wrap64 ((wrap64 ((wrap64 (Int.tdiv a0 a1)) * (wrap64 ((wrap64 ((wrap64 (5 + t128)) + t129)) + t130)))) + (wrap64 ((wrap64 ((wrap64 (5 + t131)) + t132)) + t133)))) + t134))))) = some r := H
            have A15 := Aside0.mk A150
            clear A150
            have D_A15 : t129 = t132 := Option.some.inj (A11.out.symm.trans A15.out)
            subst D_A15
            replace H := Option.bind_eq_some_iff.mp H
            obtain ⟨t133, A160, H⟩ := H
            replace H : ((bound_Numbers.f kj5 (wrap64 ((wrap64 (Int.tdiv a0 a1)) + 1))).bind fun t134 => (some (wrap64 ((wrap64 ((wrap64 ((wrap64 (Int.tdiv a0 a1)) * (wrap64 ((wrap64 ((wrap64 (5 + t128)) + t129)) + t130)))) + (wrap64 ((wrap64 ((wrap64 (5 + t131)) + t129)) + t133)))) + t134)))) = some r := H
            have A16 := Aside0.mk A160
            clear A160
            replace H := Option.bind_eq_some_iff.mp H
            obtain ⟨t134, A170, H⟩ := H
            replace H : (some (wrap64 ((wrap64 ((wrap64 ((wrap64 (Int.tdiv a0 a1)) * (wrap64 ((wrap64 ((wrap64 (5 + t128)) + t129)) + t130)))) + (wrap64 ((wrap64 ((wrap64 (5 + t131)) + t129)) + t133)))) + t134))) = some r := H
            have A17 := Aside0.mk A170
            clear A170
            obtain rfl := Option.some.inj H
            go_wp2_with (first | (go_at_call 49; (with_reducible refine (bound_block.calls kj5 a1 t128 _ A10.out).mono ?_); rintro e w18 ⟨rfl, hb⟩; have n0_ := Aside0.mk (below_step (by repeat (first | (with_reducible first | exact HB.out | apply below_alloc | apply pw_below_drewN | apply below_drew1) | exact HB.out)) hb); clear HB; have HB := n0_; clear n0_; (try clear hb); (try clear hb2); (try clear hk); (try clear hi)) | (go_at_call 50; (with_reducible refine (bound_rate.calls kj5 a3 t129 _ A11.out).mono ?_); rintro e w19 ⟨rfl, hb⟩; have n0_ := Aside0.mk (below_step (by repeat (first | (with_reducible first | exact HB.out | apply below_alloc | apply pw_below_drewN | apply below_drew1) | exact HB.out)) hb); clear HB; have HB := n0_; clear n0_; (try clear hb); (try clear hb2); (try clear hk); (try clear hi)) | (go_at_call 52; (with_reducible refine (bound_body.calls a1 a2 a4 t130 _ A12.out).mono ?_); rintro e w' ⟨rfl, ⟨nd, rfl⟩⟩; (try first | exact ⟨rfl, _, World.drewN_drewN _ _ _⟩ | exact ⟨rfl, _, Eq.trans (World.drewN_drewN _ _ _) (congrArg (World.drewN _) (Nat.add_assoc _ _ _))⟩)) | (go_at_call 49; (with_reducible refine (bound_block.calls kj5 (Int.tmod a0 a1) t131 _ A14.out).mono ?_); rintro e w20 ⟨rfl, hb⟩; have n0_ := Aside0.mk (below_step (by repeat (first | (with_reducible first | exact HB.out | apply below_alloc | apply pw_below_drewN | apply below_drew1) | exact HB.out)) hb); clear HB; have HB := n0_; clear n0_; (try clear hb); (try clear hb2); (try clear hk); (try clear hi)) | (go_at_call 50; (with_reducible refine (bound_rate.calls kj5 a3 t129 _ A15.out).mono ?_); rintro e w21 ⟨rfl, hb⟩; have n0_ := Aside0.mk (below_step (by repeat (first | (with_reducible first | exact HB.out | apply below_alloc | apply pw_below_drewN | apply below_drew1) | exact HB.out)) hb); clear HB; have HB := n0_; clear n0_; (try clear hb); (try clear hb2); (try clear hk); (try clear hi)) | (go_at_call 52; (with_reducible refine (bound_body.calls (Int.tmod a0 a1) a2 a4 t133 _ A16.out).mono ?_); rintro e w' ⟨rfl, ⟨nd, rfl⟩⟩; (try first | exact ⟨rfl, _, World.drewN_drewN _ _ _⟩ | exact ⟨rfl, _, Eq.trans (World.drewN_drewN _ _ _) (congrArg (World.drewN _) (Nat.add_assoc _ _ _))⟩)) | (go_at_call 31; (with_reducible refine (bound_Numbers.calls kj5 (wrap64 ((wrap64 (Int.tdiv a0 a1)) + 1)) t134 _ A17.out).mono ?_); rintro e w22 ⟨rfl, hb⟩; have n0_ := Aside0.mk (below_step (by repeat (first | (with_reducible first | exact HB.out | apply below_alloc | apply pw_below_drewN | apply below_drew1) | exact HB.out)) hb); clear HB; have HB := n0_; clear n0_; (try clear hb); (try clear hb2); (try clear hk); (try clear hi)))
            repeat (go_quiet (first | (go_at_call 49; (with_reducible refine (bound_block.calls kj5 a1 t128 _ A10.out).mono ?_); rintro e w18 ⟨rfl, hb⟩; have n0_ := Aside0.mk (below_step (by repeat (first | (with_reducible first | exact HB.out | apply below_alloc | apply pw_below_drewN | apply below_drew1) | exact HB.out)) hb); clear HB; have HB := n0_; clear n0_; (try clear hb); (try clear hb2); (try clear hk); (try clear hi)) | (go_at_call 50; (with_reducible refine (bound_rate.calls kj5 a3 t129 _ A11.out).mono ?_); rintro e w19 ⟨rfl, hb⟩; have n0_ := Aside0.mk (below_step (by repeat (first | (with_reducible first | exact HB.out | apply below_alloc | apply pw_below_drewN | apply below_drew1) | exact HB.out)) hb); clear HB; have HB := n0_; clear n0_; (try clear hb); (try clear hb2); (try clear hk); (try clear hi)) | (go_at_call 52; (with_reducible refine (bound_body.calls a1 a2 a4 t130 _ A12.out).mono ?_); rintro e w' ⟨rfl, ⟨nd, rfl⟩⟩; (try first | exact ⟨rfl, _, World.drewN_drewN _ _ _⟩ | exact ⟨rfl, _, Eq.trans (World.drewN_drewN _ _ _) (congrArg (World.drewN _) (Nat.add_assoc _ _ _))⟩)) | (go_at_call 49; (with_reducible refine (bound_block.calls kj5 (Int.tmod a0 a1) t131 _ A14.out).mono ?_); rintro e w20 ⟨rfl, hb⟩; have n0_ := Aside0.mk (below_step (by repeat (first | (with_reducible first | exact HB.out | apply below_alloc | apply pw_below_drewN | apply below_drew1) | exact HB.out)) hb); clear HB; have HB := n0_; clear n0_; (try clear hb); (try clear hb2); (try clear hk); (try clear hi)) | (go_at_call 50; (with_reducible refine (bound_rate.calls kj5 a3 t129 _ A15.out).mono ?_); rintro e w21 ⟨rfl, hb⟩; have n0_ := Aside0.mk (below_step (by repeat (first | (with_reducible first | exact HB.out | apply below_alloc | apply pw_below_drewN | apply below_drew1) | exact HB.out)) hb); clear HB; have HB := n0_; clear n0_; (try clear hb); (try clear hb2); (try clear hk); (try clear hi)) | (go_at_call 52; (with_reducible refine (bound_body.calls (Int.tmod a0 a1) a2 a4 t133 _ A16.out).mono ?_); rintro e w' ⟨rfl, ⟨nd, rfl⟩⟩; (try first | exact ⟨rfl, _, World.drewN_drewN _ _ _⟩ | exact ⟨rfl, _, Eq.trans (World.drewN_drewN _ _ _) (congrArg (World.drewN _) (Nat.add_assoc _ _ _))⟩)) | (go_at_call 31; (with_reducible refine (bound_Numbers.calls kj5 (wrap64 ((wrap64 (Int.tdiv a0 a1)) + 1)) t134 _ A17.out).mono ?_); rintro e w22 ⟨rfl, hb⟩; have n0_ := Aside0.mk (below_step (by repeat (first | (with_reducible first | exact HB.out | apply below_alloc | apply pw_below_drewN | apply below_drew1) | exact HB.out)) hb); clear HB; have HB := n0_; clear n0_; (try clear hb); (try clear hb2); (try clear hk); (try clear hi))); try go_wp2_with (first | (go_at_call 49; (with_reducible refine (bound_block.calls kj5 a1 t128 _ A10.out).mono ?_); rintro e w18 ⟨rfl, hb⟩; have n0_ := Aside0.mk (below_step (by repeat (first | (with_reducible first | exact HB.out | apply below_alloc | apply pw_below_drewN | apply below_drew1) | exact HB.out)) hb); clear HB; have HB := n0_; clear n0_; (try clear hb); (try clear hb2); (try clear hk); (try clear hi)) | (go_at_call 50; (with_reducible refine (bound_rate.calls kj5 a3 t129 _ A11.out).mono ?_); rintro e w19 ⟨rfl, hb⟩; have n0_ := Aside0.mk (below_step (by repeat (first | (with_reducible first | exact HB.out | apply below_alloc | apply pw_below_drewN | apply below_drew1) | exact HB.out)) hb); clear HB; have HB := n0_; clear n0_; (try clear hb); (try clear hb2); (try clear hk); (try clear hi)) | (go_at_call 52; (with_reducible refine (bound_body.calls a1 a2 a4 t130 _ A12.out).mono ?_); rintro e w' ⟨rfl, ⟨nd, rfl⟩⟩; (try first | exact ⟨rfl, _, World.drewN_drewN _ _ _⟩ | exact ⟨rfl, _, Eq.trans (World.drewN_drewN _ _ _) (congrArg (World.drewN _) (Nat.add_assoc _ _ _))⟩)) | (go_at_call 49; (with_reducible refine (bound_block.calls kj5 (Int.tmod a0 a1) t131 _ A14.out).mono ?_); rintro e w20 ⟨rfl, hb⟩; have n0_ := Aside0.mk (below_step (by repeat (first | (with_reducible first | exact HB.out | apply below_alloc | apply pw_below_drewN | apply below_drew1) | exact HB.out)) hb); clear HB; have HB := n0_; clear n0_; (try clear hb); (try clear hb2); (try clear hk); (try clear hi)) | (go_at_call 50; (with_reducible refine (bound_rate.calls kj5 a3 t129 _ A15.out).mono ?_); rintro e w21 ⟨rfl, hb⟩; have n0_ := Aside0.mk (below_step (by repeat (first | (with_reducible first | exact HB.out | apply below_alloc | apply pw_below_drewN | apply below_drew1) | exact HB.out)) hb); clear HB; have HB := n0_; clear n0_; (try clear hb); (try clear hb2); (try clear hk); (try clear hi)) | (go_at_call 52; (with_reducible refine (bound_body.calls (Int.tmod a0 a1) a2 a4 t133 _ A16.out).mono ?_); rintro e w' ⟨rfl, ⟨nd, rfl⟩⟩; (try first | exact ⟨rfl, _, World.drewN_drewN _ _ _⟩ | exact ⟨rfl, _, Eq.trans (World.drewN_drewN _ _ _) (congrArg (World.drewN _) (Nat.add_assoc _ _ _))⟩)) | (go_at_call 31; (with_reducible refine (bound_Numbers.calls kj5 (wrap64 ((wrap64 (Int.tdiv a0 a1)) + 1)) t134 _ A17.out).mono ?_); rintro e w22 ⟨rfl, hb⟩; have n0_ := Aside0.mk (below_step (by repeat (first | (with_reducible first | exact HB.out | apply below_alloc | apply pw_below_drewN | apply below_drew1) | exact HB.out)) hb); clear HB; have HB := n0_; clear n0_; (try clear hb); (try clear hb2); (try clear hk); (try clear hi))))
            go_ret
            exact ⟨by first | rfl | (simp [errW_none, errW_some] <;> rfl) | (simp [*, errW_none, errW_some] <;> rfl), by repeat (first | (with_reducible first | exact HB.out | apply below_alloc | apply pw_below_drewN | apply below_drew1) | exact HB.out)⟩
          · rw [if_neg c13] at H
            have c13b0 : decide (0 < (Int.tmod a0 a1)) = false := decide_eq_false c13
            clear c13
            replace H := Option.bind_eq_some_iff.mp H
            obtain ⟨t135, A230, H⟩ := H
            replace H : (some (wrap64 ((wrap64 ((wrap64 (Int.tdiv a0 a1)) * (wrap64 ((wrap64 ((wrap64 (5 + t128)) + t129)) + t130)))) + t135))) = some r := H
            have A23 := Aside0.mk A230
            clear A230
            obtain rfl := Option.some.inj H
            go_wp2_with (first | (go_at_call 49; (with_reducible refine (bound_block.calls kj5 a1 t128 _ A10.out).mono ?_); rintro e w24 ⟨rfl, hb⟩; have n0_ := Aside0.mk (below_step (by repeat (first | (with_reducible first | exact HB.out | apply below_alloc | apply pw_below_drewN | apply below_drew1) | exact HB.out)) hb); clear HB; have HB := n0_; clear n0_; (try clear hb); (try clear hb2); (try clear hk); (try clear hi)) | (go_at_call 50; (with_reducible refine (bound_rate.calls kj5 a3 t129 _ A11.out).mono ?_); rintro e w25 ⟨rfl, hb⟩; have n0_ := Aside0.mk (below_step (by repeat (first | (with_reducible first | exact HB.out | apply below_alloc | apply pw_below_drewN | apply below_drew1) | exact HB.out)) hb); clear HB; have HB := n0_; clear n0_; (try clear hb); (try clear hb2); (try clear hk); (try clear hi)) | (go_at_call 52; (with_reducible refine (bound_body.calls a1 a2 a4 t130 _ A12.out).mono ?_); rintro e w' ⟨rfl, ⟨nd, rfl⟩⟩; (try first | exact ⟨rfl, _, World.drewN_drewN _ _ _⟩ | exact ⟨rfl, _, Eq.trans (World.drewN_drewN _ _ _) (congrArg (World.drewN _) (Nat.add_assoc _ _ _))⟩)) | (go_at_call 31; (with_reducible refine (bound_Numbers.calls kj5 (wrap64 (Int.tdiv a0 a1)) t135 _ A23.out).mono ?_); rintro e w26 ⟨rfl, hb⟩; have n0_ := Aside0.mk (below_step (by repeat (first | (with_reducible first | exact HB.out | apply below_alloc | apply pw_below_drewN | apply below_drew1) | exact HB.out)) hb); clear HB; have HB := n0_; clear n0_; (try clear hb); (try clear hb2); (try clear hk); (try clear hi)))
            repeat (go_quiet (first | (go_at_call 49; (with_reducible refine (bound_block.calls kj5 a1 t128 _ A10.out).mono ?_); rintro e w24 ⟨rfl, hb⟩; have n0_ := Aside0.mk (below_step (by repeat (first | (with_reducible first | exact HB.out | apply below_alloc | apply pw_below_drewN | apply below_drew1) | exact HB.out)) hb); clear HB; have HB := n0_; clear n0_; (try clear hb); (try clear hb2); (try clear hk); (try clear hi)) | (go_at_call 50; (with_reducible refine (bound_rate.calls kj5 a3 t129 _ A11.out).mono ?_); rintro e w25 ⟨rfl, hb⟩; have n0_ := Aside0.mk (below_step (by repeat (first | (with_reducible first | exact HB.out | apply below_alloc | apply pw_below_drewN | apply below_drew1) | exact HB.out)) hb); clear HB; have HB := n0_; clear n0_; (try clear hb); (try clear hb2); (try clear hk); (try clear hi)) | (go_at_call 52; (with_reducible refine (bound_body.calls a1 a2 a4 t130 _ A12.out).mono ?_); rintro e w' ⟨rfl, ⟨nd, rfl⟩⟩; (try first | exact ⟨rfl, _, World.drewN_drewN _ _ _⟩ | exact ⟨rfl, _, Eq.trans (World.drewN_drewN _ _ _) (congrArg (World.drewN _) (Nat.add_assoc _ _ _))⟩)) | (go_at_call 31; (with_reducible refine (bound_Numbers.calls kj5 (wrap64 (Int.tdiv a0 a1)) t135 _ A23.out).mono ?_); rintro e w26 ⟨rfl, hb⟩; have n0_ := Aside0.mk (below_step (by repeat (first | (with_reducible first | exact HB.out | apply below_alloc | apply pw_below_drewN | apply below_drew1) | exact HB.out)) hb); clear HB; have HB := n0_; clear n0_; (try clear hb); (try clear hb2); (try clear hk); (try clear hi))); try go_wp2_with (first | (go_at_call 49; (with_reducible refine (bound_block.calls kj5 a1 t128 _ A10.out).mono ?_); rintro e w24 ⟨rfl, hb⟩; have n0_ := Aside0.mk (below_step (by repeat (first | (with_reducible first | exact HB.out | apply below_alloc | apply pw_below_drewN | apply below_drew1) | exact HB.out)) hb); clear HB; have HB := n0_; clear n0_; (try clear hb); (try clear hb2); (try clear hk); (try clear hi)) | (go_at_call 50; (with_reducible refine (bound_rate.calls kj5 a3 t129 _ A11.out).mono ?_); rintro e w25 ⟨rfl, hb⟩; have n0_ := Aside0.mk (below_step (by repeat (first | (with_reducible first | exact HB.out | apply below_alloc | apply pw_below_drewN | apply below_drew1) | exact HB.out)) hb); clear HB; have HB := n0_; clear n0_; (try clear hb); (try clear hb2); (try clear hk); (try clear hi)) | (go_at_call 52; (with_reducible refine (bound_body.calls a1 a2 a4 t130 _ A12.out).mono ?_); rintro e w' ⟨rfl, ⟨nd, rfl⟩⟩; (try first | exact ⟨rfl, _, World.drewN_drewN _ _ _⟩ | exact ⟨rfl, _, Eq.trans (World.drewN_drewN _ _ _) (congrArg (World.drewN _) (Nat.add_assoc _ _ _))⟩)) | (go_at_call 31; (with_reducible refine (bound_Numbers.calls kj5 (wrap64 (Int.tdiv a0 a1)) t135 _ A23.out).mono ?_); rintro e w26 ⟨rfl, hb⟩; have n0_ := Aside0.mk (below_step (by repeat (first | (with_reducible first | exact HB.out | apply below_alloc | apply pw_below_drewN | apply below_drew1) | exact HB.out)) hb); clear HB; have HB := n0_; clear n0_; (try clear hb); (try clear hb2); (try clear hk); (try clear hi))))
            go_ret
            exact ⟨by first | rfl | (simp [errW_none, errW_some] <;> rfl) | (simp [*, errW_none, errW_some] <;> rfl), by repeat (first | (with_reducible first | exact HB.out | apply below_alloc | apply pw_below_drewN | apply below_drew1) | exact HB.out)⟩

/-! ### serinettelaw24_BoundMore: function 14 -/
def serinettelaw24_BoundMore.f (k : Nat) (a0 : Int) (a1 : Int) (a2 : Int) (a3 : Int) (a4 : Int) : Option (Bool) := (serinettelaw24_awake.f k).bind fun t136 => (if t136 = true then ((bound_Frames.f k (wrap64 ((wrap64 ((wrap64 (a0)) + 1)) * (wrap64 (1 + (Int.tmod (wrap64 (a1)) 65535))))) (wrap64 (1 + (Int.tmod (wrap64 (a1)) 65535))) (wrap64 (1 + (wrap64 (Int.tmod a2 8)))) (wrap64 (1 + (wrap64 (Int.tmod a3 1048575)))) (wrap64 (4 + (wrap64 (Int.tmod a4 29))))).bind fun t137 => ((bound_Frames.f k (wrap64 ((wrap64 (a0)) * (wrap64 (1 + (Int.tmod (wrap64 (a1)) 65535))))) (wrap64 (1 + (Int.tmod (wrap64 (a1)) 65535))) (wrap64 (1 + (wrap64 (Int.tmod a2 8)))) (wrap64 (1 + (wrap64 (Int.tmod a3 1048575)))) (wrap64 (4 + (wrap64 (Int.tmod a4 29))))).bind fun t138 => ((bound_Frame.f k (wrap64 (1 + (Int.tmod (wrap64 (a1)) 65535))) (wrap64 (1 + (wrap64 (Int.tmod a2 8)))) (wrap64 (1 + (wrap64 (Int.tmod a3 1048575)))) (wrap64 (4 + (wrap64 (Int.tmod a4 29)))) (wrap64 (a0))).bind fun t139 => (if t137 = (wrap64 (t138 + t139)) then ((bound_Frames.f k 0 (wrap64 (1 + (Int.tmod (wrap64 (a1)) 65535))) (wrap64 (1 + (wrap64 (Int.tmod a2 8)))) (wrap64 (1 + (wrap64 (Int.tmod a3 1048575)))) (wrap64 (4 + (wrap64 (Int.tmod a4 29))))).bind fun t140 => (some (t140 == 0))) else (some false))))) else (some false))
theorem serinettelaw24_BoundMore.mono : ∀ a0 a1 a2 a3 a4 k, LeO (serinettelaw24_BoundMore.f k a0 a1 a2 a3 a4) (serinettelaw24_BoundMore.f (k + 1) a0 a1 a2 a3 a4) := by
  intro a0 a1 a2 a3 a4 k
  unfold serinettelaw24_BoundMore.f
  repeat' first
      | (with_reducible exact bound_Frame.mono _ _ _ _ _ _)
      | (with_reducible exact bound_Frames.mono _ _ _ _ _ _)
      | (with_reducible exact serinettelaw24_awake.mono _)
      | (with_reducible exact LeO.refl _)
      | (with_reducible exact LeO.none _)
      | (with_reducible refine LeO.ite ?_ ?_)
      | (with_reducible refine LeO.bind ?_ (fun _ => ?_))
      | exact bound_Frame.mono _ _ _ _ _ _
      | exact bound_Frames.mono _ _ _ _ _ _
      | exact serinettelaw24_awake.mono _
      | exact LeO.none _
      | refine LeO.ite ?_ ?_
      | refine LeO.bind ?_ (fun _ => ?_)
set_option maxHeartbeats 8000000 in
set_option maxRecDepth 100000 in
theorem serinettelaw24_BoundMore.calls (k : Nat) (a0 : Int) (a1 : Int) (a2 : Int) (a3 : Int) (a4 : Int) (r : Bool) (w : World) (h : serinettelaw24_BoundMore.f k a0 a1 a2 a3 a4 = some r) :
    Calls Try.prog 14 #[.int .u16 a0, .int .u16 a1, .int .u8 a2, .int .u32 a3, .int .u8 a4] w fun e w' => e = .returned (.bool r) ∧ Below w.heap.size w w' := by
  have HB := Aside0.mk (Below.refl w.heap.size w)
  have H : ((serinettelaw24_awake.f k).bind fun t136 => (if t136 = true then ((bound_Frames.f k (wrap64 ((wrap64 ((wrap64 (a0)) + 1)) * (wrap64 (1 + (Int.tmod (wrap64 (a1)) 65535))))) (wrap64 (1 + (Int.tmod (wrap64 (a1)) 65535))) (wrap64 (1 + (wrap64 (Int.tmod a2 8)))) (wrap64 (1 + (wrap64 (Int.tmod a3 1048575)))) (wrap64 (4 + (wrap64 (Int.tmod a4 29))))).bind fun t137 => ((bound_Frames.f k (wrap64 ((wrap64 (a0)) * (wrap64 (1 + (Int.tmod (wrap64 (a1)) 65535))))) (wrap64 (1 + (Int.tmod (wrap64 (a1)) 65535))) (wrap64 (1 + (wrap64 (Int.tmod a2 8)))) (wrap64 (1 + (wrap64 (Int.tmod a3 1048575)))) (wrap64 (4 + (wrap64 (Int.tmod a4 29))))).bind fun t138 => ((bound_Frame.f k (wrap64 (1 + (Int.tmod (wrap64 (a1)) 65535))) (wrap64 (1 + (wrap64 (Int.tmod a2 8)))) (wrap64 (1 + (wrap64 (Int.tmod a3 1048575)))) (wrap64 (4 + (wrap64 (Int.tmod a4 29)))) (wrap64 (a0))).bind fun t139 => (if t137 = (wrap64 (t138 + t139)) then ((bound_Frames.f k 0 (wrap64 (1 + (Int.tmod (wrap64 (a1)) 65535))) (wrap64 (1 + (wrap64 (Int.tmod a2 8)))) (wrap64 (1 + (wrap64 (Int.tmod a3 1048575)))) (wrap64 (4 + (wrap64 (Int.tmod a4 29))))).bind fun t140 => (some (t140 == 0))) else (some false))))) else (some false))) = some r := h
  clear h
  replace H := Option.bind_eq_some_iff.mp H
  obtain ⟨t136, A60, H⟩ := H
  replace H : (if t136 = true then ((bound_Frames.f k (wrap64 ((wrap64 ((wrap64 (a0)) + 1)) * (wrap64 (1 + (Int.tmod (wrap64 (a1)) 65535))))) (wrap64 (1 + (Int.tmod (wrap64 (a1)) 65535))) (wrap64 (1 + (wrap64 (Int.tmod a2 8)))) (wrap64 (1 + (wrap64 (Int.tmod a3 1048575)))) (wrap64 (4 + (wrap64 (Int.tmod a4 29))))).bind fun t137 => ((bound_Frames.f k (wrap64 ((wrap64 (a0)) * (wrap64 (1 + (Int.tmod (wrap64 (a1)) 65535))))) (wrap64 (1 + (Int.tmod (wrap64 (a1)) 65535))) (wrap64 (1 + (wrap64 (Int.tmod a2 8)))) (wrap64 (1 + (wrap64 (Int.tmod a3 1048575)))) (wrap64 (4 + (wrap64 (Int.tmod a4 29))))).bind fun t138 => ((bound_Frame.f k (wrap64 (1 + (Int.tmod (wrap64 (a1)) 65535))) (wrap64 (1 + (wrap64 (Int.tmod a2 8)))) (wrap64 (1 + (wrap64 (Int.tmod a3 1048575)))) (wrap64 (4 + (wrap64 (Int.tmod a4 29)))) (wrap64 (a0))).bind fun t139 => (if t137 = (wrap64 (t138 + t139)) then ((bound_Frames.f k 0 (wrap64 (1 + (Int.tmod (wrap64 (a1)) 65535))) (wrap64 (1 + (wrap64 (Int.tmod a2 8)))) (wrap64 (1 + (wrap64 (Int.tmod a3 1048575)))) (wrap64 (4 + (wrap64 (Int.tmod a4 29))))).bind fun t140 => (some (t140 == 0))) else (some false))))) else (some false)) = some r := H
  have A6 := Aside0.mk A60
  clear A60
  by_cases c7 : t136 = true
  · subst c7
    have H1 : ((bound_Frames.f k (wrap64 ((wrap64 ((wrap64 (a0)) + 1)) * (wrap64 (1 + (Int.tmod (wrap64 (a1)) 65535))))) (wrap64 (1 + (Int.tmod (wrap64 (a1)) 65535))) (wrap64 (1 + (wrap64 (Int.tmod a2 8)))) (wrap64 (1 + (wrap64 (Int.tmod a3 1048575)))) (wrap64 (4 + (wrap64 (Int.tmod a4 29))))).bind fun t137 => ((bound_Frames.f k (wrap64 ((wrap64 (a0)) * (wrap64 (1 + (Int.tmod (wrap64 (a1)) 65535))))) (wrap64 (1 + (Int.tmod (wrap64 (a1)) 65535))) (wrap64 (1 + (wrap64 (Int.tmod a2 8)))) (wrap64 (1 + (wrap64 (Int.tmod a3 1048575)))) (wrap64 (4 + (wrap64 (Int.tmod a4 29))))).bind fun t138 => ((bound_Frame.f k (wrap64 (1 + (Int.tmod (wrap64 (a1)) 65535))) (wrap64 (1 + (wrap64 (Int.tmod a2 8)))) (wrap64 (1 + (wrap64 (Int.tmod a3 1048575)))) (wrap64 (4 + (wrap64 (Int.tmod a4 29)))) (wrap64 (a0))).bind fun t139 => (if t137 = (wrap64 (t138 + t139)) then ((bound_Frames.f k 0 (wrap64 (1 + (Int.tmod (wrap64 (a1)) 65535))) (wrap64 (1 + (wrap64 (Int.tmod a2 8)))) (wrap64 (1 + (wrap64 (Int.tmod a3 1048575)))) (wrap64 (4 + (wrap64 (Int.tmod a4 29))))).bind fun t140 => (some (t140 == 0))) else (some false))))) = some r := by rw [if_pos rfl] at H; exact H
    clear H
    have H := H1
    clear H1
    replace H := Option.bind_eq_some_iff.mp H
    obtain ⟨t137, A80, H⟩ := H
    replace H : ((bound_Frames.f k (wrap64 ((wrap64 (a0)) * (wrap64 (1 + (Int.tmod (wrap64 (a1)) 65535))))) (wrap64 (1 + (Int.tmod (wrap64 (a1)) 65535))) (wrap64 (1 + (wrap64 (Int.tmod a2 8)))) (wrap64 (1 + (wrap64 (Int.tmod a3 1048575)))) (wrap64 (4 + (wrap64 (Int.tmod a4 29))))).bind fun t138 => ((bound_Frame.f k (wrap64 (1 + (Int.tmod (wrap64 (a1)) 65535))) (wrap64 (1 + (wrap64 (Int.tmod a2 8)))) (wrap64 (1 + (wrap64 (Int.tmod a3 1048575)))) (wrap64 (4 + (wrap64 (Int.tmod a4 29)))) (wrap64 (a0))).bind fun t139 => (if t137 = (wrap64 (t138 + t139)) then ((bound_Frames.f k 0 (wrap64 (1 + (Int.tmod (wrap64 (a1)) 65535))) (wrap64 (1 + (wrap64 (Int.tmod a2 8)))) (wrap64 (1 + (wrap64 (Int.tmod a3 1048575)))) (wrap64 (4 + (wrap64 (Int.tmod a4 29))))).bind fun t140 => (some (t140 == 0))) else (some false)))) = some r := H
    have A8 := Aside0.mk A80
    clear A80
    replace H := Option.bind_eq_some_iff.mp H
    obtain ⟨t138, A90, H⟩ := H
    replace H : ((bound_Frame.f k (wrap64 (1 + (Int.tmod (wrap64 (a1)) 65535))) (wrap64 (1 + (wrap64 (Int.tmod a2 8)))) (wrap64 (1 + (wrap64 (Int.tmod a3 1048575)))) (wrap64 (4 + (wrap64 (Int.tmod a4 29)))) (wrap64 (a0))).bind fun t139 => (if t137 = (wrap64 (t138 + t139)) then ((bound_Frames.f k 0 (wrap64 (1 + (Int.tmod (wrap64 (a1)) 65535))) (wrap64 (1 + (wrap64 (Int.tmod a2 8)))) (wrap64 (1 + (wrap64 (Int.tmod a3 1048575)))) (wrap64 (4 + (wrap64 (Int.tmod a4 29))))).bind fun t140 => (some (t140 == 0))) else (some false))) = some r := H
    have A9 := Aside0.mk A90
    clear A90
    replace H := Option.bind_eq_some_iff.mp H
    obtain ⟨t139, A100, H⟩ := H
    replace H : (if t137 = (wrap64 (t138 + t139)) then ((bound_Frames.f k 0 (wrap64 (1 + (Int.tmod (wrap64 (a1)) 65535))) (wrap64 (1 + (wrap64 (Int.tmod a2 8)))) (wrap64 (1 + (wrap64 (Int.tmod a3 1048575)))) (wrap64 (4 + (wrap64 (Int.tmod a4 29))))).bind fun t140 => (some (t140 == 0))) else (some false)) = some r := H
    have A10 := Aside0.mk A100
    clear A100
    by_cases c11 : t137 = (wrap64 (t138 + t139))
    · rw [if_pos c11] at H
      have c11b0 : (t137 == (wrap64 (t138 + t139))) = true := beq_iff_eq.mpr c11
      have c11b1 : (t137 != (wrap64 (t138 + t139))) = false := bne_eq_false_iff_eq.mpr c11
      clear c11
      replace H := Option.bind_eq_some_iff.mp H
      obtain ⟨t140, A120, H⟩ := H
      replace H : (some (t140 == 0)) = some r := H
      have A12 := Aside0.mk A120
      clear A120
      obtain rfl := Option.some.inj H
      go_enter Try.func14, Try.ntmps14
      go_wp2_with (first | ((with_reducible refine gate_callee (f := 26) rfl ?_); refine goesL_ (some 17) rfl rfl Try.func26 (by kernel_rfl) rfl #[] rfl (by (try simp only [List.map_toArray, List.map_cons, List.map_nil]); first | done | rfl | (simp only [List.length_drop, List.length_take]; rfl)) ?_; (with_reducible refine (serinettelaw24_awake.calls k  true _ A6.out).mono ?_); rintro e w13 ⟨rfl, hb⟩; refine ⟨_, rfl, ?_⟩; have n0_ := Aside0.mk (below_step (by repeat (first | (with_reducible first | exact HB.out | apply below_alloc | apply pw_below_drewN | apply below_drew1) | exact HB.out)) hb); clear HB; have HB := n0_; clear n0_; (try clear hb); (try clear hb2); (try clear hk); (try clear hi)) | (go_at_call 37; (with_reducible refine (bound_Frames.calls k (wrap64 ((wrap64 ((wrap64 (a0)) + 1)) * (wrap64 (1 + (Int.tmod (wrap64 (a1)) 65535))))) (wrap64 (1 + (Int.tmod (wrap64 (a1)) 65535))) (wrap64 (1 + (wrap64 (Int.tmod a2 8)))) (wrap64 (1 + (wrap64 (Int.tmod a3 1048575)))) (wrap64 (4 + (wrap64 (Int.tmod a4 29)))) t137 _ A8.out).mono ?_); rintro e w14 ⟨rfl, hb⟩; have n0_ := Aside0.mk (below_step (by repeat (first | (with_reducible first | exact HB.out | apply below_alloc | apply pw_below_drewN | apply below_drew1) | exact HB.out)) hb); clear HB; have HB := n0_; clear n0_; (try clear hb); (try clear hb2); (try clear hk); (try clear hi)) | (go_at_call 37; (with_reducible refine (bound_Frames.calls k (wrap64 ((wrap64 (a0)) * (wrap64 (1 + (Int.tmod (wrap64 (a1)) 65535))))) (wrap64 (1 + (Int.tmod (wrap64 (a1)) 65535))) (wrap64 (1 + (wrap64 (Int.tmod a2 8)))) (wrap64 (1 + (wrap64 (Int.tmod a3 1048575)))) (wrap64 (4 + (wrap64 (Int.tmod a4 29)))) t138 _ A9.out).mono ?_); rintro e w15 ⟨rfl, hb⟩; have n0_ := Aside0.mk (below_step (by repeat (first | (with_reducible first | exact HB.out | apply below_alloc | apply pw_below_drewN | apply below_drew1) | exact HB.out)) hb); clear HB; have HB := n0_; clear n0_; (try clear hb); (try clear hb2); (try clear hk); (try clear hi)) | (go_at_call 29; (with_reducible refine (bound_Frame.calls k (wrap64 (1 + (Int.tmod (wrap64 (a1)) 65535))) (wrap64 (1 + (wrap64 (Int.tmod a2 8)))) (wrap64 (1 + (wrap64 (Int.tmod a3 1048575)))) (wrap64 (4 + (wrap64 (Int.tmod a4 29)))) (wrap64 (a0)) t139 _ A10.out).mono ?_); rintro e w16 ⟨rfl, hb⟩; have n0_ := Aside0.mk (below_step (by repeat (first | (with_reducible first | exact HB.out | apply below_alloc | apply pw_below_drewN | apply below_drew1) | exact HB.out)) hb); clear HB; have HB := n0_; clear n0_; (try clear hb); (try clear hb2); (try clear hk); (try clear hi)) | (go_at_call 37; (with_reducible refine (bound_Frames.calls k 0 (wrap64 (1 + (Int.tmod (wrap64 (a1)) 65535))) (wrap64 (1 + (wrap64 (Int.tmod a2 8)))) (wrap64 (1 + (wrap64 (Int.tmod a3 1048575)))) (wrap64 (4 + (wrap64 (Int.tmod a4 29)))) t140 _ A12.out).mono ?_); rintro e w17 ⟨rfl, hb⟩; have n0_ := Aside0.mk (below_step (by repeat (first | (with_reducible first | exact HB.out | apply below_alloc | apply pw_below_drewN | apply below_drew1) | exact HB.out)) hb); clear HB; have HB := n0_; clear n0_; (try clear hb); (try clear hb2); (try clear hk); (try clear hi)))
      go_ret
      exact ⟨by first | rfl | (simp [errW_none, errW_some] <;> rfl) | (simp [*, errW_none, errW_some] <;> rfl), by repeat (first | (with_reducible first | exact HB.out | apply below_alloc | apply pw_below_drewN | apply below_drew1) | exact HB.out)⟩
    · rw [if_neg c11] at H
      have c11b0 : (t137 == (wrap64 (t138 + t139))) = false := beq_eq_false_iff_ne.mpr c11
      have c11b1 : (t137 != (wrap64 (t138 + t139))) = true := bne_iff_ne.mpr c11
      obtain rfl := Option.some.inj H
      go_enter Try.func14, Try.ntmps14
      go_wp2_with (first | ((with_reducible refine gate_callee (f := 26) rfl ?_); refine goesL_ (some 17) rfl rfl Try.func26 (by kernel_rfl) rfl #[] rfl (by (try simp only [List.map_toArray, List.map_cons, List.map_nil]); first | done | rfl | (simp only [List.length_drop, List.length_take]; rfl)) ?_; (with_reducible refine (serinettelaw24_awake.calls k  true _ A6.out).mono ?_); rintro e w18 ⟨rfl, hb⟩; refine ⟨_, rfl, ?_⟩; have n0_ := Aside0.mk (below_step (by repeat (first | (with_reducible first | exact HB.out | apply below_alloc | apply pw_below_drewN | apply below_drew1) | exact HB.out)) hb); clear HB; have HB := n0_; clear n0_; (try clear hb); (try clear hb2); (try clear hk); (try clear hi)) | (go_at_call 37; (with_reducible refine (bound_Frames.calls k (wrap64 ((wrap64 ((wrap64 (a0)) + 1)) * (wrap64 (1 + (Int.tmod (wrap64 (a1)) 65535))))) (wrap64 (1 + (Int.tmod (wrap64 (a1)) 65535))) (wrap64 (1 + (wrap64 (Int.tmod a2 8)))) (wrap64 (1 + (wrap64 (Int.tmod a3 1048575)))) (wrap64 (4 + (wrap64 (Int.tmod a4 29)))) t137 _ A8.out).mono ?_); rintro e w19 ⟨rfl, hb⟩; have n0_ := Aside0.mk (below_step (by repeat (first | (with_reducible first | exact HB.out | apply below_alloc | apply pw_below_drewN | apply below_drew1) | exact HB.out)) hb); clear HB; have HB := n0_; clear n0_; (try clear hb); (try clear hb2); (try clear hk); (try clear hi)) | (go_at_call 37; (with_reducible refine (bound_Frames.calls k (wrap64 ((wrap64 (a0)) * (wrap64 (1 + (Int.tmod (wrap64 (a1)) 65535))))) (wrap64 (1 + (Int.tmod (wrap64 (a1)) 65535))) (wrap64 (1 + (wrap64 (Int.tmod a2 8)))) (wrap64 (1 + (wrap64 (Int.tmod a3 1048575)))) (wrap64 (4 + (wrap64 (Int.tmod a4 29)))) t138 _ A9.out).mono ?_); rintro e w20 ⟨rfl, hb⟩; have n0_ := Aside0.mk (below_step (by repeat (first | (with_reducible first | exact HB.out | apply below_alloc | apply pw_below_drewN | apply below_drew1) | exact HB.out)) hb); clear HB; have HB := n0_; clear n0_; (try clear hb); (try clear hb2); (try clear hk); (try clear hi)) | (go_at_call 29; (with_reducible refine (bound_Frame.calls k (wrap64 (1 + (Int.tmod (wrap64 (a1)) 65535))) (wrap64 (1 + (wrap64 (Int.tmod a2 8)))) (wrap64 (1 + (wrap64 (Int.tmod a3 1048575)))) (wrap64 (4 + (wrap64 (Int.tmod a4 29)))) (wrap64 (a0)) t139 _ A10.out).mono ?_); rintro e w21 ⟨rfl, hb⟩; have n0_ := Aside0.mk (below_step (by repeat (first | (with_reducible first | exact HB.out | apply below_alloc | apply pw_below_drewN | apply below_drew1) | exact HB.out)) hb); clear HB; have HB := n0_; clear n0_; (try clear hb); (try clear hb2); (try clear hk); (try clear hi)))
      go_ret
      exact ⟨by first | rfl | (simp [errW_none, errW_some] <;> rfl) | (simp [*, errW_none, errW_some] <;> rfl), by repeat (first | (with_reducible first | exact HB.out | apply below_alloc | apply pw_below_drewN | apply below_drew1) | exact HB.out)⟩
  · replace c7 := Bool.eq_false_iff.mpr c7
    subst c7
    have H1 : (some false) = some r := by rw [if_neg (show ¬ (false = true) by decide)] at H; exact H
    clear H
    have H := H1
    clear H1
    obtain rfl := Option.some.inj H
    go_enter Try.func14, Try.ntmps14
    go_wp2_with (first | ((with_reducible refine gate_callee (f := 26) rfl ?_); refine goesL_ (some 17) rfl rfl Try.func26 (by kernel_rfl) rfl #[] rfl (by (try simp only [List.map_toArray, List.map_cons, List.map_nil]); first | done | rfl | (simp only [List.length_drop, List.length_take]; rfl)) ?_; (with_reducible refine (serinettelaw24_awake.calls k  false _ A6.out).mono ?_); rintro e w22 ⟨rfl, hb⟩; refine ⟨_, rfl, ?_⟩; have n0_ := Aside0.mk (below_step (by repeat (first | (with_reducible first | exact HB.out | apply below_alloc | apply pw_below_drewN | apply below_drew1) | exact HB.out)) hb); clear HB; have HB := n0_; clear n0_; (try clear hb); (try clear hb2); (try clear hk); (try clear hi)))
    go_ret
    exact ⟨by first | rfl | (simp [errW_none, errW_some] <;> rfl) | (simp [*, errW_none, errW_some] <;> rfl), by repeat (first | (with_reducible first | exact HB.out | apply below_alloc | apply pw_below_drewN | apply below_drew1) | exact HB.out)⟩

/-- THE ONE PURE STATEMENT of serinettelaw24_BoundMore: yours. -/
def serinettelaw24_BoundMore.Pure : Prop := ∀ (a0 : Int) (a1 : Int) (a2 : Int) (a3 : Int) (a4 : Int), (Lit.int .u16 a0).wf = true → (Lit.int .u16 a1).wf = true → (Lit.int .u8 a2).wf = true → (Lit.int .u32 a3).wf = true → (Lit.int .u8 a4).wf = true → ∃ k, serinettelaw24_BoundMore.f k a0 a1 a2 a3 a4 = some true
theorem serinettelaw24_BoundMore.walk (P : serinettelaw24_BoundMore.Pure) (a0 : Int) (a1 : Int) (a2 : Int) (a3 : Int) (a4 : Int) (w : World) (w0 : (Lit.int .u16 a0).wf = true) (w1 : (Lit.int .u16 a1).wf = true) (w2 : (Lit.int .u8 a2).wf = true) (w3 : (Lit.int .u32 a3).wf = true) (w4 : (Lit.int .u8 a4).wf = true) :
    Calls Try.prog 14 #[.int .u16 a0, .int .u16 a1, .int .u8 a2, .int .u32 a3, .int .u8 a4] w fun e w' => e = .returned (.bool true) ∧ Below w.heap.size w w' := by
  obtain ⟨k, h⟩ := P a0 a1 a2 a3 a4 w0 w1 w2 w3 w4
  refine (serinettelaw24_BoundMore.calls k a0 a1 a2 a3 a4 true w h).mono ?_
  rintro e w' ⟨rfl, hd⟩
  exact ⟨rfl, hd⟩

end Go.Proofs.Ytgdgncdnhpflcaa.PBoundMore
