-- PRINTED BY print.sh 35421559b90ae4d0a3588c463048766b98c2df88dd9212a6774a882060cdf62d: not written by this session
import Derived.Test.YtgdgncdnhpflcaaPBoundTellsx0
import Derived.Test.YtgdgncdnhpflcaaPBoundTellsx1
import Derived.Test.YtgdgncdnhpflcaaPBoundTellsx2
import Derived.Test.YtgdgncdnhpflcaaPBoundTellsx5
namespace Go.Proofs.Ytgdgncdnhpflcaa.PBoundTells
open Go.RowKit Go.Proofs.YtgdgncdnhpflcaaW.PrintWords Go.Proofs.YtgdgncdnhpflcaaW.PrintLast Go.Proofs.YtgdgncdnhpflcaaW.PrintMore
attribute [local go_sem] max2_int min2_int max_two min_two max_three min_three max_four min_four   -- for this text's walks alone
set_option linter.unusedVariables false
set_option linter.unusedSimpArgs false

/-! ### serinetteref24_Head: function 28 -/
def serinetteref24_Head.f (k : Nat) (a0 : Int) (a1 : Int) (a2 : Int) : Option (Int) := (serinetteref17_Put.f k a0 a1 0 0 a2 false).bind fun bt251 => (some (bt251.1.length : Int))
theorem serinetteref24_Head.mono : ∀ a0 a1 a2 k, LeO (serinetteref24_Head.f k a0 a1 a2) (serinetteref24_Head.f (k + 1) a0 a1 a2) := by
  intro a0 a1 a2 k
  unfold serinetteref24_Head.f
  repeat' first
      | (with_reducible exact serinetteref17_Put.mono _ _ _ _ _ _ _)
      | (with_reducible exact LeO.refl _)
      | (with_reducible exact LeO.none _)
      | (with_reducible refine LeO.ite ?_ ?_)
      | (with_reducible refine LeO.bind ?_ (fun _ => ?_))
      | exact serinetteref17_Put.mono _ _ _ _ _ _ _
      | exact LeO.none _
      | refine LeO.ite ?_ ?_
      | refine LeO.bind ?_ (fun _ => ?_)
set_option maxHeartbeats 8000000 in
set_option maxRecDepth 100000 in
theorem serinetteref24_Head.calls (k : Nat) (a0 : Int) (a1 : Int) (a2 : Int) (r : Int) (w : World) (h : serinetteref24_Head.f k a0 a1 a2 = some r) :
    Calls Try.prog 28 #[.int .i64 a0, .int .i64 a1, .int .i64 a2] w fun e w' => e = .returned (.int .i64 r) ∧ Below w.heap.size w w' := by
  have hu78 := Try.underlying78
  have HB := Aside0.mk (Below.refl w.heap.size w)
  have H : ((serinetteref17_Put.f k a0 a1 0 0 a2 false).bind fun bt251 => (some (bt251.1.length : Int))) = some r := h
  clear h
  replace H := Option.bind_eq_some_iff.mp H
  obtain ⟨⟨t251, t254⟩, A40, H⟩ := H
  replace H : (some (t251.length : Int)) = some r := H
  have A4 := Aside0.mk A40
  clear A40
  obtain rfl := Option.some.inj H
  go_enter Try.func28, Try.ntmps28
  go_wp2_with (first | ((with_reducible refine gate_callee (f := 51) rfl ?_); refine goesL_ (some 14) rfl rfl Try.func51 (by kernel_rfl) rfl #[.agg #[.int .i64 a0, .int .i64 a1, .int .i64 0, .int .i64 0, .int .i64 a2, .bool false]] rfl (by (try simp only [List.map_toArray, List.map_cons, List.map_nil]); first | done | rfl | (simp only [List.length_drop, List.length_take]; rfl)) ?_; (with_reducible refine (serinetteref17_Put.calls k a0 a1 0 0 a2 false t251 t254 _ A4.out).mono ?_); rintro e w5 ⟨v252, rfl, ho0, hb⟩; refine ⟨_, rfl, ?_⟩; have n0_ := Aside0.mk (Kd.R_lower ho0 (below_size (by repeat (first | (with_reducible first | exact HB.out | apply below_alloc | apply pw_below_drewN | apply below_drew1) | exact HB.out)))); have n1_ := Aside0.mk (below_step (by repeat (first | (with_reducible first | exact HB.out | apply below_alloc | apply pw_below_drewN | apply below_drew1) | exact HB.out)) hb); clear HB; have HO253 := n0_; have HB := n1_; clear n0_ n1_; (try clear hb); (try clear hb2); (try clear hk); (try clear hi); (try clear ho0); obtain ⟨Ao6, co6, eo6⟩ := Kd.R_slice HO253.out; subst eo6))
  go_ret
  exact ⟨by first | rfl | (simp [errW_none, errW_some] <;> rfl) | (simp [*, errW_none, errW_some] <;> rfl), by repeat (first | (with_reducible first | exact HB.out | apply below_alloc | apply pw_below_drewN | apply below_drew1) | exact HB.out)⟩

/-! ### serinetteref24_Frame: function 30 -/
def serinetteref24_Frame.l0 : Nat → Int → Int → Int → Int → Option (Int)
  | 0, _, _, _, _ => none
  | k + 1, x0, x2, x4, x11 => if (Int.tmod x11 8) = 0 then ((serinetteref24_Head.f k x0 x2 x4).bind fun t255 => (some (wrap64 ((wrap64 (t255 + (wrap64 (Int.tdiv x11 8)))) + 2)))) else (serinetteref24_Frame.l0 k x0 x2 x4 (wrap64 (x11 + 1)))
def serinetteref24_Frame.f (k : Nat) (a0 : Int) (a1 : Int) (a2 : Int) (a3 : Int) (a4 : Int) : Option (Int) := serinetteref24_Frame.l0 k a0 a2 a4 (wrap64 (a1 * (wrap64 (8 + (wrap64 (a3 * a0))))))
theorem serinetteref24_Frame.mono_l : ∀ k, (∀ y0 y1 y2 y3, LeO (serinetteref24_Frame.l0 k y0 y1 y2 y3) (serinetteref24_Frame.l0 (k + 1) y0 y1 y2 y3))
  | 0 => fun _ _ _ _ r h => by simp [serinetteref24_Frame.l0] at h
  | k + 1 => by
    have ih0 := serinetteref24_Frame.mono_l k
    · intro y0 y1 y2 y3
      unfold serinetteref24_Frame.l0
      repeat' first
      | (with_reducible exact ih0 _ _ _ _)
      | (with_reducible exact serinetteref24_Head.mono _ _ _ _)
      | (with_reducible exact LeO.refl _)
      | (with_reducible exact LeO.none _)
      | (with_reducible refine LeO.ite ?_ ?_)
      | (with_reducible refine LeO.bind ?_ (fun _ => ?_))
      | exact ih0 _ _ _ _
      | exact serinetteref24_Head.mono _ _ _ _
      | exact LeO.none _
      | refine LeO.ite ?_ ?_
      | refine LeO.bind ?_ (fun _ => ?_)
theorem serinetteref24_Frame.mono : ∀ a0 a1 a2 a3 a4 k, LeO (serinetteref24_Frame.f k a0 a1 a2 a3 a4) (serinetteref24_Frame.f (k + 1) a0 a1 a2 a3 a4) := by
  intro a0 a1 a2 a3 a4 k
  have ih0 := serinetteref24_Frame.mono_l k
  unfold serinetteref24_Frame.f
  repeat' first
      | (with_reducible exact ih0 _ _ _ _)
      | (with_reducible exact serinetteref24_Head.mono _ _ _ _)
      | (with_reducible exact LeO.refl _)
      | (with_reducible exact LeO.none _)
      | (with_reducible refine LeO.ite ?_ ?_)
      | (with_reducible refine LeO.bind ?_ (fun _ => ?_))
      | exact ih0 _ _ _ _
      | exact serinetteref24_Head.mono _ _ _ _
      | exact LeO.none _
      | refine LeO.ite ?_ ?_
      | refine LeO.bind ?_ (fun _ => ?_)
set_option maxHeartbeats 8000000 in
set_option maxRecDepth 100000 in
theorem serinetteref24_Frame.calls (k : Nat) (a0 : Int) (a1 : Int) (a2 : Int) (a3 : Int) (a4 : Int) (r : Int) (w : World) (h : serinetteref24_Frame.f k a0 a1 a2 a3 a4 = some r) :
    Calls Try.prog 30 #[.int .i64 a0, .int .i64 a1, .int .i64 a2, .int .i64 a3, .int .i64 a4] w fun e w' => e = .returned (.int .i64 r) ∧ Below w.heap.size w w' := by
  have HB := Aside0.mk (Below.refl w.heap.size w)
  have H : (serinetteref24_Frame.l0 k a0 a2 a4 (wrap64 (a1 * (wrap64 (8 + (wrap64 (a3 * a0))))))) = some r := h
  clear h
  have H' := Aside0.mk H
  clear H
  go_enter Try.func30, Try.ntmps30
  go_wp2
  go_loopg [11] k (fun kq v11 w' => ∃ (x11_1 : Int), v11 = .int .i64 x11_1 ∧ Aside0 (serinetteref24_Frame.l0 kq a0 a2 a4 x11_1 = some r) ∧ Aside0 (kq ≤ k) ∧ Aside0 (Below w.heap.size w w'))
  case atStart => exact ⟨(wrap64 (a1 * (wrap64 (8 + (wrap64 (a3 * a0)))))), (by first | rfl | (simp; done) | (simp [*]; done)), H', ⟨Nat.le_refl _⟩, ⟨by repeat (first | (with_reducible first | exact HB.out | apply below_alloc | apply pw_below_drewN | apply below_drew1) | exact HB.out)⟩⟩
  case round =>
    clear H'
    try clear p2
    try clear c3
    obtain ⟨x11_1, rfl, HA, HK1, HB⟩ := hrel
    cases gk with
    | zero => exact absurd HA.out (by simp [serinetteref24_Frame.l0])
    | succ k1 =>
      have H := HA.out
      clear HA
      simp only [serinetteref24_Frame.l0] at H
      by_cases c6 : (Int.tmod x11_1 8) = 0
      · rw [if_pos c6] at H
        have c6b0 : ((Int.tmod x11_1 8) == 0) = true := beq_iff_eq.mpr c6
        have c6b1 : ((Int.tmod x11_1 8) != 0) = false := bne_eq_false_iff_eq.mpr c6
        clear c6
        replace H := Option.bind_eq_some_iff.mp H
        obtain ⟨t255, A70, H⟩ := H
        replace H : (some (wrap64 ((wrap64 (t255 + (wrap64 (Int.tdiv x11_1 8)))) + 2))) = some r := H
        have A7 := Aside0.mk A70
        clear A70
        obtain rfl := Option.some.inj H
        go_wp2_with (first | ((with_reducible refine gate_callee (f := 28) rfl ?_); refine goesL_ (some 26) rfl rfl Try.func28 (by kernel_rfl) rfl #[.int .i64 a0, .int .i64 a2, .int .i64 a4] rfl (by (try simp only [List.map_toArray, List.map_cons, List.map_nil]); first | done | rfl | (simp only [List.length_drop, List.length_take]; rfl)) ?_; (with_reducible refine (serinetteref24_Head.calls k1 a0 a2 a4 t255 _ A7.out).mono ?_); rintro e w8 ⟨rfl, hb⟩; refine ⟨_, rfl, ?_⟩; have n0_ := Aside0.mk (below_step (by repeat (first | (with_reducible first | exact HB.out | apply below_alloc | apply pw_below_drewN | apply below_drew1) | exact HB.out)) hb); clear HB; have HB := n0_; clear n0_; (try clear hb); (try clear hb2); (try clear hk); (try clear hi)))
        go_ret
        exact ⟨by first | rfl | (simp [errW_none, errW_some] <;> rfl) | (simp [*, errW_none, errW_some] <;> rfl), by repeat (first | (with_reducible first | exact HB.out | apply below_alloc | apply pw_below_drewN | apply below_drew1) | exact HB.out)⟩
      · rw [if_neg c6] at H
        have c6b0 : ((Int.tmod x11_1 8) == 0) = false := beq_eq_false_iff_ne.mpr c6
        have c6b1 : ((Int.tmod x11_1 8) != 0) = true := bne_iff_ne.mpr c6
        have H' := Aside0.mk H
        clear H
        go_wp2
        go_roundg k1
        case measure => have := HK1.out; omega
        case rel => exact ⟨(wrap64 (x11_1 + 1)), (by first | rfl | (simp; done) | (simp [*]; done)), H', ⟨by have := HK1.out; omega⟩, ⟨by repeat (first | (with_reducible first | exact HB.out | apply below_alloc | apply pw_below_drewN | apply below_drew1) | exact HB.out)⟩⟩

/-! ### serinetteref24_Numbers: function 32 -/
def serinetteref24_Numbers.l0 : Nat → Int → Int → Int → Option (Int)
  | 0, _, _, _ => none
  | k + 1, x0, x3, x4 => if x4 < x0 then ((serinetteref03_Size.f k x4).bind fun t256 => (serinetteref24_Numbers.l0 k x0 (wrap64 (x3 + t256)) (wrap64 (x4 + 1)))) else (some x3)
def serinetteref24_Numbers.f (k : Nat) (a0 : Int) : Option (Int) := serinetteref24_Numbers.l0 k a0 0 0
theorem serinetteref24_Numbers.mono_l : ∀ k, (∀ y0 y1 y2, LeO (serinetteref24_Numbers.l0 k y0 y1 y2) (serinetteref24_Numbers.l0 (k + 1) y0 y1 y2))
  | 0 => fun _ _ _ r h => by simp [serinetteref24_Numbers.l0] at h
  | k + 1 => by
    have ih0 := serinetteref24_Numbers.mono_l k
    · intro y0 y1 y2
      unfold serinetteref24_Numbers.l0
      repeat' first
      | (with_reducible exact ih0 _ _ _)
      | (with_reducible exact serinetteref03_Size.mono _ _)
      | (with_reducible exact LeO.refl _)
      | (with_reducible exact LeO.none _)
      | (with_reducible refine LeO.ite ?_ ?_)
      | (with_reducible refine LeO.bind ?_ (fun _ => ?_))
      | exact ih0 _ _ _
      | exact serinetteref03_Size.mono _ _
      | exact LeO.none _
      | refine LeO.ite ?_ ?_
      | refine LeO.bind ?_ (fun _ => ?_)
theorem serinetteref24_Numbers.mono : ∀ a0 k, LeO (serinetteref24_Numbers.f k a0) (serinetteref24_Numbers.f (k + 1) a0) := by
  intro a0 k
  have ih0 := serinetteref24_Numbers.mono_l k
  unfold serinetteref24_Numbers.f
  repeat' first
      | (with_reducible exact ih0 _ _ _)
      | (with_reducible exact serinetteref03_Size.mono _ _)
      | (with_reducible exact LeO.refl _)
      | (with_reducible exact LeO.none _)
      | (with_reducible refine LeO.ite ?_ ?_)
      | (with_reducible refine LeO.bind ?_ (fun _ => ?_))
      | exact ih0 _ _ _
      | exact serinetteref03_Size.mono _ _
      | exact LeO.none _
      | refine LeO.ite ?_ ?_
      | refine LeO.bind ?_ (fun _ => ?_)
set_option maxHeartbeats 8000000 in
set_option maxRecDepth 100000 in
theorem serinetteref24_Numbers.calls (k : Nat) (a0 : Int) (r : Int) (w : World) (h : serinetteref24_Numbers.f k a0 = some r) :
    Calls Try.prog 32 #[.int .i64 a0] w fun e w' => e = .returned (.int .i64 r) ∧ Below w.heap.size w w' := by
  have HB := Aside0.mk (Below.refl w.heap.size w)
  have H : (serinetteref24_Numbers.l0 k a0 0 0) = some r := h
  clear h
  have H' := Aside0.mk H
  clear H
  go_enter Try.func32, Try.ntmps32
  go_wp2
  go_loopg [3, 4] k (fun kq v3 v4 w' => ∃ (x3_1 : Int) (x4_1 : Int), v3 = .int .i64 x3_1 ∧ v4 = .int .i64 x4_1 ∧ Aside0 (serinetteref24_Numbers.l0 kq a0 x3_1 x4_1 = some r) ∧ Aside0 (kq ≤ k) ∧ Aside0 (Below w.heap.size w w'))
  case atStart => exact ⟨(0), (0), (by first | rfl | (simp; done) | (simp [*]; done)), (by first | rfl | (simp; done) | (simp [*]; done)), H', ⟨Nat.le_refl _⟩, ⟨by repeat (first | (with_reducible first | exact HB.out | apply below_alloc | apply pw_below_drewN | apply below_drew1) | exact HB.out)⟩⟩
  case round =>
    clear H'
    obtain ⟨x3_1, x4_1, rfl, rfl, HA, HK1, HB⟩ := hrel
    cases gk with
    | zero => exact absurd HA.out (by simp [serinetteref24_Numbers.l0])
    | succ k1 =>
      have H := HA.out
      clear HA
      simp only [serinetteref24_Numbers.l0] at H
      by_cases c2 : x4_1 < a0
      · rw [if_pos c2] at H
        have c2b0 : decide (x4_1 < a0) = true := decide_eq_true c2
        clear c2
        replace H := Option.bind_eq_some_iff.mp H
        obtain ⟨t256, A30, H⟩ := H
        replace H : (serinetteref24_Numbers.l0 k1 a0 (wrap64 (x3_1 + t256)) (wrap64 (x4_1 + 1))) = some r := H
        have A3 := Aside0.mk A30
        clear A30
        have H' := Aside0.mk H
        clear H
        go_wp2_with (first | ((with_reducible refine gate_callee (f := 33) rfl ?_); refine goesL_ (some 12) rfl rfl Try.func33 (by kernel_rfl) rfl #[.int .i64 x4_1] rfl (by (try simp only [List.map_toArray, List.map_cons, List.map_nil]); first | done | rfl | (simp only [List.length_drop, List.length_take]; rfl)) ?_; (with_reducible refine (serinetteref03_Size.calls k1 x4_1 t256 _ A3.out).mono ?_); rintro e w4 ⟨rfl, hb⟩; refine ⟨_, rfl, ?_⟩; have n0_ := Aside0.mk (below_step (by repeat (first | (with_reducible first | exact HB.out | apply below_alloc | apply pw_below_drewN | apply below_drew1) | exact HB.out)) hb); clear HB; have HB := n0_; clear n0_; (try clear hb); (try clear hb2); (try clear hk); (try clear hi)))
        go_roundg k1
        case measure => have := HK1.out; omega
        case rel => exact ⟨(wrap64 (x3_1 + t256)), (wrap64 (x4_1 + 1)), (by first | rfl | (simp; done) | (simp [*]; done)), (by first | rfl | (simp; done) | (simp [*]; done)), H', ⟨by have := HK1.out; omega⟩, ⟨by repeat (first | (with_reducible first | exact HB.out | apply below_alloc | apply pw_below_drewN | apply below_drew1) | exact HB.out)⟩⟩
      · rw [if_neg c2] at H
        have c2b0 : decide (x4_1 < a0) = false := decide_eq_false c2
        clear c2
        obtain rfl := Option.some.inj H
        go_wp2
        go_ret
        exact ⟨by first | rfl | (simp [errW_none, errW_some] <;> rfl) | (simp [*, errW_none, errW_some] <;> rfl), by repeat (first | (with_reducible first | exact HB.out | apply below_alloc | apply pw_below_drewN | apply below_drew1) | exact HB.out)⟩

/-! ### serinettelaw24_BoundTells: function 7 -/
def serinettelaw24_BoundTells.f (k : Nat) (a0 : Int) (a1 : Int) (a2 : Int) (a3 : Int) (a4 : Int) (a5 : Int) : Option (Bool) := (serinettelaw24_awake.f k).bind fun t257 => (if t257 = true then ((bound_Head.f k (wrap64 (1 + (Int.tmod (wrap64 (a0)) 65535))) (wrap64 (1 + (wrap64 (Int.tmod a2 1048575)))) (wrap64 (Int.tmod a4 2147483648))).bind fun t258 => ((serinetteref24_Head.f k (wrap64 (1 + (Int.tmod (wrap64 (a0)) 65535))) (wrap64 (1 + (wrap64 (Int.tmod a2 1048575)))) (wrap64 (Int.tmod a4 2147483648))).bind fun t259 => (if t258 = t259 then ((bound_Frame.f k (wrap64 (1 + (Int.tmod (wrap64 (a0)) 65535))) (wrap64 (1 + (wrap64 (Int.tmod a1 8)))) (wrap64 (1 + (wrap64 (Int.tmod a2 1048575)))) (wrap64 (4 + (wrap64 (Int.tmod a3 29)))) (wrap64 (Int.tmod a4 2147483648))).bind fun t260 => ((serinetteref24_Frame.f k (wrap64 (1 + (Int.tmod (wrap64 (a0)) 65535))) (wrap64 (1 + (wrap64 (Int.tmod a1 8)))) (wrap64 (1 + (wrap64 (Int.tmod a2 1048575)))) (wrap64 (4 + (wrap64 (Int.tmod a3 29)))) (wrap64 (Int.tmod a4 2147483648))).bind fun t261 => (if t260 = t261 then ((bound_Numbers.f k (Int.tmod (wrap64 (a5)) 3001)).bind fun t262 => ((serinetteref24_Numbers.f k (Int.tmod (wrap64 (a5)) 3001)).bind fun t263 => (some (t262 == t263)))) else (some false)))) else (some false)))) else (some false))
theorem serinettelaw24_BoundTells.mono : ∀ a0 a1 a2 a3 a4 a5 k, LeO (serinettelaw24_BoundTells.f k a0 a1 a2 a3 a4 a5) (serinettelaw24_BoundTells.f (k + 1) a0 a1 a2 a3 a4 a5) := by
  intro a0 a1 a2 a3 a4 a5 k
  unfold serinettelaw24_BoundTells.f
  repeat' first
      | (with_reducible exact bound_Frame.mono _ _ _ _ _ _)
      | (with_reducible exact bound_Head.mono _ _ _ _)
      | (with_reducible exact bound_Numbers.mono _ _)
      | (with_reducible exact serinettelaw24_awake.mono _)
      | (with_reducible exact serinetteref24_Frame.mono _ _ _ _ _ _)
      | (with_reducible exact serinetteref24_Head.mono _ _ _ _)
      | (with_reducible exact serinetteref24_Numbers.mono _ _)
      | (with_reducible exact LeO.refl _)
      | (with_reducible exact LeO.none _)
      | (with_reducible refine LeO.ite ?_ ?_)
      | (with_reducible refine LeO.bind ?_ (fun _ => ?_))
      | exact bound_Frame.mono _ _ _ _ _ _
      | exact bound_Head.mono _ _ _ _
      | exact bound_Numbers.mono _ _
      | exact serinettelaw24_awake.mono _
      | exact serinetteref24_Frame.mono _ _ _ _ _ _
      | exact serinetteref24_Head.mono _ _ _ _
      | exact serinetteref24_Numbers.mono _ _
      | exact LeO.none _
      | refine LeO.ite ?_ ?_
      | refine LeO.bind ?_ (fun _ => ?_)
set_option maxHeartbeats 8000000 in
set_option maxRecDepth 100000 in
theorem serinettelaw24_BoundTells.calls (k : Nat) (a0 : Int) (a1 : Int) (a2 : Int) (a3 : Int) (a4 : Int) (a5 : Int) (r : Bool) (w : World) (h : serinettelaw24_BoundTells.f k a0 a1 a2 a3 a4 a5 = some r) :
    Calls Try.prog 7 #[.int .u16 a0, .int .u8 a1, .int .u32 a2, .int .u8 a3, .int .u32 a4, .int .u16 a5] w fun e w' => e = .returned (.bool r) ∧ Below w.heap.size w w' := by
  have HB := Aside0.mk (Below.refl w.heap.size w)
  have H : ((serinettelaw24_awake.f k).bind fun t257 => (if t257 = true then ((bound_Head.f k (wrap64 (1 + (Int.tmod (wrap64 (a0)) 65535))) (wrap64 (1 + (wrap64 (Int.tmod a2 1048575)))) (wrap64 (Int.tmod a4 2147483648))).bind fun t258 => ((serinetteref24_Head.f k (wrap64 (1 + (Int.tmod (wrap64 (a0)) 65535))) (wrap64 (1 + (wrap64 (Int.tmod a2 1048575)))) (wrap64 (Int.tmod a4 2147483648))).bind fun t259 => (if t258 = t259 then ((bound_Frame.f k (wrap64 (1 + (Int.tmod (wrap64 (a0)) 65535))) (wrap64 (1 + (wrap64 (Int.tmod a1 8)))) (wrap64 (1 + (wrap64 (Int.tmod a2 1048575)))) (wrap64 (4 + (wrap64 (Int.tmod a3 29)))) (wrap64 (Int.tmod a4 2147483648))).bind fun t260 => ((serinetteref24_Frame.f k (wrap64 (1 + (Int.tmod (wrap64 (a0)) 65535))) (wrap64 (1 + (wrap64 (Int.tmod a1 8)))) (wrap64 (1 + (wrap64 (Int.tmod a2 1048575)))) (wrap64 (4 + (wrap64 (Int.tmod a3 29)))) (wrap64 (Int.tmod a4 2147483648))).bind fun t261 => (if t260 = t261 then ((bound_Numbers.f k (Int.tmod (wrap64 (a5)) 3001)).bind fun t262 => ((serinetteref24_Numbers.f k (Int.tmod (wrap64 (a5)) 3001)).bind fun t263 => (some (t262 == t263)))) else (some false)))) else (some false)))) else (some false))) = some r := h
  clear h
  replace H := Option.bind_eq_some_iff.mp H
  obtain ⟨t257, A70, H⟩ := H
  replace H : (if t257 = true then ((bound_Head.f k (wrap64 (1 + (Int.tmod (wrap64 (a0)) 65535))) (wrap64 (1 + (wrap64 (Int.tmod a2 1048575)))) (wrap64 (Int.tmod a4 2147483648))).bind fun t258 => ((serinetteref24_Head.f k (wrap64 (1 + (Int.tmod (wrap64 (a0)) 65535))) (wrap64 (1 + (wrap64 (Int.tmod a2 1048575)))) (wrap64 (Int.tmod a4 2147483648))).bind fun t259 => (if t258 = t259 then ((bound_Frame.f k (wrap64 (1 + (Int.tmod (wrap64 (a0)) 65535))) (wrap64 (1 + (wrap64 (Int.tmod a1 8)))) (wrap64 (1 + (wrap64 (Int.tmod a2 1048575)))) (wrap64 (4 + (wrap64 (Int.tmod a3 29)))) (wrap64 (Int.tmod a4 2147483648))).bind fun t260 => ((serinetteref24_Frame.f k (wrap64 (1 + (Int.tmod (wrap64 (a0)) 65535))) (wrap64 (1 + (wrap64 (Int.tmod a1 8)))) (wrap64 (1 + (wrap64 (Int.tmod a2 1048575)))) (wrap64 (4 + (wrap64 (Int.tmod a3 29)))) (wrap64 (Int.tmod a4 2147483648))).bind fun t261 => (if t260 = t261 then ((bound_Numbers.f k (Int.tmod (wrap64 (a5)) 3001)).bind fun t262 => ((serinetteref24_Numbers.f k (Int.tmod (wrap64 (a5)) 3001)).bind fun t263 => (some (t262 == t263)))) else (some false)))) else (some false)))) else (some false)) = some r := H
  have A7 := Aside0.mk A70
  clear A70
  by_cases c8 : t257 = true
  · subst c8
    have H1 : ((bound_Head.f k (wrap64 (1 + (Int.tmod (wrap64 (a0)) 65535))) (wrap64 (1 + (wrap64 (Int.tmod a2 1048575)))) (wrap64 (Int.tmod a4 2147483648))).bind fun t258 => ((serinetteref24_Head.f k (wrap64 (1 + (Int.tmod (wrap64 (a0)) 65535))) (wrap64 (1 + (wrap64 (Int.tmod a2 1048575)))) (wrap64 (Int.tmod a4 2147483648))).bind fun t259 => (if t258 = t259 then ((bound_Frame.f k (wrap64 (1 + (Int.tmod (wrap64 (a0)) 65535))) (wrap64 (1 + (wrap64 (Int.tmod a1 8)))) (wrap64 (1 + (wrap64 (Int.tmod a2 1048575)))) (wrap64 (4 + (wrap64 (Int.tmod a3 29)))) (wrap64 (Int.tmod a4 2147483648))).bind fun t260 => ((serinetteref24_Frame.f k (wrap64 (1 + (Int.tmod (wrap64 (a0)) 65535))) (wrap64 (1 + (wrap64 (Int.tmod a1 8)))) (wrap64 (1 + (wrap64 (Int.tmod a2 1048575)))) (wrap64 (4 + (wrap64 (Int.tmod a3 29)))) (wrap64 (Int.tmod a4 2147483648))).bind fun t261 => (if t260 = t261 then ((bound_Numbers.f k (Int.tmod (wrap64 (a5)) 3001)).bind fun t262 => ((serinetteref24_Numbers.f k (Int.tmod (wrap64 (a5)) 3001)).bind fun t263 => (some (t262 == t263)))) else (some false)))) else (some false)))) = some r := by rw [if_pos rfl] at H; exact H
    clear H
    have H := H1
    clear H1
    replace H := Option.bind_eq_some_iff.mp H
    obtain ⟨t258, A90, H⟩ := H
    replace H : ((serinetteref24_Head.f k (wrap64 (1 + (Int.tmod (wrap64 (a0)) 65535))) (wrap64 (1 + (wrap64 (Int.tmod a2 1048575)))) (wrap64 (Int.tmod a4 2147483648))).bind fun t259 => (if t258 = t259 then ((bound_Frame.f k (wrap64 (1 + (Int.tmod (wrap64 (a0)) 65535))) (wrap64 (1 + (wrap64 (Int.tmod a1 8)))) (wrap64 (1 + (wrap64 (Int.tmod a2 1048575)))) (wrap64 (4 + (wrap64 (Int.tmod a3 29)))) (wrap64 (Int.tmod a4 2147483648))).bind fun t260 => ((serinetteref24_Frame.f k (wrap64 (1 + (Int.tmod (wrap64 (a0)) 65535))) (wrap64 (1 + (wrap64 (Int.tmod a1 8)))) (wrap64 (1 + (wrap64 (Int.tmod a2 1048575)))) (wrap64 (4 + (wrap64 (Int.tmod a3 29)))) (wrap64 (Int.tmod a4 2147483648))).bind fun t261 => (if t260 = t261 then ((bound_Numbers.f k (Int.tmod (wrap64 (a5)) 3001)).bind fun t262 => ((serinetteref24_Numbers.f k (Int.tmod (wrap64 (a5)) 3001)).bind fun t263 => (some (t262 == t263)))) else (some false)))) else (some false))) = some r := H
    have A9 := Aside0.mk A90
    clear A90
    replace H := Option.bind_eq_some_iff.mp H
    obtain ⟨t259, A100, H⟩ := H
    replace H : (if t258 = t259 then ((bound_Frame.f k (wrap64 (1 + (Int.tmod (wrap64 (a0)) 65535))) (wrap64 (1 + (wrap64 (Int.tmod a1 8)))) (wrap64 (1 + (wrap64 (Int.tmod a2 1048575)))) (wrap64 (4 + (wrap64 (Int.tmod a3 29)))) (wrap64 (Int.tmod a4 2147483648))).bind fun t260 => ((serinetteref24_Frame.f k (wrap64 (1 + (Int.tmod (wrap64 (a0)) 65535))) (wrap64 (1 + (wrap64 (Int.tmod a1 8)))) (wrap64 (1 + (wrap64 (Int.tmod a2 1048575)))) (wrap64 (4 + (wrap64 (Int.tmod a3 29)))) (wrap64 (Int.tmod a4 2147483648))).bind fun t261 => (if t260 = t261 then ((bound_Numbers.f k (Int.tmod (wrap64 (a5)) 3001)).bind fun t262 => ((serinetteref24_Numbers.f k (Int.tmod (wrap64 (a5)) 3001)).bind fun t263 => (some (t262 == t263)))) else (some false)))) else (some false)) = some r := H
    have A10 := Aside0.mk A100
    clear A100
    by_cases c11 : t258 = t259
    · rw [if_pos c11] at H
      have c11b0 : (t258 == t259) = true := beq_iff_eq.mpr c11
      have c11b1 : (t258 != t259) = false := bne_eq_false_iff_eq.mpr c11
      clear c11
      replace H := Option.bind_eq_some_iff.mp H
      obtain ⟨t260, A120, H⟩ := H
      replace H : ((serinetteref24_Frame.f k (wrap64 (1 + (Int.tmod (wrap64 (a0)) 65535))) (wrap64 (1 + (wrap64 (Int.tmod a1 8)))) (wrap64 (1 + (wrap64 (Int.tmod a2 1048575)))) (wrap64 (4 + (wrap64 (Int.tmod a3 29)))) (wrap64 (Int.tmod a4 2147483648))).bind fun t261 => (if t260 = t261 then ((bound_Numbers.f k (Int.tmod (wrap64 (a5)) 3001)).bind fun t262 => ((serinetteref24_Numbers.f k (Int.tmod (wrap64 (a5)) 3001)).bind fun t263 => (some (t262 == t263)))) else (some false))) = some r := H
      have A12 := Aside0.mk A120
      clear A120
      replace H := Option.bind_eq_some_iff.mp H
      obtain ⟨t261, A130, H⟩ := H
      replace H : (if t260 = t261 then ((bound_Numbers.f k (Int.tmod (wrap64 (a5)) 3001)).bind fun t262 => ((serinetteref24_Numbers.f k (Int.tmod (wrap64 (a5)) 3001)).bind fun t263 => (some (t262 == t263)))) else (some false)) = some r := H
      have A13 := Aside0.mk A130
      clear A130
      by_cases c14 : t260 = t261
      · rw [if_pos c14] at H
        have c14b0 : (t260 == t261) = true := beq_iff_eq.mpr c14
        have c14b1 : (t260 != t261) = false := bne_eq_false_iff_eq.mpr c14
        clear c14
        replace H := Option.bind_eq_some_iff.mp H
        obtain ⟨t262, A150, H⟩ := H
        replace H : ((serinetteref24_Numbers.f k (Int.tmod (wrap64 (a5)) 3001)).bind fun t263 => (some (t262 == t263))) = some r := H
        have A15 := Aside0.mk A150
        clear A150
        replace H := Option.bind_eq_some_iff.mp H
        obtain ⟨t263, A160, H⟩ := H
        replace H : (some (t262 == t263)) = some r := H
        have A16 := Aside0.mk A160
        clear A160
        obtain rfl := Option.some.inj H
        go_enter Try.func7, Try.ntmps7
        go_wp2_with (first | ((with_reducible refine gate_callee (f := 26) rfl ?_); refine goesL_ (some 20) rfl rfl Try.func26 (by kernel_rfl) rfl #[] rfl (by (try simp only [List.map_toArray, List.map_cons, List.map_nil]); first | done | rfl | (simp only [List.length_drop, List.length_take]; rfl)) ?_; (with_reducible refine (serinettelaw24_awake.calls k  true _ A7.out).mono ?_); rintro e w17 ⟨rfl, hb⟩; refine ⟨_, rfl, ?_⟩; have n0_ := Aside0.mk (below_step (by repeat (first | (with_reducible first | exact HB.out | apply below_alloc | apply pw_below_drewN | apply below_drew1) | exact HB.out)) hb); clear HB; have HB := n0_; clear n0_; (try clear hb); (try clear hb2); (try clear hk); (try clear hi)) | (go_at_call 27; (with_reducible refine (bound_Head.calls k (wrap64 (1 + (Int.tmod (wrap64 (a0)) 65535))) (wrap64 (1 + (wrap64 (Int.tmod a2 1048575)))) (wrap64 (Int.tmod a4 2147483648)) t258 _ A9.out).mono ?_); rintro e w18 ⟨rfl, hb⟩; have n0_ := Aside0.mk (below_step (by repeat (first | (with_reducible first | exact HB.out | apply below_alloc | apply pw_below_drewN | apply below_drew1) | exact HB.out)) hb); clear HB; have HB := n0_; clear n0_; (try clear hb); (try clear hb2); (try clear hk); (try clear hi)) | (go_at_call 28; (with_reducible refine (serinetteref24_Head.calls k (wrap64 (1 + (Int.tmod (wrap64 (a0)) 65535))) (wrap64 (1 + (wrap64 (Int.tmod a2 1048575)))) (wrap64 (Int.tmod a4 2147483648)) t259 _ A10.out).mono ?_); rintro e w19 ⟨rfl, hb⟩; have n0_ := Aside0.mk (below_step (by repeat (first | (with_reducible first | exact HB.out | apply below_alloc | apply pw_below_drewN | apply below_drew1) | exact HB.out)) hb); clear HB; have HB := n0_; clear n0_; (try clear hb); (try clear hb2); (try clear hk); (try clear hi)) | (go_at_call 29; (with_reducible refine (bound_Frame.calls k (wrap64 (1 + (Int.tmod (wrap64 (a0)) 65535))) (wrap64 (1 + (wrap64 (Int.tmod a1 8)))) (wrap64 (1 + (wrap64 (Int.tmod a2 1048575)))) (wrap64 (4 + (wrap64 (Int.tmod a3 29)))) (wrap64 (Int.tmod a4 2147483648)) t260 _ A12.out).mono ?_); rintro e w20 ⟨rfl, hb⟩; have n0_ := Aside0.mk (below_step (by repeat (first | (with_reducible first | exact HB.out | apply below_alloc | apply pw_below_drewN | apply below_drew1) | exact HB.out)) hb); clear HB; have HB := n0_; clear n0_; (try clear hb); (try clear hb2); (try clear hk); (try clear hi)) | (go_at_call 30; (with_reducible refine (serinetteref24_Frame.calls k (wrap64 (1 + (Int.tmod (wrap64 (a0)) 65535))) (wrap64 (1 + (wrap64 (Int.tmod a1 8)))) (wrap64 (1 + (wrap64 (Int.tmod a2 1048575)))) (wrap64 (4 + (wrap64 (Int.tmod a3 29)))) (wrap64 (Int.tmod a4 2147483648)) t261 _ A13.out).mono ?_); rintro e w21 ⟨rfl, hb⟩; have n0_ := Aside0.mk (below_step (by repeat (first | (with_reducible first | exact HB.out | apply below_alloc | apply pw_below_drewN | apply below_drew1) | exact HB.out)) hb); clear HB; have HB := n0_; clear n0_; (try clear hb); (try clear hb2); (try clear hk); (try clear hi)) | (go_at_call 31; (with_reducible refine (bound_Numbers.calls k (Int.tmod (wrap64 (a5)) 3001) t262 _ A15.out).mono ?_); rintro e w22 ⟨rfl, hb⟩; have n0_ := Aside0.mk (below_step (by repeat (first | (with_reducible first | exact HB.out | apply below_alloc | apply pw_below_drewN | apply below_drew1) | exact HB.out)) hb); clear HB; have HB := n0_; clear n0_; (try clear hb); (try clear hb2); (try clear hk); (try clear hi)) | (go_at_call 32; (with_reducible refine (serinetteref24_Numbers.calls k (Int.tmod (wrap64 (a5)) 3001) t263 _ A16.out).mono ?_); rintro e w23 ⟨rfl, hb⟩; have n0_ := Aside0.mk (below_step (by repeat (first | (with_reducible first | exact HB.out | apply below_alloc | apply pw_below_drewN | apply below_drew1) | exact HB.out)) hb); clear HB; have HB := n0_; clear n0_; (try clear hb); (try clear hb2); (try clear hk); (try clear hi)))
        go_ret
        exact ⟨by first | rfl | (simp [errW_none, errW_some] <;> rfl) | (simp [*, errW_none, errW_some] <;> rfl), by repeat (first | (with_reducible first | exact HB.out | apply below_alloc | apply pw_below_drewN | apply below_drew1) | exact HB.out)⟩
      · rw [if_neg c14] at H
        have c14b0 : (t260 == t261) = false := beq_eq_false_iff_ne.mpr c14
        have c14b1 : (t260 != t261) = true := bne_iff_ne.mpr c14
        obtain rfl := Option.some.inj H
        go_enter Try.func7, Try.ntmps7
        go_wp2_with (first | ((with_reducible refine gate_callee (f := 26) rfl ?_); refine goesL_ (some 20) rfl rfl Try.func26 (by kernel_rfl) rfl #[] rfl (by (try simp only [List.map_toArray, List.map_cons, List.map_nil]); first | done | rfl | (simp only [List.length_drop, List.length_take]; rfl)) ?_; (with_reducible refine (serinettelaw24_awake.calls k  true _ A7.out).mono ?_); rintro e w24 ⟨rfl, hb⟩; refine ⟨_, rfl, ?_⟩; have n0_ := Aside0.mk (below_step (by repeat (first | (with_reducible first | exact HB.out | apply below_alloc | apply pw_below_drewN | apply below_drew1) | exact HB.out)) hb); clear HB; have HB := n0_; clear n0_; (try clear hb); (try clear hb2); (try clear hk); (try clear hi)) | (go_at_call 27; (with_reducible refine (bound_Head.calls k (wrap64 (1 + (Int.tmod (wrap64 (a0)) 65535))) (wrap64 (1 + (wrap64 (Int.tmod a2 1048575)))) (wrap64 (Int.tmod a4 2147483648)) t258 _ A9.out).mono ?_); rintro e w25 ⟨rfl, hb⟩; have n0_ := Aside0.mk (below_step (by repeat (first | (with_reducible first | exact HB.out | apply below_alloc | apply pw_below_drewN | apply below_drew1) | exact HB.out)) hb); clear HB; have HB := n0_; clear n0_; (try clear hb); (try clear hb2); (try clear hk); (try clear hi)) | (go_at_call 28; (with_reducible refine (serinetteref24_Head.calls k (wrap64 (1 + (Int.tmod (wrap64 (a0)) 65535))) (wrap64 (1 + (wrap64 (Int.tmod a2 1048575)))) (wrap64 (Int.tmod a4 2147483648)) t259 _ A10.out).mono ?_); rintro e w26 ⟨rfl, hb⟩; have n0_ := Aside0.mk (below_step (by repeat (first | (with_reducible first | exact HB.out | apply below_alloc | apply pw_below_drewN | apply below_drew1) | exact HB.out)) hb); clear HB; have HB := n0_; clear n0_; (try clear hb); (try clear hb2); (try clear hk); (try clear hi)) | (go_at_call 29; (with_reducible refine (bound_Frame.calls k (wrap64 (1 + (Int.tmod (wrap64 (a0)) 65535))) (wrap64 (1 + (wrap64 (Int.tmod a1 8)))) (wrap64 (1 + (wrap64 (Int.tmod a2 1048575)))) (wrap64 (4 + (wrap64 (Int.tmod a3 29)))) (wrap64 (Int.tmod a4 2147483648)) t260 _ A12.out).mono ?_); rintro e w27 ⟨rfl, hb⟩; have n0_ := Aside0.mk (below_step (by repeat (first | (with_reducible first | exact HB.out | apply below_alloc | apply pw_below_drewN | apply below_drew1) | exact HB.out)) hb); clear HB; have HB := n0_; clear n0_; (try clear hb); (try clear hb2); (try clear hk); (try clear hi)) | (go_at_call 30; (with_reducible refine (serinetteref24_Frame.calls k (wrap64 (1 + (Int.tmod (wrap64 (a0)) 65535))) (wrap64 (1 + (wrap64 (Int.tmod a1 8)))) (wrap64 (1 + (wrap64 (Int.tmod a2 1048575)))) (wrap64 (4 + (wrap64 (Int.tmod a3 29)))) (wrap64 (Int.tmod a4 2147483648)) t261 _ A13.out).mono ?_); rintro e w28 ⟨rfl, hb⟩; have n0_ := Aside0.mk (below_step (by repeat (first | (with_reducible first | exact HB.out | apply below_alloc | apply pw_below_drewN | apply below_drew1) | exact HB.out)) hb); clear HB; have HB := n0_; clear n0_; (try clear hb); (try clear hb2); (try clear hk); (try clear hi)))
        go_ret
        exact ⟨by first | rfl | (simp [errW_none, errW_some] <;> rfl) | (simp [*, errW_none, errW_some] <;> rfl), by repeat (first | (with_reducible first | exact HB.out | apply below_alloc | apply pw_below_drewN | apply below_drew1) | exact HB.out)⟩
    · rw [if_neg c11] at H
      have c11b0 : (t258 == t259) = false := beq_eq_false_iff_ne.mpr c11
      have c11b1 : (t258 != t259) = true := bne_iff_ne.mpr c11
      obtain rfl := Option.some.inj H
      go_enter Try.func7, Try.ntmps7
      go_wp2_with (first | ((with_reducible refine gate_callee (f := 26) rfl ?_); refine goesL_ (some 20) rfl rfl Try.func26 (by kernel_rfl) rfl #[] rfl (by (try simp only [List.map_toArray, List.map_cons, List.map_nil]); first | done | rfl | (simp only [List.length_drop, List.length_take]; rfl)) ?_; (with_reducible refine (serinettelaw24_awake.calls k  true _ A7.out).mono ?_); rintro e w29 ⟨rfl, hb⟩; refine ⟨_, rfl, ?_⟩; have n0_ := Aside0.mk (below_step (by repeat (first | (with_reducible first | exact HB.out | apply below_alloc | apply pw_below_drewN | apply below_drew1) | exact HB.out)) hb); clear HB; have HB := n0_; clear n0_; (try clear hb); (try clear hb2); (try clear hk); (try clear hi)) | (go_at_call 27; (with_reducible refine (bound_Head.calls k (wrap64 (1 + (Int.tmod (wrap64 (a0)) 65535))) (wrap64 (1 + (wrap64 (Int.tmod a2 1048575)))) (wrap64 (Int.tmod a4 2147483648)) t258 _ A9.out).mono ?_); rintro e w30 ⟨rfl, hb⟩; have n0_ := Aside0.mk (below_step (by repeat (first | (with_reducible first | exact HB.out | apply below_alloc | apply pw_below_drewN | apply below_drew1) | exact HB.out)) hb); clear HB; have HB := n0_; clear n0_; (try clear hb); (try clear hb2); (try clear hk); (try clear hi)) | (go_at_call 28; (with_reducible refine (serinetteref24_Head.calls k (wrap64 (1 + (Int.tmod (wrap64 (a0)) 65535))) (wrap64 (1 + (wrap64 (Int.tmod a2 1048575)))) (wrap64 (Int.tmod a4 2147483648)) t259 _ A10.out).mono ?_); rintro e w31 ⟨rfl, hb⟩; have n0_ := Aside0.mk (below_step (by repeat (first | (with_reducible first | exact HB.out | apply below_alloc | apply pw_below_drewN | apply below_drew1) | exact HB.out)) hb); clear HB; have HB := n0_; clear n0_; (try clear hb); (try clear hb2); (try clear hk); (try clear hi)))
      go_ret
      exact ⟨by first | rfl | (simp [errW_none, errW_some] <;> rfl) | (simp [*, errW_none, errW_some] <;> rfl), by repeat (first | (with_reducible first | exact HB.out | apply below_alloc | apply pw_below_drewN | apply below_drew1) | exact HB.out)⟩
  · replace c8 := Bool.eq_false_iff.mpr c8
    subst c8
    have H1 : (some false) = some r := by rw [if_neg (show ¬ (false = true) by decide)] at H; exact H
    clear H
    have H := H1
    clear H1
    obtain rfl := Option.some.inj H
    go_enter Try.func7, Try.ntmps7
    go_wp2_with (first | ((with_reducible refine gate_callee (f := 26) rfl ?_); refine goesL_ (some 20) rfl rfl Try.func26 (by kernel_rfl) rfl #[] rfl (by (try simp only [List.map_toArray, List.map_cons, List.map_nil]); first | done | rfl | (simp only [List.length_drop, List.length_take]; rfl)) ?_; (with_reducible refine (serinettelaw24_awake.calls k  false _ A7.out).mono ?_); rintro e w32 ⟨rfl, hb⟩; refine ⟨_, rfl, ?_⟩; have n0_ := Aside0.mk (below_step (by repeat (first | (with_reducible first | exact HB.out | apply below_alloc | apply pw_below_drewN | apply below_drew1) | exact HB.out)) hb); clear HB; have HB := n0_; clear n0_; (try clear hb); (try clear hb2); (try clear hk); (try clear hi)))
    go_ret
    exact ⟨by first | rfl | (simp [errW_none, errW_some] <;> rfl) | (simp [*, errW_none, errW_some] <;> rfl), by repeat (first | (with_reducible first | exact HB.out | apply below_alloc | apply pw_below_drewN | apply below_drew1) | exact HB.out)⟩

/-- THE ONE PURE STATEMENT of serinettelaw24_BoundTells: yours. -/
def serinettelaw24_BoundTells.Pure : Prop := ∀ (a0 : Int) (a1 : Int) (a2 : Int) (a3 : Int) (a4 : Int) (a5 : Int), (Lit.int .u16 a0).wf = true → (Lit.int .u8 a1).wf = true → (Lit.int .u32 a2).wf = true → (Lit.int .u8 a3).wf = true → (Lit.int .u32 a4).wf = true → (Lit.int .u16 a5).wf = true → ∃ k, serinettelaw24_BoundTells.f k a0 a1 a2 a3 a4 a5 = some true
theorem serinettelaw24_BoundTells.walk (P : serinettelaw24_BoundTells.Pure) (a0 : Int) (a1 : Int) (a2 : Int) (a3 : Int) (a4 : Int) (a5 : Int) (w : World) (w0 : (Lit.int .u16 a0).wf = true) (w1 : (Lit.int .u8 a1).wf = true) (w2 : (Lit.int .u32 a2).wf = true) (w3 : (Lit.int .u8 a3).wf = true) (w4 : (Lit.int .u32 a4).wf = true) (w5 : (Lit.int .u16 a5).wf = true) :
    Calls Try.prog 7 #[.int .u16 a0, .int .u8 a1, .int .u32 a2, .int .u8 a3, .int .u32 a4, .int .u16 a5] w fun e w' => e = .returned (.bool true) ∧ Below w.heap.size w w' := by
  obtain ⟨k, h⟩ := P a0 a1 a2 a3 a4 a5 w0 w1 w2 w3 w4 w5
  refine (serinettelaw24_BoundTells.calls k a0 a1 a2 a3 a4 a5 true w h).mono ?_
  rintro e w' ⟨rfl, hd⟩
  exact ⟨rfl, hd⟩

end Go.Proofs.Ytgdgncdnhpflcaa.PBoundTells
