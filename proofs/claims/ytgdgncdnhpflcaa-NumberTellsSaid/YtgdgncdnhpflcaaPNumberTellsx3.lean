-- written by this session's program wip/reprint.sh (a turned copy of the kit's print): the session's own text
import Derived.Test.YtgdgncdnhpflcaaPNumberTellsx0
import Derived.Test.YtgdgncdnhpflcaaPNumberTellsx1
import Derived.Test.YtgdgncdnhpflcaaPNumberTellsx2
namespace Go.Proofs.Ytgdgncdnhpflcaa.PNumberTells
open Go.RowKit Go.Proofs.YtgdgncdnhpflcaaW.PrintWords Go.Proofs.YtgdgncdnhpflcaaW.PrintLast Go.Proofs.YtgdgncdnhpflcaaW.PrintMore Go.Proofs.Ytgdgncdnhpflcaa.H
attribute [local go_sem] max2_int min2_int max_two min_two max_three min_three max_four min_four   -- for this text's walks alone
set_option linter.unusedVariables false
set_option linter.unusedSimpArgs false

/-! ### number_Decode: function 35 -/
def number_Decode.l0 : Nat → List Int → Int → Int → Int → Option (Int × Int × Int)
  | 0, _, _, _, _ => none
  | k + 1, x0, x2, x3, x5 => if x5 < x3 then (if x5 ≥ (x0.length : Int) then (some (0, 0, 2)) else (if 0 ≤ x5 then (if x5 < (x0.length : Int) then (if (Go.bits .and .u8 (rd x0 x5) 192) = 128 then (number_Decode.l0 k x0 (Go.bits .or .i64 (wrap64 (x2 * 64)) (wrap64 (Go.bits .and .u8 (rd x0 x5) 63))) x3 (wrap64 (x5 + 1))) else (some (0, 0, 5))) else (none)) else (none))) else ((number_Size.f k x2).bind fun t159 => (if t159 = x3 then (some (x2, x3, 0)) else (some (0, 0, 5))))
def number_Decode.f (k : Nat) (l0 : List Int) : Option (Int × Int × Int) := if (l0.length : Int) = 0 then (some (0, 0, 2)) else (if 0 < (l0.length : Int) then ((number_sized.f k (rd l0 0)).bind fun t156 => (if t156 = 0 then (some (0, 0, 5)) else ((number_first.f t156).bind fun t158 => (number_Decode.l0 k l0 (wrap64 (Go.bits .andNot .u8 (rd l0 0) t158)) t156 1)))) else (none))
theorem number_Decode.mono_l : ∀ k, (∀ y0 y1 y2 y3, LeO (number_Decode.l0 k y0 y1 y2 y3) (number_Decode.l0 (k + 1) y0 y1 y2 y3))
  | 0 => fun _ _ _ _ r h => by simp [number_Decode.l0] at h
  | k + 1 => by
    have ih0 := number_Decode.mono_l k
    · intro y0 y1 y2 y3
      unfold number_Decode.l0
      repeat' first
      | (with_reducible exact ih0 _ _ _ _)
      | (with_reducible exact number_Size.mono _ _)
      | (with_reducible exact number_sized.mono _ _)
      | (with_reducible exact LeO.refl _)
      | (with_reducible exact LeO.none _)
      | (with_reducible refine LeO.ite ?_ ?_)
      | (with_reducible refine LeO.bind ?_ (fun _ => ?_))
      | exact ih0 _ _ _ _
      | exact number_Size.mono _ _
      | exact number_sized.mono _ _
      | exact LeO.none _
      | refine LeO.ite ?_ ?_
      | refine LeO.bind ?_ (fun _ => ?_)
theorem number_Decode.mono : ∀ a0 k, LeO (number_Decode.f k a0) (number_Decode.f (k + 1) a0) := by
  intro a0 k
  have ih0 := number_Decode.mono_l k
  unfold number_Decode.f
  repeat' first
      | (with_reducible exact ih0 _ _ _ _)
      | (with_reducible exact number_Size.mono _ _)
      | (with_reducible exact number_sized.mono _ _)
      | (with_reducible exact LeO.refl _)
      | (with_reducible exact LeO.none _)
      | (with_reducible refine LeO.ite ?_ ?_)
      | (with_reducible refine LeO.bind ?_ (fun _ => ?_))
      | exact ih0 _ _ _ _
      | exact number_Size.mono _ _
      | exact number_sized.mono _ _
      | exact LeO.none _
      | refine LeO.ite ?_ ?_
      | refine LeO.bind ?_ (fun _ => ?_)
set_option maxHeartbeats 8000000 in
set_option maxRecDepth 100000 in
theorem number_Decode.calls (k : Nat) (A0 : Option Addr) (c0 : Nat) (l0 : List Int) (r1 : Int) (r2 : Int) (r3 : Int) (w : World) (hr0 : Kd.C (Kd.int .u8) w A0 l0.length l0) (hc0 : l0.length ≤ c0) (h : number_Decode.f k l0 = some (r1, r2, r3)) :
    Calls Try.prog 35 #[.slice A0 l0.length c0] w fun e w' => e = .returned (.tuple #[.int .i64 r1, .int .i64 r2, .int .i64 r3]) ∧ Drawn0 w w' := by
  have HR0 := Aside0.mk hr0
  have HC0 := Aside0.mk hc0
  clear hr0 hc0
  have H : (if (l0.length : Int) = 0 then (some (0, 0, 2)) else (if 0 < (l0.length : Int) then ((number_sized.f k (rd l0 0)).bind fun t156 => (if t156 = 0 then (some (0, 0, 5)) else ((number_first.f t156).bind fun t158 => (number_Decode.l0 k l0 (wrap64 (Go.bits .andNot .u8 (rd l0 0) t158)) t156 1)))) else (none))) = some (r1, r2, r3) := h
  clear h
  by_cases c2 : (l0.length : Int) = 0
  · rw [if_pos c2] at H
    have c2b0 : ((l0.length : Int) == 0) = true := beq_iff_eq.mpr c2
    have c2b1 : ((l0.length : Int) != 0) = false := bne_eq_false_iff_eq.mpr c2
    clear c2
    simp only [Option.some.injEq, Prod.mk.injEq] at H
    obtain ⟨rfl, rfl, rfl⟩ := H
    go_enter Try.func35, Try.ntmps35
    go_wp2
    repeat (go_quiet (fail); try go_wp2)
    go_ret3
    exact ⟨by first | rfl | (simp; done) | (simp [*]; done), by repeat (first | exact Drawn0.refl _ | apply Drawn0.step)⟩
  · rw [if_neg c2] at H
    have c2b0 : ((l0.length : Int) == 0) = false := beq_eq_false_iff_ne.mpr c2
    have c2b1 : ((l0.length : Int) != 0) = true := bne_iff_ne.mpr c2
    have c2b2 : ¬ (l0 = []) := fun h_ => c2 (by rw [h_]; rfl)
    by_cases c3 : 0 < (l0.length : Int)
    · rw [if_pos c3] at H
      have c3b0 : decide (0 < (l0.length : Int)) = true := decide_eq_true c3
      have c3b1 : decide (0 < l0.length) = true := decide_eq_true (by omega)
      clear c3
      replace H := Option.bind_eq_some_iff.mp H
      obtain ⟨t156, A40, H⟩ := H
      replace H : (if t156 = 0 then (some (0, 0, 5)) else ((number_first.f t156).bind fun t158 => (number_Decode.l0 k l0 (wrap64 (Go.bits .andNot .u8 (rd l0 0) t158)) t156 1))) = some (r1, r2, r3) := H
      have A4 := Aside0.mk A40
      clear A40
      by_cases c5 : t156 = 0
      · rw [if_pos c5] at H
        have c5b0 : (t156 == 0) = true := beq_iff_eq.mpr c5
        have c5b1 : (t156 != 0) = false := bne_eq_false_iff_eq.mpr c5
        clear c5
        simp only [Option.some.injEq, Prod.mk.injEq] at H
        obtain ⟨rfl, rfl, rfl⟩ := H
        have p155 : 0 ≤ (0 : Int) := (by omega)
        have q155 : 0 < (l0.length : Int) := of_decide_eq_true (by first | (with_reducible assumption) | assumption)
        obtain ⟨ad155, e155, hx155_0⟩ := Kd.at_int HR0.out 0 p155 q155
        cases e155
        have qi155 : (0 < l0.length) = True := eq_true (by omega)
        (try rw [show ((0 : Int)).toNat = 0 from rfl] at hx155_0)
        (try rw [Addr.add_zero'] at hx155_0)
        replace p155 := eq_true p155
        replace q155 := eq_true q155
        go_enter Try.func35, Try.ntmps35
        go_wp2_with (first | (go_at_call 56; (with_reducible refine (number_sized.calls k (rd l0 0) t156 _ A4.out).mono ?_); rintro e w' ⟨rfl, ⟨nd, rfl⟩⟩; (try first | exact ⟨rfl, _, World.drewN_drewN _ _ _⟩ | exact ⟨rfl, _, Eq.trans (World.drewN_drewN _ _ _) (congrArg (World.drewN _) (Nat.add_assoc _ _ _))⟩)))
        repeat (go_quiet (first | (go_at_call 56; (with_reducible refine (number_sized.calls k (rd l0 0) t156 _ A4.out).mono ?_); rintro e w' ⟨rfl, ⟨nd, rfl⟩⟩; (try first | exact ⟨rfl, _, World.drewN_drewN _ _ _⟩ | exact ⟨rfl, _, Eq.trans (World.drewN_drewN _ _ _) (congrArg (World.drewN _) (Nat.add_assoc _ _ _))⟩))); try go_wp2_with (first | (go_at_call 56; (with_reducible refine (number_sized.calls k (rd l0 0) t156 _ A4.out).mono ?_); rintro e w' ⟨rfl, ⟨nd, rfl⟩⟩; (try first | exact ⟨rfl, _, World.drewN_drewN _ _ _⟩ | exact ⟨rfl, _, Eq.trans (World.drewN_drewN _ _ _) (congrArg (World.drewN _) (Nat.add_assoc _ _ _))⟩))))
        go_ret3
        exact ⟨by first | rfl | (simp; done) | (simp [*]; done), by repeat (first | exact Drawn0.refl _ | apply Drawn0.step)⟩
      · rw [if_neg c5] at H
        have c5b0 : (t156 == 0) = false := beq_eq_false_iff_ne.mpr c5
        have c5b1 : (t156 != 0) = true := bne_iff_ne.mpr c5
        replace H := Option.bind_eq_some_iff.mp H
        obtain ⟨t158, A60, H⟩ := H
        replace H : (number_Decode.l0 k l0 (wrap64 (Go.bits .andNot .u8 (rd l0 0) t158)) t156 1) = some (r1, r2, r3) := H
        have A6 := Aside0.mk A60
        clear A60
        have H' := Aside0.mk H
        clear H
        have p155 : 0 ≤ (0 : Int) := (by omega)
        have q155 : 0 < (l0.length : Int) := of_decide_eq_true (by first | (with_reducible assumption) | assumption)
        obtain ⟨ad155, e155, hx155_0⟩ := Kd.at_int HR0.out 0 p155 q155
        cases e155
        have qi155 : (0 < l0.length) = True := eq_true (by omega)
        (try rw [show ((0 : Int)).toNat = 0 from rfl] at hx155_0)
        (try rw [Addr.add_zero'] at hx155_0)
        replace p155 := eq_true p155
        replace q155 := eq_true q155
        go_enter Try.func35, Try.ntmps35
        go_wp2_with (first | (go_at_call 56; (with_reducible refine (number_sized.calls k (rd l0 0) t156 _ A4.out).mono ?_); rintro e w' ⟨rfl, ⟨nd, rfl⟩⟩; (try first | exact ⟨rfl, _, World.drewN_drewN _ _ _⟩ | exact ⟨rfl, _, Eq.trans (World.drewN_drewN _ _ _) (congrArg (World.drewN _) (Nat.add_assoc _ _ _))⟩); have p157 : 0 ≤ (0 : Int) := (by omega); have q157 : 0 < (l0.length : Int) := of_decide_eq_true (by first | (with_reducible assumption) | assumption); obtain ⟨ad157, e157, hx157_0⟩ := Kd.at_int HR0.out 0 p157 q157; obtain rfl : ad155 = ad157 := (by injection e157); have qi157 : (0 < l0.length) = True := eq_true (by omega); (try rw [show ((0 : Int)).toNat = 0 from rfl] at hx157_0); (try rw [Addr.add_zero'] at hx157_0); replace p157 := eq_true p157; replace q157 := eq_true q157) | (go_at_call 47; (with_reducible refine (number_first.calls t156 t158 _ A6.out).mono ?_); rintro e w' ⟨rfl, ⟨nd, rfl⟩⟩; (try first | exact ⟨rfl, _, World.drewN_drewN _ _ _⟩ | exact ⟨rfl, _, Eq.trans (World.drewN_drewN _ _ _) (congrArg (World.drewN _) (Nat.add_assoc _ _ _))⟩)))
        repeat (go_quiet (first | (go_at_call 56; (with_reducible refine (number_sized.calls k (rd l0 0) t156 _ A4.out).mono ?_); rintro e w' ⟨rfl, ⟨nd, rfl⟩⟩; (try first | exact ⟨rfl, _, World.drewN_drewN _ _ _⟩ | exact ⟨rfl, _, Eq.trans (World.drewN_drewN _ _ _) (congrArg (World.drewN _) (Nat.add_assoc _ _ _))⟩); have p157 : 0 ≤ (0 : Int) := (by omega); have q157 : 0 < (l0.length : Int) := of_decide_eq_true (by first | (with_reducible assumption) | assumption); obtain ⟨ad157, e157, hx157_0⟩ := Kd.at_int HR0.out 0 p157 q157; obtain rfl : ad155 = ad157 := (by injection e157); have qi157 : (0 < l0.length) = True := eq_true (by omega); (try rw [show ((0 : Int)).toNat = 0 from rfl] at hx157_0); (try rw [Addr.add_zero'] at hx157_0); replace p157 := eq_true p157; replace q157 := eq_true q157) | (go_at_call 47; (with_reducible refine (number_first.calls t156 t158 _ A6.out).mono ?_); rintro e w' ⟨rfl, ⟨nd, rfl⟩⟩; (try first | exact ⟨rfl, _, World.drewN_drewN _ _ _⟩ | exact ⟨rfl, _, Eq.trans (World.drewN_drewN _ _ _) (congrArg (World.drewN _) (Nat.add_assoc _ _ _))⟩))); try go_wp2_with (first | (go_at_call 56; (with_reducible refine (number_sized.calls k (rd l0 0) t156 _ A4.out).mono ?_); rintro e w' ⟨rfl, ⟨nd, rfl⟩⟩; (try first | exact ⟨rfl, _, World.drewN_drewN _ _ _⟩ | exact ⟨rfl, _, Eq.trans (World.drewN_drewN _ _ _) (congrArg (World.drewN _) (Nat.add_assoc _ _ _))⟩); have p157 : 0 ≤ (0 : Int) := (by omega); have q157 : 0 < (l0.length : Int) := of_decide_eq_true (by first | (with_reducible assumption) | assumption); obtain ⟨ad157, e157, hx157_0⟩ := Kd.at_int HR0.out 0 p157 q157; obtain rfl : ad155 = ad157 := (by injection e157); have qi157 : (0 < l0.length) = True := eq_true (by omega); (try rw [show ((0 : Int)).toNat = 0 from rfl] at hx157_0); (try rw [Addr.add_zero'] at hx157_0); replace p157 := eq_true p157; replace q157 := eq_true q157) | (go_at_call 47; (with_reducible refine (number_first.calls t156 t158 _ A6.out).mono ?_); rintro e w' ⟨rfl, ⟨nd, rfl⟩⟩; (try first | exact ⟨rfl, _, World.drewN_drewN _ _ _⟩ | exact ⟨rfl, _, Eq.trans (World.drewN_drewN _ _ _) (congrArg (World.drewN _) (Nat.add_assoc _ _ _))⟩))))
        go_loopg [2, 3, 5] k (fun kq v2 v3 v5 w' => ∃ (x2_1 : Int) (x3_1 : Int) (x5_1 : Int), v2 = .int .i64 x2_1 ∧ v3 = .int .i64 x3_1 ∧ v5 = .int .i64 x5_1 ∧ Aside0 (number_Decode.l0 kq l0 x2_1 x3_1 x5_1 = some (r1, r2, r3)) ∧ Aside0 (kq ≤ k) ∧ Drawn0 w w')
        case atStart => exact ⟨(wrap64 (Go.bits .andNot .u8 (rd l0 0) t158)), (t156), (1), (by first | rfl | (simp; done) | (simp [*]; done)), (by first | rfl | (simp; done) | (simp [*]; done)), (by first | rfl | (simp; done) | (simp [*]; done)), H', ⟨Nat.le_refl _⟩, by repeat (first | exact Drawn0.refl _ | apply Drawn0.step)⟩
        case round =>
          clear H'
          try clear p1
          try clear q1
          try clear hx1
          try clear qi1
          try clear c2
          try clear c2b0
          try clear c2b1
          try clear c2b2
          try clear p2
          try clear c3
          try clear c3b0
          try clear c3b1
          try clear c5
          try clear c5b0
          try clear c5b1
          try clear p6
          try clear hx155_0
          try clear hx157_0
          try clear p155
          try clear p157
          try clear q155
          try clear q157
          obtain ⟨x2_1, x3_1, x5_1, rfl, rfl, rfl, HA, HK1, ⟨m1, rfl⟩⟩ := hrel
          cases gk with
          | zero => exact absurd HA.out (by simp [number_Decode.l0])
          | succ k1 =>
            have H := HA.out
            clear HA
            simp only [number_Decode.l0] at H
            by_cases c7 : x5_1 < x3_1
            · rw [if_pos c7] at H
              have c7b0 : decide (x5_1 < x3_1) = true := decide_eq_true c7
              clear c7
              by_cases c8 : x5_1 ≥ (l0.length : Int)
              · rw [if_pos c8] at H
                have c8b0 : decide ((l0.length : Int) ≤ x5_1) = true := decide_eq_true c8
                clear c8
                simp only [Option.some.injEq, Prod.mk.injEq] at H
                obtain ⟨rfl, rfl, rfl⟩ := H
                go_wp2
                repeat (go_quiet (fail); try go_wp2)
                go_ret3
                exact ⟨by first | rfl | (simp; done) | (simp [*]; done), by repeat (first | exact Drawn0.refl _ | apply Drawn0.step)⟩
              · rw [if_neg c8] at H
                have c8b0 : decide ((l0.length : Int) ≤ x5_1) = false := decide_eq_false c8
                clear c8
                by_cases c9 : 0 ≤ x5_1
                · rw [if_pos c9] at H
                  have c9b0 : decide (0 ≤ x5_1) = true := decide_eq_true c9
                  clear c9
                  by_cases c10 : x5_1 < (l0.length : Int)
                  · rw [if_pos c10] at H
                    have c10b0 : decide (x5_1 < (l0.length : Int)) = true := decide_eq_true c10
                    clear c10
                    by_cases c11 : (Go.bits .and .u8 (rd l0 x5_1) 192) = 128
                    · rw [if_pos c11] at H
                      have c11b0 : ((Go.bits .and .u8 (rd l0 x5_1) 192) == 128) = true := beq_iff_eq.mpr c11
                      have c11b1 : ((Go.bits .and .u8 (rd l0 x5_1) 192) != 128) = false := bne_eq_false_iff_eq.mpr c11
                      clear c11
                      have H' := Aside0.mk H
                      clear H
                      have p160 : 0 ≤ (x5_1 : Int) := of_decide_eq_true (by first | (with_reducible assumption) | assumption)
                      have q160 : x5_1 < (l0.length : Int) := of_decide_eq_true (by first | (with_reducible assumption) | assumption)
                      obtain ⟨ad160, e160, hx160_0⟩ := Kd.at_int HR0.out x5_1 p160 q160
                      obtain rfl : ad155 = ad160 := (by injection e160)
                      replace p160 := eq_true p160
                      replace q160 := eq_true q160
                      have p161 : 0 ≤ (x5_1 : Int) := of_decide_eq_true (by first | (with_reducible assumption) | assumption)
                      have q161 : x5_1 < (l0.length : Int) := of_decide_eq_true (by first | (with_reducible assumption) | assumption)
                      obtain ⟨ad161, e161, hx161_0⟩ := Kd.at_int HR0.out x5_1 p161 q161
                      obtain rfl : ad155 = ad161 := (by injection e161)
                      replace p161 := eq_true p161
                      replace q161 := eq_true q161
                      go_wp2
                      repeat (go_quiet (fail); try go_wp2)
                      go_roundg k1
                      case measure => have := HK1.out; omega
                      case rel => exact ⟨(Go.bits .or .i64 (wrap64 (x2_1 * 64)) (wrap64 (Go.bits .and .u8 (rd l0 x5_1) 63))), (x3_1), (wrap64 (x5_1 + 1)), (by first | rfl | (simp; done) | (simp [*]; done)), (by first | rfl | (simp; done) | (simp [*]; done)), (by first | rfl | (simp; done) | (simp [*]; done)), H', ⟨by have := HK1.out; omega⟩, by repeat (first | exact Drawn0.refl _ | apply Drawn0.step)⟩
                    · rw [if_neg c11] at H
                      have c11b0 : ((Go.bits .and .u8 (rd l0 x5_1) 192) == 128) = false := beq_eq_false_iff_ne.mpr c11
                      have c11b1 : ((Go.bits .and .u8 (rd l0 x5_1) 192) != 128) = true := bne_iff_ne.mpr c11
                      simp only [Option.some.injEq, Prod.mk.injEq] at H
                      obtain ⟨rfl, rfl, rfl⟩ := H
                      have p160 : 0 ≤ (x5_1 : Int) := of_decide_eq_true (by first | (with_reducible assumption) | assumption)
                      have q160 : x5_1 < (l0.length : Int) := of_decide_eq_true (by first | (with_reducible assumption) | assumption)
                      obtain ⟨ad160, e160, hx160_0⟩ := Kd.at_int HR0.out x5_1 p160 q160
                      obtain rfl : ad155 = ad160 := (by injection e160)
                      replace p160 := eq_true p160
                      replace q160 := eq_true q160
                      go_wp2
                      repeat (go_quiet (fail); try go_wp2)
                      go_ret3
                      exact ⟨by first | rfl | (simp; done) | (simp [*]; done), by repeat (first | exact Drawn0.refl _ | apply Drawn0.step)⟩
                  · rw [if_neg c10] at H
                    exact absurd H (by simp)
                · rw [if_neg c9] at H
                  exact absurd H (by simp)
            · rw [if_neg c7] at H
              have c7b0 : decide (x5_1 < x3_1) = false := decide_eq_false c7
              clear c7
              replace H := Option.bind_eq_some_iff.mp H
              obtain ⟨t159, A120, H⟩ := H
              replace H : (if t159 = x3_1 then (some (x2_1, x3_1, 0)) else (some (0, 0, 5))) = some (r1, r2, r3) := H
              have A12 := Aside0.mk A120
              clear A120
              by_cases c13 : t159 = x3_1
              · rw [if_pos c13] at H
                have c13b0 : (t159 == x3_1) = true := beq_iff_eq.mpr c13
                have c13b1 : (t159 != x3_1) = false := bne_eq_false_iff_eq.mpr c13
                clear c13
                simp only [Option.some.injEq, Prod.mk.injEq] at H
                obtain ⟨rfl, rfl, rfl⟩ := H
                go_wp2_with (first | (go_at_call 22; (with_reducible refine (number_Size.calls k1 x2_1 t159 _ A12.out).mono ?_); rintro e w' ⟨rfl, ⟨nd, rfl⟩⟩; (try first | exact ⟨rfl, _, World.drewN_drewN _ _ _⟩ | exact ⟨rfl, _, Eq.trans (World.drewN_drewN _ _ _) (congrArg (World.drewN _) (Nat.add_assoc _ _ _))⟩)))
                repeat (go_quiet (first | (go_at_call 22; (with_reducible refine (number_Size.calls k1 x2_1 t159 _ A12.out).mono ?_); rintro e w' ⟨rfl, ⟨nd, rfl⟩⟩; (try first | exact ⟨rfl, _, World.drewN_drewN _ _ _⟩ | exact ⟨rfl, _, Eq.trans (World.drewN_drewN _ _ _) (congrArg (World.drewN _) (Nat.add_assoc _ _ _))⟩))); try go_wp2_with (first | (go_at_call 22; (with_reducible refine (number_Size.calls k1 x2_1 t159 _ A12.out).mono ?_); rintro e w' ⟨rfl, ⟨nd, rfl⟩⟩; (try first | exact ⟨rfl, _, World.drewN_drewN _ _ _⟩ | exact ⟨rfl, _, Eq.trans (World.drewN_drewN _ _ _) (congrArg (World.drewN _) (Nat.add_assoc _ _ _))⟩))))
                go_ret3
                exact ⟨by first | rfl | (simp; done) | (simp [*]; done), by repeat (first | exact Drawn0.refl _ | apply Drawn0.step)⟩
              · rw [if_neg c13] at H
                have c13b0 : (t159 == x3_1) = false := beq_eq_false_iff_ne.mpr c13
                have c13b1 : (t159 != x3_1) = true := bne_iff_ne.mpr c13
                simp only [Option.some.injEq, Prod.mk.injEq] at H
                obtain ⟨rfl, rfl, rfl⟩ := H
                go_wp2_with (first | (go_at_call 22; (with_reducible refine (number_Size.calls k1 x2_1 t159 _ A12.out).mono ?_); rintro e w' ⟨rfl, ⟨nd, rfl⟩⟩; (try first | exact ⟨rfl, _, World.drewN_drewN _ _ _⟩ | exact ⟨rfl, _, Eq.trans (World.drewN_drewN _ _ _) (congrArg (World.drewN _) (Nat.add_assoc _ _ _))⟩)))
                repeat (go_quiet (first | (go_at_call 22; (with_reducible refine (number_Size.calls k1 x2_1 t159 _ A12.out).mono ?_); rintro e w' ⟨rfl, ⟨nd, rfl⟩⟩; (try first | exact ⟨rfl, _, World.drewN_drewN _ _ _⟩ | exact ⟨rfl, _, Eq.trans (World.drewN_drewN _ _ _) (congrArg (World.drewN _) (Nat.add_assoc _ _ _))⟩))); try go_wp2_with (first | (go_at_call 22; (with_reducible refine (number_Size.calls k1 x2_1 t159 _ A12.out).mono ?_); rintro e w' ⟨rfl, ⟨nd, rfl⟩⟩; (try first | exact ⟨rfl, _, World.drewN_drewN _ _ _⟩ | exact ⟨rfl, _, Eq.trans (World.drewN_drewN _ _ _) (congrArg (World.drewN _) (Nat.add_assoc _ _ _))⟩))))
                go_ret3
                exact ⟨by first | rfl | (simp; done) | (simp [*]; done), by repeat (first | exact Drawn0.refl _ | apply Drawn0.step)⟩
    · rw [if_neg c3] at H
      exact absurd H (by simp)

end Go.Proofs.Ytgdgncdnhpflcaa.PNumberTells
