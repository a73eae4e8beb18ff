-- written by this session's program wip/reprint.sh (a turned copy of the kit's print): the session's own text
import Derived.Test.YtgdgncdnhpflcaaPNumberBackx0
import Derived.Test.YtgdgncdnhpflcaaPNumberBackx1
import Derived.Test.YtgdgncdnhpflcaaPNumberBackx2
namespace Go.Proofs.Ytgdgncdnhpflcaa.PNumberBack
open Go.RowKit Go.Proofs.YtgdgncdnhpflcaaW.PrintWords Go.Proofs.YtgdgncdnhpflcaaW.PrintLast Go.Proofs.YtgdgncdnhpflcaaW.PrintMore Go.Proofs.Ytgdgncdnhpflcaa.H
attribute [local go_sem] max2_int min2_int max_two min_two max_three min_three max_four min_four   -- for this text's walks alone
set_option linter.unusedVariables false
set_option linter.unusedSimpArgs false

/-! ### serinettelaw03_NumberBack: function 10 -/
mutual
def serinettelaw03_NumberBack.j0 : Nat → Int → List Int → Int → Bool → List Int → Int → Bool → Option (Bool)
  | 0, _, _, _, _, _, _, _ => none
  | k + 1, x0, x1, x2, x7, x8, x9, x31 => if x31 = true then (if x7 = true then (if x9 = 6 then (some ((x8.length : Int) == 0)) else (some false)) else (some false)) else (if x9 = 0 then (if (x8.length : Int) < 1 then (serinettelaw03_NumberBack.j1 k x0 x1 x2 x7 x8 true) else (serinettelaw03_NumberBack.j1 k x0 x1 x2 x7 x8 (decide ((x8.length : Int) > 7)))) else (serinettelaw03_NumberBack.j1 k x0 x1 x2 x7 x8 true))
def serinettelaw03_NumberBack.j1 : Nat → Int → List Int → Int → Bool → List Int → Bool → Option (Bool)
  | 0, _, _, _, _, _, _ => none
  | k + 1, x0, x1, x2, x7, x8, x53 => if x53 = true then (some false) else ((some (([] : List Int) : List Int)).bind fun y144 => (if y144.length + x8.length < 140737488355328 then ((some (y144 ++ x8 : List Int)).bind fun y147 => (if y147.length + x1.length < 140737488355328 then ((number_Decode.f k (y147 ++ x1)).bind fun bt153 => (if (x8.length : Int) = 0 then (none) else (if 0 ≤ (Int.tmod (wrap64 (x2)) (x8.length : Int)) then (if (Int.tmod (wrap64 (x2)) (x8.length : Int)) ≤ (x8.length : Int) then ((number_Decode.f k (x8.take ((Int.tmod (wrap64 (x2)) (x8.length : Int)) : Int).toNat)).bind fun bt161 => (if x7 = true then (if bt153.2.2 = 0 then (if bt153.1 = x0 then (if bt153.2.1 = (x8.length : Int) then ((number_Size.f k x0).bind fun t164 => (if bt153.2.1 = t164 then (some (bt161.2.2 == 2)) else (some false))) else (some false)) else (some false)) else (some false)) else (some false))) else (none)) else (none)))) else (none))) else (none)))
end
def serinettelaw03_NumberBack.f (k : Nat) (a0 : Int) (l1 : List Int) (a2 : Int) : Option (Bool) := (serinettelaw03_awake.f k).bind fun t139 => (if (l1.length : Int) > 20 then (some t139) else ((number_Encode.f k a0).bind fun bt140 => (if a0 < 0 then (serinettelaw03_NumberBack.j0 k a0 l1 a2 t139 bt140.1 bt140.2 true) else (serinettelaw03_NumberBack.j0 k a0 l1 a2 t139 bt140.1 bt140.2 (decide (a0 > 68719476735))))))
theorem serinettelaw03_NumberBack.mono_l : ∀ k, (∀ y0 y1 y2 y3 y4 y5 y6, LeO (serinettelaw03_NumberBack.j0 k y0 y1 y2 y3 y4 y5 y6) (serinettelaw03_NumberBack.j0 (k + 1) y0 y1 y2 y3 y4 y5 y6)) ∧ (∀ y0 y1 y2 y3 y4 y5, LeO (serinettelaw03_NumberBack.j1 k y0 y1 y2 y3 y4 y5) (serinettelaw03_NumberBack.j1 (k + 1) y0 y1 y2 y3 y4 y5))
  | 0 => ⟨fun _ _ _ _ _ _ _ r h => by simp [serinettelaw03_NumberBack.j0] at h, fun _ _ _ _ _ _ r h => by simp [serinettelaw03_NumberBack.j1] at h⟩
  | k + 1 => by
    obtain ⟨ih0, ih1⟩ := serinettelaw03_NumberBack.mono_l k
    refine ⟨?_, ?_⟩
    · intro y0 y1 y2 y3 y4 y5 y6
      unfold serinettelaw03_NumberBack.j0
      repeat' first
      | (with_reducible exact ih0 _ _ _ _ _ _ _)
      | (with_reducible exact ih1 _ _ _ _ _ _)
      | (with_reducible exact number_Decode.mono _ _)
      | (with_reducible exact number_Encode.mono _ _)
      | (with_reducible exact number_Size.mono _ _)
      | (with_reducible exact serinettelaw03_awake.mono _)
      | (with_reducible exact LeO.refl _)
      | (with_reducible exact LeO.none _)
      | (with_reducible refine LeO.ite ?_ ?_)
      | (with_reducible refine LeO.bind ?_ (fun _ => ?_))
      | exact ih0 _ _ _ _ _ _ _
      | exact ih1 _ _ _ _ _ _
      | exact number_Decode.mono _ _
      | exact number_Encode.mono _ _
      | exact number_Size.mono _ _
      | exact serinettelaw03_awake.mono _
      | exact LeO.none _
      | refine LeO.ite ?_ ?_
      | refine LeO.bind ?_ (fun _ => ?_)
    · intro y0 y1 y2 y3 y4 y5
      unfold serinettelaw03_NumberBack.j1
      repeat' first
      | (with_reducible exact ih0 _ _ _ _ _ _ _)
      | (with_reducible exact ih1 _ _ _ _ _ _)
      | (with_reducible exact number_Decode.mono _ _)
      | (with_reducible exact number_Encode.mono _ _)
      | (with_reducible exact number_Size.mono _ _)
      | (with_reducible exact serinettelaw03_awake.mono _)
      | (with_reducible exact LeO.refl _)
      | (with_reducible exact LeO.none _)
      | (with_reducible refine LeO.ite ?_ ?_)
      | (with_reducible refine LeO.bind ?_ (fun _ => ?_))
      | exact ih0 _ _ _ _ _ _ _
      | exact ih1 _ _ _ _ _ _
      | exact number_Decode.mono _ _
      | exact number_Encode.mono _ _
      | exact number_Size.mono _ _
      | exact serinettelaw03_awake.mono _
      | exact LeO.none _
      | refine LeO.ite ?_ ?_
      | refine LeO.bind ?_ (fun _ => ?_)
theorem serinettelaw03_NumberBack.mono : ∀ a0 a1 a2 k, LeO (serinettelaw03_NumberBack.f k a0 a1 a2) (serinettelaw03_NumberBack.f (k + 1) a0 a1 a2) := by
  intro a0 a1 a2 k
  obtain ⟨ih0, ih1⟩ := serinettelaw03_NumberBack.mono_l k
  unfold serinettelaw03_NumberBack.f
  repeat' first
      | (with_reducible exact ih0 _ _ _ _ _ _ _)
      | (with_reducible exact ih1 _ _ _ _ _ _)
      | (with_reducible exact number_Decode.mono _ _)
      | (with_reducible exact number_Encode.mono _ _)
      | (with_reducible exact number_Size.mono _ _)
      | (with_reducible exact serinettelaw03_awake.mono _)
      | (with_reducible exact LeO.refl _)
      | (with_reducible exact LeO.none _)
      | (with_reducible refine LeO.ite ?_ ?_)
      | (with_reducible refine LeO.bind ?_ (fun _ => ?_))
      | exact ih0 _ _ _ _ _ _ _
      | exact ih1 _ _ _ _ _ _
      | exact number_Decode.mono _ _
      | exact number_Encode.mono _ _
      | exact number_Size.mono _ _
      | exact serinettelaw03_awake.mono _
      | exact LeO.none _
      | refine LeO.ite ?_ ?_
      | refine LeO.bind ?_ (fun _ => ?_)
set_option maxHeartbeats 8000000 in
set_option maxRecDepth 100000 in
theorem serinettelaw03_NumberBack.calls (k : Nat) (a0 : Int) (A1 : Option Addr) (c1 : Nat) (l1 : List Int) (a2 : Int) (r : Bool) (w : World) (hr1 : Kd.C (Kd.int .u8) w A1 l1.length l1) (hc1 : l1.length ≤ c1) (h : serinettelaw03_NumberBack.f k a0 l1 a2 = some r) :
    Calls Try.prog 10 #[.int .i64 a0, .slice A1 l1.length c1, .int .u8 a2] w fun e w' => e = .returned (.bool r) ∧ Below w.heap.size w w' := by
  have HR1 := Aside0.mk hr1
  have HC1 := Aside0.mk hc1
  clear hr1 hc1
  have HB := Aside0.mk (Below.refl w.heap.size w)
  have H : ((serinettelaw03_awake.f k).bind fun t139 => (if (l1.length : Int) > 20 then (some t139) else ((number_Encode.f k a0).bind fun bt140 => (if a0 < 0 then (serinettelaw03_NumberBack.j0 k a0 l1 a2 t139 bt140.1 bt140.2 true) else (serinettelaw03_NumberBack.j0 k a0 l1 a2 t139 bt140.1 bt140.2 (decide (a0 > 68719476735))))))) = some r := h
  clear h
  replace H := Option.bind_eq_some_iff.mp H
  obtain ⟨t139, A40, H⟩ := H
  replace H : (if (l1.length : Int) > 20 then (some t139) else ((number_Encode.f k a0).bind fun bt140 => (if a0 < 0 then (serinettelaw03_NumberBack.j0 k a0 l1 a2 t139 bt140.1 bt140.2 true) else (serinettelaw03_NumberBack.j0 k a0 l1 a2 t139 bt140.1 bt140.2 (decide (a0 > 68719476735)))))) = some r := H
  have A4 := Aside0.mk A40
  clear A40
  by_cases c5 : (l1.length : Int) > 20
  · rw [if_pos c5] at H
    have c5b0 : decide (20 < (l1.length : Int)) = true := decide_eq_true c5
    have c5b1 : decide (20 < l1.length) = true := decide_eq_true (by omega)
    clear c5
    obtain rfl := Option.some.inj H
    go_enter Try.func10, Try.ntmps10
    go_wp2_with (first | ((with_reducible refine gate_callee (f := 20) rfl ?_); refine goesL_ (some 16) rfl rfl Try.func20 (by kernel_rfl) rfl #[] rfl (by (try simp only [List.map_toArray, List.map_cons, List.map_nil]); first | done | rfl | (simp only [List.length_drop, List.length_take]; rfl)) ?_; (with_reducible refine (serinettelaw03_awake.calls k  t139 _ A4.out).mono ?_); rintro e w6 ⟨rfl, hb⟩; refine ⟨_, rfl, ?_⟩; have n0_ := Aside0.mk (below_step (by repeat (first | (with_reducible first | exact HB.out | apply below_alloc | apply pw_below_drewN | apply below_drew1) | exact HB.out)) hb); clear HB; have HB := n0_; clear n0_; (try clear hb); (try clear hb2); (try clear hk); (try clear hi)))
    go_ret
    exact ⟨by first | rfl | (simp [errW_none, errW_some] <;> rfl) | (simp [*, errW_none, errW_some] <;> rfl), by repeat (first | (with_reducible first | exact HB.out | apply below_alloc | apply pw_below_drewN | apply below_drew1) | exact HB.out)⟩
  · rw [if_neg c5] at H
    have c5b0 : decide (20 < (l1.length : Int)) = false := decide_eq_false c5
    have c5b1 : decide (20 < l1.length) = false := decide_eq_false (by omega)
    clear c5
    replace H := Option.bind_eq_some_iff.mp H
    obtain ⟨⟨t140, t143⟩, A70, H⟩ := H
    replace H : (if a0 < 0 then (serinettelaw03_NumberBack.j0 k a0 l1 a2 t139 t140 t143 true) else (serinettelaw03_NumberBack.j0 k a0 l1 a2 t139 t140 t143 (decide (a0 > 68719476735)))) = some r := H
    have A7 := Aside0.mk A70
    clear A70
    have HC8 := Aside0.mk H
    clear H
    go_enter Try.func10, Try.ntmps10
    go_upto_region 5 with (first | ((with_reducible refine gate_callee (f := 20) rfl ?_); refine goesL_ (some 16) rfl rfl Try.func20 (by kernel_rfl) rfl #[] rfl (by (try simp only [List.map_toArray, List.map_cons, List.map_nil]); first | done | rfl | (simp only [List.length_drop, List.length_take]; rfl)) ?_; (with_reducible refine (serinettelaw03_awake.calls k  t139 _ A4.out).mono ?_); rintro e w9 ⟨rfl, hb⟩; refine ⟨_, rfl, ?_⟩; have n0_ := Aside0.mk (below_step (by repeat (first | (with_reducible first | exact HB.out | apply below_alloc | apply pw_below_drewN | apply below_drew1) | exact HB.out)) hb); clear HB; have HB := n0_; clear n0_; (try clear hb); (try clear hb2); (try clear hk); (try clear hi)) | ((with_reducible refine gate_callee (f := 21) rfl ?_); refine goesL_ (some 23) rfl rfl Try.func21 (by kernel_rfl) rfl #[.int .i64 a0] rfl (by (try simp only [List.map_toArray, List.map_cons, List.map_nil]); first | done | rfl | (simp only [List.length_drop, List.length_take]; rfl)) ?_; (with_reducible refine (number_Encode.calls k a0 t140 t143 _ A7.out).mono ?_); rintro e w10 ⟨v141, rfl, ho0, hb⟩; refine ⟨_, rfl, ?_⟩; have n0_ := Aside0.mk (Kd.V_lower (Kd.V_mono (ok' := fun k_ => True) ho0 (fun k_ hk_ => trivial)) (below_size (by repeat (first | (with_reducible first | exact HB.out | apply below_alloc | apply pw_below_drewN | apply below_drew1) | exact HB.out)))); have n1_ := Aside0.mk (below_step (by repeat (first | (with_reducible first | exact HB.out | apply below_alloc | apply pw_below_drewN | apply below_drew1) | exact HB.out)) hb); clear HB; have HO142 := n0_; have HB := n1_; clear n0_ n1_; (try clear hb); (try clear hb2); (try clear hk); (try clear hi); (try clear ho0)))
    (try simp only [Act.put, List.setIfInBounds_toArray, List.set_cons_zero, List.set_cons_succ])
    go_cut [31] (fun v31 wc => ∃ (kq : Nat) (x31_7 : Bool), v31 = .bool x31_7 ∧ Aside0 (serinettelaw03_NumberBack.j0 kq a0 l1 a2 t139 t140 t143 x31_7 = some r) ∧ Aside0 (kq ≤ k) ∧ Aside0 (Kd.V (Kd.int .u8) 5 wc w.heap.size (fun _ => True) v141 t140) ∧ Aside0 (Below w.heap.size w wc))
    case first =>
      have H := HC8.out
      clear HC8
      by_cases c11 : a0 < 0
      · rw [if_pos c11] at H
        have c11b0 : decide (a0 < 0) = true := decide_eq_true c11
        clear c11
        (first | rw [c11b0] | (simp only [i64_w, i32_w]; rw [c11b0]) | skip)
        have H' := Aside0.mk H
        clear H
        go_wp2
        go_meet
        case rel => exact ⟨_, (true), (by first | rfl | (simp; done) | (simp [*]; done)), H', ⟨by first | omega | exact Nat.le_refl _⟩, ⟨by (with_reducible repeat (first | apply Kd.V_alloc | apply Kd.V_drewN | apply Kd.V_drew)); exact HO142.out⟩, ⟨by repeat (first | (with_reducible first | exact HB.out | apply below_alloc | apply pw_below_drewN | apply below_drew1) | exact HB.out)⟩⟩
      · rw [if_neg c11] at H
        have c11b0 : decide (a0 < 0) = false := decide_eq_false c11
        clear c11
        (first | rw [c11b0] | (simp only [i64_w, i32_w]; rw [c11b0]) | skip)
        have H' := Aside0.mk H
        clear H
        go_wp2
        go_meet
        case rel => exact ⟨_, (decide (a0 > 68719476735)), (by first | rfl | (simp; done) | (simp [*]; done)), H', ⟨by first | omega | exact Nat.le_refl _⟩, ⟨by (with_reducible repeat (first | apply Kd.V_alloc | apply Kd.V_drewN | apply Kd.V_drew)); exact HO142.out⟩, ⟨by repeat (first | (with_reducible first | exact HB.out | apply below_alloc | apply pw_below_drewN | apply below_drew1) | exact HB.out)⟩⟩
    case rest =>
      clear HC8
      try clear c1
      try clear c2
      try clear p2
      try clear c5
      try clear c5b0
      try clear c5b1
      try clear c10
      try clear c11
      try clear c11b0
      obtain ⟨kq, x31_7, rfl, HA, HJ7, HO_8, HB⟩ := hcut
      cases kq with
      | zero => exact absurd HA.out (by simp [serinettelaw03_NumberBack.j0])
      | succ kj7 =>
        have H := HA.out
        clear HA
        simp only [serinettelaw03_NumberBack.j0] at H
        by_cases c12 : x31_7 = true
        · subst c12
          have H1 : (if t139 = true then (if t143 = 6 then (some ((t140.length : Int) == 0)) else (some false)) else (some false)) = some r := by rw [if_pos rfl] at H; exact H
          clear H
          have H := H1
          clear H1
          by_cases c13 : t139 = true
          · subst c13
            have H1 : (if t143 = 6 then (some ((t140.length : Int) == 0)) else (some false)) = some r := by rw [if_pos rfl] at H; exact H
            clear H
            have H := H1
            clear H1
            by_cases c14 : t143 = 6
            · rw [if_pos c14] at H
              have c14b0 : (t143 == 6) = true := beq_iff_eq.mpr c14
              have c14b1 : (t143 != 6) = false := bne_eq_false_iff_eq.mpr c14
              clear c14
              obtain rfl := Option.some.inj H
              obtain ⟨Ao15, co15, eo15⟩ := Kd.V_slice HO_8.out
              subst eo15
              go_wp2
              go_ret
              exact ⟨by first | rfl | (simp [errW_none, errW_some] <;> rfl) | (simp [*, errW_none, errW_some] <;> rfl), by repeat (first | (with_reducible first | exact HB.out | apply below_alloc | apply pw_below_drewN | apply below_drew1) | exact HB.out)⟩
            · rw [if_neg c14] at H
              have c14b0 : (t143 == 6) = false := beq_eq_false_iff_ne.mpr c14
              have c14b1 : (t143 != 6) = true := bne_iff_ne.mpr c14
              obtain rfl := Option.some.inj H
              go_wp2
              go_ret
              exact ⟨by first | rfl | (simp [errW_none, errW_some] <;> rfl) | (simp [*, errW_none, errW_some] <;> rfl), by repeat (first | (with_reducible first | exact HB.out | apply below_alloc | apply pw_below_drewN | apply below_drew1) | exact HB.out)⟩
          · replace c13 := Bool.eq_false_iff.mpr c13
            subst c13
            have H1 : (some false) = some r := by rw [if_neg (show ¬ (false = true) by decide)] at H; exact H
            clear H
            have H := H1
            clear H1
            obtain rfl := Option.some.inj H
            go_wp2
            go_ret
            exact ⟨by first | rfl | (simp [errW_none, errW_some] <;> rfl) | (simp [*, errW_none, errW_some] <;> rfl), by repeat (first | (with_reducible first | exact HB.out | apply below_alloc | apply pw_below_drewN | apply below_drew1) | exact HB.out)⟩
        · replace c12 := Bool.eq_false_iff.mpr c12
          subst c12
          have H1 : (if t143 = 0 then (if (t140.length : Int) < 1 then (serinettelaw03_NumberBack.j1 kj7 a0 l1 a2 t139 t140 true) else (serinettelaw03_NumberBack.j1 kj7 a0 l1 a2 t139 t140 (decide ((t140.length : Int) > 7)))) else (serinettelaw03_NumberBack.j1 kj7 a0 l1 a2 t139 t140 true)) = some r := by rw [if_neg (show ¬ (false = true) by decide)] at H; exact H
          clear H
          have H := H1
          clear H1
          have HC16 := Aside0.mk H
          clear H
          go_upto_region 7 with (fail)
          go_cut [53] (fun v53 wc => ∃ (kq : Nat) (x53_15 : Bool), v53 = .bool x53_15 ∧ Aside0 (serinettelaw03_NumberBack.j1 kq a0 l1 a2 t139 t140 x53_15 = some r) ∧ Aside0 (kq ≤ kj7) ∧ Aside0 (Kd.V (Kd.int .u8) 5 wc w.heap.size (fun _ => True) v141 t140) ∧ Aside0 (Below w.heap.size w wc))
          case first =>
            have H := HC16.out
            clear HC16
            by_cases c17 : t143 = 0
            · rw [if_pos c17] at H
              have c17b0 : (t143 == 0) = true := beq_iff_eq.mpr c17
              have c17b1 : (t143 != 0) = false := bne_eq_false_iff_eq.mpr c17
              clear c17
              (first | rw [c17b0] | (simp only [i64_w, i32_w]; rw [c17b0]) | skip)
              by_cases c18 : (t140.length : Int) < 1
              · rw [if_pos c18] at H
                have c18b0 : decide ((t140.length : Int) < 1) = true := decide_eq_true c18
                have c18b1 : decide (t140.length < 1) = true := decide_eq_true (by omega)
                clear c18
                have H' := Aside0.mk H
                clear H
                obtain ⟨Ao19, co19, eo19⟩ := Kd.V_slice HO_8.out
                subst eo19
                go_wp2
                go_meet
                case rel => exact ⟨_, (true), (by first | rfl | (simp; done) | (simp [*]; done)), H', ⟨by have := HJ7.out; first | omega | exact Nat.le_refl _⟩, ⟨by (with_reducible repeat (first | apply Kd.V_alloc | apply Kd.V_drewN | apply Kd.V_drew)); exact HO_8.out⟩, ⟨by repeat (first | (with_reducible first | exact HB.out | apply below_alloc | apply pw_below_drewN | apply below_drew1) | exact HB.out)⟩⟩
              · rw [if_neg c18] at H
                have c18b0 : decide ((t140.length : Int) < 1) = false := decide_eq_false c18
                have c18b1 : decide (t140.length < 1) = false := decide_eq_false (by omega)
                clear c18
                have H' := Aside0.mk H
                clear H
                obtain ⟨Ao20, co20, eo20⟩ := Kd.V_slice HO_8.out
                subst eo20
                go_wp2
                go_meet
                case rel => exact ⟨_, (decide ((t140.length : Int) > 7)), (by first | rfl | (simp; done) | (simp [*]; done)), H', ⟨by have := HJ7.out; first | omega | exact Nat.le_refl _⟩, ⟨by (with_reducible repeat (first | apply Kd.V_alloc | apply Kd.V_drewN | apply Kd.V_drew)); exact HO_8.out⟩, ⟨by repeat (first | (with_reducible first | exact HB.out | apply below_alloc | apply pw_below_drewN | apply below_drew1) | exact HB.out)⟩⟩
            · rw [if_neg c17] at H
              have c17b0 : (t143 == 0) = false := beq_eq_false_iff_ne.mpr c17
              have c17b1 : (t143 != 0) = true := bne_iff_ne.mpr c17
              (first | rw [c17b0] | (simp only [i64_w, i32_w]; rw [c17b0]) | skip)
              have H' := Aside0.mk H
              clear H
              go_wp2
              go_meet
              case rel => exact ⟨_, (true), (by first | rfl | (simp; done) | (simp [*]; done)), H', ⟨by have := HJ7.out; first | omega | exact Nat.le_refl _⟩, ⟨by (with_reducible repeat (first | apply Kd.V_alloc | apply Kd.V_drewN | apply Kd.V_drew)); exact HO_8.out⟩, ⟨by repeat (first | (with_reducible first | exact HB.out | apply below_alloc | apply pw_below_drewN | apply below_drew1) | exact HB.out)⟩⟩
          case rest =>
            clear HC16
            try clear c1
            try clear c2
            try clear p2
            try clear c5
            try clear c5b0
            try clear c5b1
            try clear c10
            try clear c11
            try clear c11b0
            try clear c12
            try clear c13
            try clear c14
            try clear c14b0
            try clear c14b1
            try clear c17
            try clear c17b0
            try clear c17b1
            try clear c18
            try clear c18b0
            try clear c18b1
            try clear c20
            try clear p2
            obtain ⟨kq, x53_15, rfl, HA, HJ15, HO_8, HB⟩ := hcut
            cases kq with
            | zero => exact absurd HA.out (by simp [serinettelaw03_NumberBack.j1])
            | succ kj15 =>
              have H := HA.out
              clear HA
              simp only [serinettelaw03_NumberBack.j1] at H
              by_cases c21 : x53_15 = true
              · subst c21
                have H1 : (some false) = some r := by rw [if_pos rfl] at H; exact H
                clear H
                have H := H1
                clear H1
                obtain rfl := Option.some.inj H
                go_wp2
                go_ret
                exact ⟨by first | rfl | (simp [errW_none, errW_some] <;> rfl) | (simp [*, errW_none, errW_some] <;> rfl), by repeat (first | (with_reducible first | exact HB.out | apply below_alloc | apply pw_below_drewN | apply below_drew1) | exact HB.out)⟩
              · replace c21 := Bool.eq_false_iff.mpr c21
                subst c21
                have H1 : ((some (([] : List Int) : List Int)).bind fun y144 => (if y144.length + t140.length < 140737488355328 then ((some (y144 ++ t140 : List Int)).bind fun y147 => (if y147.length + l1.length < 140737488355328 then ((number_Decode.f kj15 (y147 ++ l1)).bind fun bt153 => (if (t140.length : Int) = 0 then (none) else (if 0 ≤ (Int.tmod (wrap64 (a2)) (t140.length : Int)) then (if (Int.tmod (wrap64 (a2)) (t140.length : Int)) ≤ (t140.length : Int) then ((number_Decode.f kj15 (t140.take ((Int.tmod (wrap64 (a2)) (t140.length : Int)) : Int).toNat)).bind fun bt161 => (if t139 = true then (if bt153.2.2 = 0 then (if bt153.1 = a0 then (if bt153.2.1 = (t140.length : Int) then ((number_Size.f kj15 a0).bind fun t164 => (if bt153.2.1 = t164 then (some (bt161.2.2 == 2)) else (some false))) else (some false)) else (some false)) else (some false)) else (some false))) else (none)) else (none)))) else (none))) else (none))) = some r := by rw [if_neg (show ¬ (false = true) by decide)] at H; exact H
                clear H
                have H := H1
                clear H1
                obtain ⟨y144, hy144⟩ : ∃ y_ : List Int, y_ = (([] : List Int)) := ⟨_, rfl⟩
                replace H : (if y144.length + t140.length < 140737488355328 then ((some (y144 ++ t140 : List Int)).bind fun y147 => (if y147.length + l1.length < 140737488355328 then ((number_Decode.f kj15 (y147 ++ l1)).bind fun bt153 => (if (t140.length : Int) = 0 then (none) else (if 0 ≤ (Int.tmod (wrap64 (a2)) (t140.length : Int)) then (if (Int.tmod (wrap64 (a2)) (t140.length : Int)) ≤ (t140.length : Int) then ((number_Decode.f kj15 (t140.take ((Int.tmod (wrap64 (a2)) (t140.length : Int)) : Int).toNat)).bind fun bt161 => (if t139 = true then (if bt153.2.2 = 0 then (if bt153.1 = a0 then (if bt153.2.1 = (t140.length : Int) then ((number_Size.f kj15 a0).bind fun t164 => (if bt153.2.1 = t164 then (some (bt161.2.2 == 2)) else (some false))) else (some false)) else (some false)) else (some false)) else (some false))) else (none)) else (none)))) else (none))) else (none)) = some r := by first | (rw [hy144]; with_reducible exact H) | (have H2_ := (Option.bind_some _ _).symm.trans H; rw [hy144]; with_reducible exact H2_) | (have H2_ := (Option.bind_some _ _).symm.trans H; with_reducible exact H2_) | with_reducible exact H | (rw [hy144]; exact H) | exact H
                have Ny144 := Aside0.mk hy144
                clear hy144
                by_cases c22 : y144.length + t140.length < 140737488355328
                · rw [if_pos c22] at H
                  have LMc22 := Aside0.mk c22
                  clear c22
                  obtain ⟨y147, hy147⟩ : ∃ y_ : List Int, y_ = (y144 ++ t140) := ⟨_, rfl⟩
                  replace H : (if y147.length + l1.length < 140737488355328 then ((number_Decode.f kj15 (y147 ++ l1)).bind fun bt153 => (if (t140.length : Int) = 0 then (none) else (if 0 ≤ (Int.tmod (wrap64 (a2)) (t140.length : Int)) then (if (Int.tmod (wrap64 (a2)) (t140.length : Int)) ≤ (t140.length : Int) then ((number_Decode.f kj15 (t140.take ((Int.tmod (wrap64 (a2)) (t140.length : Int)) : Int).toNat)).bind fun bt161 => (if t139 = true then (if bt153.2.2 = 0 then (if bt153.1 = a0 then (if bt153.2.1 = (t140.length : Int) then ((number_Size.f kj15 a0).bind fun t164 => (if bt153.2.1 = t164 then (some (bt161.2.2 == 2)) else (some false))) else (some false)) else (some false)) else (some false)) else (some false))) else (none)) else (none)))) else (none)) = some r := by first | (rw [hy147]; with_reducible exact H) | (have H2_ := (Option.bind_some _ _).symm.trans H; rw [hy147]; with_reducible exact H2_) | (have H2_ := (Option.bind_some _ _).symm.trans H; with_reducible exact H2_) | with_reducible exact H | (rw [hy147]; exact H) | exact H
                  have Ny147 := Aside0.mk hy147
                  clear hy147
                  by_cases c23 : y147.length + l1.length < 140737488355328
                  · rw [if_pos c23] at H
                    have LMc23 := Aside0.mk c23
                    clear c23
                    obtain ⟨y150, hy150⟩ : ∃ y_ : List Int, y_ = (y147 ++ l1) := ⟨_, rfl⟩
                    replace H : ((number_Decode.f kj15 y150).bind fun bt153 => (if (t140.length : Int) = 0 then (none) else (if 0 ≤ (Int.tmod (wrap64 (a2)) (t140.length : Int)) then (if (Int.tmod (wrap64 (a2)) (t140.length : Int)) ≤ (t140.length : Int) then ((number_Decode.f kj15 (t140.take ((Int.tmod (wrap64 (a2)) (t140.length : Int)) : Int).toNat)).bind fun bt161 => (if t139 = true then (if bt153.2.2 = 0 then (if bt153.1 = a0 then (if bt153.2.1 = (t140.length : Int) then ((number_Size.f kj15 a0).bind fun t164 => (if bt153.2.1 = t164 then (some (bt161.2.2 == 2)) else (some false))) else (some false)) else (some false)) else (some false)) else (some false))) else (none)) else (none)))) = some r := by first | (rw [hy150]; with_reducible exact H) | (have H2_ := (Option.bind_some _ _).symm.trans H; rw [hy150]; with_reducible exact H2_) | (have H2_ := (Option.bind_some _ _).symm.trans H; with_reducible exact H2_) | with_reducible exact H | (rw [hy150]; exact H) | exact H
                    have Ny150 := Aside0.mk hy150
                    clear hy150
                    replace H := Option.bind_eq_some_iff.mp H
                    obtain ⟨⟨t153, t154, t155⟩, A240, H⟩ := H
                    replace H : (if (t140.length : Int) = 0 then (none) else (if 0 ≤ (Int.tmod (wrap64 (a2)) (t140.length : Int)) then (if (Int.tmod (wrap64 (a2)) (t140.length : Int)) ≤ (t140.length : Int) then ((number_Decode.f kj15 (t140.take ((Int.tmod (wrap64 (a2)) (t140.length : Int)) : Int).toNat)).bind fun bt161 => (if t139 = true then (if t155 = 0 then (if t153 = a0 then (if t154 = (t140.length : Int) then ((number_Size.f kj15 a0).bind fun t164 => (if t154 = t164 then (some (bt161.2.2 == 2)) else (some false))) else (some false)) else (some false)) else (some false)) else (some false))) else (none)) else (none))) = some r := H
                    have A24 := Aside0.mk A240
                    clear A240
                    by_cases c25 : (t140.length : Int) = 0
                    · rw [if_pos c25] at H
                      exact absurd H (by simp)
                    · rw [if_neg c25] at H
                      have c25b0 : ((t140.length : Int) == 0) = false := beq_eq_false_iff_ne.mpr c25
                      have c25b1 : ((t140.length : Int) != 0) = true := bne_iff_ne.mpr c25
                      have c25b2 : ¬ (t140 = []) := fun h_ => c25 (by rw [h_]; rfl)
                      obtain ⟨ji26, hji26⟩ : ∃ j_ : Int, (Int.tmod (wrap64 (a2)) (t140.length : Int)) = j_ := ⟨_, rfl⟩
                      replace H : (if 0 ≤ (ji26) then (if (ji26) ≤ (t140.length : Int) then ((number_Decode.f kj15 (t140.take ((ji26) : Int).toNat)).bind fun bt161 => (if t139 = true then (if t155 = 0 then (if t153 = a0 then (if t154 = (t140.length : Int) then ((number_Size.f kj15 a0).bind fun t164 => (if t154 = t164 then (some (bt161.2.2 == 2)) else (some false))) else (some false)) else (some false)) else (some false)) else (some false))) else (none)) else (none)) = some r := by first | (rw [hji26] at H; exact H) | (simp only [hji26] at H ⊢; exact H)
                      (try rw [hji26] at A24)
                      by_cases c27 : 0 ≤ (ji26)
                      · rw [if_pos c27] at H
                        have c27b0 := eq_true c27
                        have c27b1 : decide (0 ≤ (ji26)) = true := decide_eq_true c27
                        clear c27
                        by_cases c28 : (ji26) ≤ (t140.length : Int)
                        · rw [if_pos c28] at H
                          have c28b0 := eq_true c28
                          have c28b1 : decide ((ji26) ≤ (t140.length : Int)) = true := decide_eq_true c28
                          clear c28
                          obtain ⟨y156, hy156⟩ : ∃ y_ : List Int, y_ = (t140.take ((ji26) : Int).toNat) := ⟨_, rfl⟩
                          replace H : ((number_Decode.f kj15 y156).bind fun bt161 => (if t139 = true then (if t155 = 0 then (if t153 = a0 then (if t154 = (t140.length : Int) then ((number_Size.f kj15 a0).bind fun t164 => (if t154 = t164 then (some (bt161.2.2 == 2)) else (some false))) else (some false)) else (some false)) else (some false)) else (some false))) = some r := by first | (rw [hy156]; with_reducible exact H) | (have H2_ := (Option.bind_some _ _).symm.trans H; rw [hy156]; with_reducible exact H2_) | (have H2_ := (Option.bind_some _ _).symm.trans H; with_reducible exact H2_) | with_reducible exact H | (rw [hy156]; exact H) | exact H
                          have Ny156 := Aside0.mk hy156
                          clear hy156
                          replace H := Option.bind_eq_some_iff.mp H
                          obtain ⟨⟨t161, t162, t163⟩, A290, H⟩ := H
                          replace H : (if t139 = true then (if t155 = 0 then (if t153 = a0 then (if t154 = (t140.length : Int) then ((number_Size.f kj15 a0).bind fun t164 => (if t154 = t164 then (some (t163 == 2)) else (some false))) else (some false)) else (some false)) else (some false)) else (some false)) = some r := H
                          have A29 := Aside0.mk A290
                          clear A290
                          by_cases c30 : t139 = true
                          · subst c30
                            have H1 : (if t155 = 0 then (if t153 = a0 then (if t154 = (t140.length : Int) then ((number_Size.f kj15 a0).bind fun t164 => (if t154 = t164 then (some (t163 == 2)) else (some false))) else (some false)) else (some false)) else (some false)) = some r := by rw [if_pos rfl] at H; exact H
                            clear H
                            have H := H1
                            clear H1
                            by_cases c31 : t155 = 0
                            · rw [if_pos c31] at H
                              have c31b0 : (t155 == 0) = true := beq_iff_eq.mpr c31
                              have c31b1 : (t155 != 0) = false := bne_eq_false_iff_eq.mpr c31
                              clear c31
                              by_cases c32 : t153 = a0
                              · rw [if_pos c32] at H
                                have c32b0 : (t153 == a0) = true := beq_iff_eq.mpr c32
                                have c32b1 : (t153 != a0) = false := bne_eq_false_iff_eq.mpr c32
                                clear c32
                                by_cases c33 : t154 = (t140.length : Int)
                                · rw [if_pos c33] at H
                                  have c33b0 : (t154 == (t140.length : Int)) = true := beq_iff_eq.mpr c33
                                  have c33b1 : (t154 != (t140.length : Int)) = false := bne_eq_false_iff_eq.mpr c33
                                  clear c33
                                  replace H := Option.bind_eq_some_iff.mp H
                                  obtain ⟨t164, A340, H⟩ := H
                                  replace H : (if t154 = t164 then (some (t163 == 2)) else (some false)) = some r := H
                                  have A34 := Aside0.mk A340
                                  clear A340
                                  by_cases c35 : t154 = t164
                                  · rw [if_pos c35] at H
                                    have c35b0 : (t154 == t164) = true := beq_iff_eq.mpr c35
                                    have c35b1 : (t154 != t164) = false := bne_eq_false_iff_eq.mpr c35
                                    clear c35
                                    obtain rfl := Option.some.inj H
                                    go_wp2_with (first | ((with_reducible refine gate_dst (N := 55) rfl ?_); (try (refine gate_guard (by rfl) ?_; dsimp only)); refine Kd.R_lit (Kd.int .u8) _ 5 ?hg (N := 55) ?hd (xs := ([] : List Int)) (inner := []) (ok := fun _ => True) (okp := fun _ => True) ?hr ?hp (fun _ hk => hk) trivial (Below.refl _ _) (Nat.le_refl _) (by simp) ?_; (case hd => rfl); (case hg => rfl); (case hr => first | (go_simp; done) | (go_simp; rfl)); (case hp => exact (Reps.none _ _)); intro v145 w36 ho37 hb hg_ hnew_; clear hg_ hnew_; (first | rw [← Ny144.out] at ho37 | (simp only [Int.reduceToNat] at ho37; rw [← Ny144.out] at ho37)); have n0_ := Aside0.mk (Kd.V_elder' (by (with_reducible repeat (first | apply Kd.V_alloc | apply Kd.V_drewN | apply Kd.V_drew)); exact HO_8.out) (Kd.R_base ho37) hb); have n1_ := Aside0.mk (Kd.R_lower ho37 (below_size (by repeat (first | (with_reducible first | exact HB.out | apply below_alloc | apply pw_below_drewN | apply below_drew1) | exact HB.out)))); have n2_ := Aside0.mk (below_step (by repeat (first | (with_reducible first | exact HB.out | apply below_alloc | apply pw_below_drewN | apply below_drew1) | exact HB.out)) hb); clear HO_8; clear HB; have HO_8 := n0_; have HO146 := n1_; have HB := n2_; clear n0_ n1_ n2_; clear hb ho37; obtain ⟨Ao39, co39, eo39⟩ := Kd.V_slice HO_8.out; subst eo39) | ((with_reducible refine gate_builtin (b := .append) (xs := #[.tmp 55, .tmp 56]) rfl ?_); (try (refine gate_guard (by rfl) ?_; dsimp only)); at_builtin; refine Kd.R_append_rows (Kd.int .u8) (w0 := w) w.heap.size rfl (.tmp 55) (.tmp 56) 31 5 (.int .u8 0) 1 rfl Try.underlying31 info5 rfl (by decide) (by omega) v145 y144 t140 _ _ _ (fun _ => True) (fun _ => False) rfl rfl ?aO ?aR (fun _ _ h => h) (fun _ h => h.elim) ?aF ?aB ?aS ?aL ?_; (case aR => repeat (first | exact (Kd.V_reads' HO_8.out).2.2 | (with_reducible refine Kd.C_alloc ?_ _) | (with_reducible refine Kd.C_drewN ?_ _) | (with_reducible refine Kd.C_drew ?_))); (case aB => exact (by repeat (first | (with_reducible first | exact HB.out | apply below_alloc | apply pw_below_drewN | apply below_drew1) | exact HB.out))); (case aF => exact (fun _ _ => trivial)); (case aO => exact (by (with_reducible repeat (first | apply Kd.R_alloc | apply Kd.R_drewN | apply Kd.R_drew)); exact HO146.out)); (case aS => exact (below_size (by repeat (first | (with_reducible first | exact HB.out | apply below_alloc | apply pw_below_drewN | apply below_drew1) | exact HB.out)))); (case aL => have := LMc22.out; omega); intro v148 w38 ho hb hg hat; rw [← Ny147.out] at ho; have n0_ := Aside0.mk (Kd.V_afterv (ok := (fun _ => True)) (by (with_reducible repeat (first | apply Kd.V_alloc | apply Kd.V_drewN | apply Kd.V_drew)); exact HO_8.out) hg hat); have n1_ := Aside0.mk (hb); have n2_ := Aside0.mk (ho); clear HO_8; clear HB; clear HO146; have HO_8 := n0_; have HB := n1_; have HO149 := n2_; clear n0_ n1_ n2_; clear ho hb hg hat) | ((with_reducible refine gate_builtin (b := .append) (xs := #[.tmp 57, .tmp 58]) rfl ?_); (try (refine gate_guard (by rfl) ?_; dsimp only)); at_builtin; refine Kd.R_append_rows (Kd.int .u8) (w0 := w) w.heap.size rfl (.tmp 57) (.tmp 58) 31 5 (.int .u8 0) 1 rfl Try.underlying31 info5 rfl (by decide) (by omega) v148 y147 l1 _ _ _ (fun _ => True) (fun _ => False) rfl rfl ?aO ?aR (fun _ _ h => h) (fun _ h => h.elim) ?aF ?aB ?aS ?aL ?_; (case aR => repeat (first | exact (Kd.C_below HR1.out HB.out) | (with_reducible refine Kd.C_alloc ?_ _) | (with_reducible refine Kd.C_drewN ?_ _) | (with_reducible refine Kd.C_drew ?_))); (case aB => exact (by repeat (first | (with_reducible first | exact HB.out | apply below_alloc | apply pw_below_drewN | apply below_drew1) | exact HB.out))); (case aF => exact (fun _ _ => trivial)); (case aO => exact (by (with_reducible repeat (first | apply Kd.R_alloc | apply Kd.R_drewN | apply Kd.R_drew)); exact HO149.out)); (case aS => exact (below_size (by repeat (first | (with_reducible first | exact HB.out | apply below_alloc | apply pw_below_drewN | apply below_drew1) | exact HB.out)))); (case aL => have := LMc23.out; omega); intro v151 w40 ho hb hg hat; rw [← Ny150.out] at ho; have n0_ := Aside0.mk (Kd.V_afterv (ok := (fun _ => True)) (by (with_reducible repeat (first | apply Kd.V_alloc | apply Kd.V_drewN | apply Kd.V_drew)); exact HO_8.out) hg hat); have n1_ := Aside0.mk (hb); have n2_ := Aside0.mk (ho); clear HO_8; clear HB; clear HO149; have HO_8 := n0_; have HB := n1_; have HO152 := n2_; clear n0_ n1_ n2_; clear ho hb hg hat; obtain ⟨Ao41, co41, eo41⟩ := Kd.R_slice HO152.out; subst eo41) | ((with_reducible refine gate_callee (f := 35) rfl ?_); refine goesL_ (some 60) rfl rfl Try.func35 (by kernel_rfl) rfl #[.slice Ao41 y150.length co41] rfl (by (try simp only [List.map_toArray, List.map_cons, List.map_nil]); first | done | rfl | (simp only [List.length_drop, List.length_take]; rfl)) ?_; (with_reducible refine (number_Decode.calls kj15 _ _ y150 t153 t154 t155 _ ?side1 ?side2 A24.out).mono ?_); (case side1 => repeat (first | exact (Kd.R_reads' HO152.out).2.2 | (with_reducible refine Kd.C_alloc ?_ _) | (with_reducible refine Kd.C_drewN ?_ _) | (with_reducible refine Kd.C_drew ?_))); (case side2 => exact (Kd.R_reads' HO152.out).2.1); rintro e w' ⟨rfl, ⟨nd, rfl⟩⟩; refine ⟨_, rfl, ?_⟩; have q42 : ((ji26) : Int) ≤ ((t140.length : Int) : Int) := of_decide_eq_true (by first | (with_reducible assumption) | assumption); obtain ⟨i042, hi042, _, hsz42, _⟩ := info_parts info5; have hroom42 : t140.length ≤ co39 := (Kd.V_reads' HO_8.out).2.1; have hC42 : Kd.F (Kd.int .u8) _ _ Ao39 t140.length t140 := (Kd.V_at (base := w.heap.size) HO_8.out).2.2; have hcut42 := cut_to (P := Try.prog) 31 5 .i64 Try.underlying31 hi042 Ao39 t140.length co39 (ji26) (of_decide_eq_true (by first | (with_reducible assumption) | assumption)) q42 hroom42; have hr42 := Kd.F_take (m := ((ji26) : Int).toNat) hC42 (by omega); have hy42 : y156.length = ((ji26) : Int).toNat := (by rw [Ny156.out, List.length_take]; omega); rw [← Ny156.out] at hr42; rw [← hy42] at hcut42; have HO160 := Aside0.mk (show Kd.V (Kd.int .u8) 5 _ w.heap.size _ (.slice Ao39 y156.length co39) y156 from Kd.V_mk (by omega) hr42); have HC160 := Aside0.mk (show y156.length ≤ co39 from by omega); clear hr42 hC42 hroom42 hi042 hsz42; have KY42 := Aside0.mk hy42; clear hy42; replace q42 := eq_true q42) | ((with_reducible refine gate_callee (f := 35) rfl ?_); refine goesL_ (some 72) rfl rfl Try.func35 (by kernel_rfl) rfl #[.slice Ao39 y156.length co39] rfl (by (try simp only [List.map_toArray, List.map_cons, List.map_nil]); first | done | rfl | (simp only [List.length_drop, List.length_take]; rfl)) ?_; (with_reducible refine (number_Decode.calls kj15 _ _ y156 t161 t162 t163 _ ?side1 ?side2 A29.out).mono ?_); (case side1 => repeat (first | exact (Kd.V_reads' HO160.out).2.2 | (with_reducible refine Kd.C_alloc ?_ _) | (with_reducible refine Kd.C_drewN ?_ _) | (with_reducible refine Kd.C_drew ?_))); (case side2 => exact (Kd.V_reads' HO160.out).2.1); rintro e w' ⟨rfl, ⟨nd, rfl⟩⟩; refine ⟨_, rfl, ?_⟩) | (go_at_call 22; (with_reducible refine (number_Size.calls kj15 a0 t164 _ A34.out).mono ?_); rintro e w' ⟨rfl, ⟨nd, rfl⟩⟩))
                                    go_ret
                                    exact ⟨by first | rfl | (simp [errW_none, errW_some] <;> rfl) | (simp only [← hji26]; first | rfl | (simp [errW_none, errW_some] <;> rfl)) | (simp [*, errW_none, errW_some] <;> rfl), by repeat (first | (with_reducible first | exact HB.out | apply below_alloc | apply pw_below_drewN | apply below_drew1) | exact HB.out)⟩
                                  · rw [if_neg c35] at H
                                    have c35b0 : (t154 == t164) = false := beq_eq_false_iff_ne.mpr c35
                                    have c35b1 : (t154 != t164) = true := bne_iff_ne.mpr c35
                                    obtain rfl := Option.some.inj H
                                    go_wp2_with (first | ((with_reducible refine gate_dst (N := 55) rfl ?_); (try (refine gate_guard (by rfl) ?_; dsimp only)); refine Kd.R_lit (Kd.int .u8) _ 5 ?hg (N := 55) ?hd (xs := ([] : List Int)) (inner := []) (ok := fun _ => True) (okp := fun _ => True) ?hr ?hp (fun _ hk => hk) trivial (Below.refl _ _) (Nat.le_refl _) (by simp) ?_; (case hd => rfl); (case hg => rfl); (case hr => first | (go_simp; done) | (go_simp; rfl)); (case hp => exact (Reps.none _ _)); intro v145 w43 ho44 hb hg_ hnew_; clear hg_ hnew_; (first | rw [← Ny144.out] at ho44 | (simp only [Int.reduceToNat] at ho44; rw [← Ny144.out] at ho44)); have n0_ := Aside0.mk (Kd.V_elder' (by (with_reducible repeat (first | apply Kd.V_alloc | apply Kd.V_drewN | apply Kd.V_drew)); exact HO_8.out) (Kd.R_base ho44) hb); have n1_ := Aside0.mk (Kd.R_lower ho44 (below_size (by repeat (first | (with_reducible first | exact HB.out | apply below_alloc | apply pw_below_drewN | apply below_drew1) | exact HB.out)))); have n2_ := Aside0.mk (below_step (by repeat (first | (with_reducible first | exact HB.out | apply below_alloc | apply pw_below_drewN | apply below_drew1) | exact HB.out)) hb); clear HO_8; clear HB; have HO_8 := n0_; have HO146 := n1_; have HB := n2_; clear n0_ n1_ n2_; clear hb ho44; obtain ⟨Ao46, co46, eo46⟩ := Kd.V_slice HO_8.out; subst eo46) | ((with_reducible refine gate_builtin (b := .append) (xs := #[.tmp 55, .tmp 56]) rfl ?_); (try (refine gate_guard (by rfl) ?_; dsimp only)); at_builtin; refine Kd.R_append_rows (Kd.int .u8) (w0 := w) w.heap.size rfl (.tmp 55) (.tmp 56) 31 5 (.int .u8 0) 1 rfl Try.underlying31 info5 rfl (by decide) (by omega) v145 y144 t140 _ _ _ (fun _ => True) (fun _ => False) rfl rfl ?aO ?aR (fun _ _ h => h) (fun _ h => h.elim) ?aF ?aB ?aS ?aL ?_; (case aR => repeat (first | exact (Kd.V_reads' HO_8.out).2.2 | (with_reducible refine Kd.C_alloc ?_ _) | (with_reducible refine Kd.C_drewN ?_ _) | (with_reducible refine Kd.C_drew ?_))); (case aB => exact (by repeat (first | (with_reducible first | exact HB.out | apply below_alloc | apply pw_below_drewN | apply below_drew1) | exact HB.out))); (case aF => exact (fun _ _ => trivial)); (case aO => exact (by (with_reducible repeat (first | apply Kd.R_alloc | apply Kd.R_drewN | apply Kd.R_drew)); exact HO146.out)); (case aS => exact (below_size (by repeat (first | (with_reducible first | exact HB.out | apply below_alloc | apply pw_below_drewN | apply below_drew1) | exact HB.out)))); (case aL => have := LMc22.out; omega); intro v148 w45 ho hb hg hat; rw [← Ny147.out] at ho; have n0_ := Aside0.mk (Kd.V_afterv (ok := (fun _ => True)) (by (with_reducible repeat (first | apply Kd.V_alloc | apply Kd.V_drewN | apply Kd.V_drew)); exact HO_8.out) hg hat); have n1_ := Aside0.mk (hb); have n2_ := Aside0.mk (ho); clear HO_8; clear HB; clear HO146; have HO_8 := n0_; have HB := n1_; have HO149 := n2_; clear n0_ n1_ n2_; clear ho hb hg hat) | ((with_reducible refine gate_builtin (b := .append) (xs := #[.tmp 57, .tmp 58]) rfl ?_); (try (refine gate_guard (by rfl) ?_; dsimp only)); at_builtin; refine Kd.R_append_rows (Kd.int .u8) (w0 := w) w.heap.size rfl (.tmp 57) (.tmp 58) 31 5 (.int .u8 0) 1 rfl Try.underlying31 info5 rfl (by decide) (by omega) v148 y147 l1 _ _ _ (fun _ => True) (fun _ => False) rfl rfl ?aO ?aR (fun _ _ h => h) (fun _ h => h.elim) ?aF ?aB ?aS ?aL ?_; (case aR => repeat (first | exact (Kd.C_below HR1.out HB.out) | (with_reducible refine Kd.C_alloc ?_ _) | (with_reducible refine Kd.C_drewN ?_ _) | (with_reducible refine Kd.C_drew ?_))); (case aB => exact (by repeat (first | (with_reducible first | exact HB.out | apply below_alloc | apply pw_below_drewN | apply below_drew1) | exact HB.out))); (case aF => exact (fun _ _ => trivial)); (case aO => exact (by (with_reducible repeat (first | apply Kd.R_alloc | apply Kd.R_drewN | apply Kd.R_drew)); exact HO149.out)); (case aS => exact (below_size (by repeat (first | (with_reducible first | exact HB.out | apply below_alloc | apply pw_below_drewN | apply below_drew1) | exact HB.out)))); (case aL => have := LMc23.out; omega); intro v151 w47 ho hb hg hat; rw [← Ny150.out] at ho; have n0_ := Aside0.mk (Kd.V_afterv (ok := (fun _ => True)) (by (with_reducible repeat (first | apply Kd.V_alloc | apply Kd.V_drewN | apply Kd.V_drew)); exact HO_8.out) hg hat); have n1_ := Aside0.mk (hb); have n2_ := Aside0.mk (ho); clear HO_8; clear HB; clear HO149; have HO_8 := n0_; have HB := n1_; have HO152 := n2_; clear n0_ n1_ n2_; clear ho hb hg hat; obtain ⟨Ao48, co48, eo48⟩ := Kd.R_slice HO152.out; subst eo48) | ((with_reducible refine gate_callee (f := 35) rfl ?_); refine goesL_ (some 60) rfl rfl Try.func35 (by kernel_rfl) rfl #[.slice Ao48 y150.length co48] rfl (by (try simp only [List.map_toArray, List.map_cons, List.map_nil]); first | done | rfl | (simp only [List.length_drop, List.length_take]; rfl)) ?_; (with_reducible refine (number_Decode.calls kj15 _ _ y150 t153 t154 t155 _ ?side1 ?side2 A24.out).mono ?_); (case side1 => repeat (first | exact (Kd.R_reads' HO152.out).2.2 | (with_reducible refine Kd.C_alloc ?_ _) | (with_reducible refine Kd.C_drewN ?_ _) | (with_reducible refine Kd.C_drew ?_))); (case side2 => exact (Kd.R_reads' HO152.out).2.1); rintro e w' ⟨rfl, ⟨nd, rfl⟩⟩; refine ⟨_, rfl, ?_⟩; have q49 : ((ji26) : Int) ≤ ((t140.length : Int) : Int) := of_decide_eq_true (by first | (with_reducible assumption) | assumption); obtain ⟨i049, hi049, _, hsz49, _⟩ := info_parts info5; have hroom49 : t140.length ≤ co46 := (Kd.V_reads' HO_8.out).2.1; have hC49 : Kd.F (Kd.int .u8) _ _ Ao46 t140.length t140 := (Kd.V_at (base := w.heap.size) HO_8.out).2.2; have hcut49 := cut_to (P := Try.prog) 31 5 .i64 Try.underlying31 hi049 Ao46 t140.length co46 (ji26) (of_decide_eq_true (by first | (with_reducible assumption) | assumption)) q49 hroom49; have hr49 := Kd.F_take (m := ((ji26) : Int).toNat) hC49 (by omega); have hy49 : y156.length = ((ji26) : Int).toNat := (by rw [Ny156.out, List.length_take]; omega); rw [← Ny156.out] at hr49; rw [← hy49] at hcut49; have HO160 := Aside0.mk (show Kd.V (Kd.int .u8) 5 _ w.heap.size _ (.slice Ao46 y156.length co46) y156 from Kd.V_mk (by omega) hr49); have HC160 := Aside0.mk (show y156.length ≤ co46 from by omega); clear hr49 hC49 hroom49 hi049 hsz49; have KY49 := Aside0.mk hy49; clear hy49; replace q49 := eq_true q49) | ((with_reducible refine gate_callee (f := 35) rfl ?_); refine goesL_ (some 72) rfl rfl Try.func35 (by kernel_rfl) rfl #[.slice Ao46 y156.length co46] rfl (by (try simp only [List.map_toArray, List.map_cons, List.map_nil]); first | done | rfl | (simp only [List.length_drop, List.length_take]; rfl)) ?_; (with_reducible refine (number_Decode.calls kj15 _ _ y156 t161 t162 t163 _ ?side1 ?side2 A29.out).mono ?_); (case side1 => repeat (first | exact (Kd.V_reads' HO160.out).2.2 | (with_reducible refine Kd.C_alloc ?_ _) | (with_reducible refine Kd.C_drewN ?_ _) | (with_reducible refine Kd.C_drew ?_))); (case side2 => exact (Kd.V_reads' HO160.out).2.1); rintro e w' ⟨rfl, ⟨nd, rfl⟩⟩; refine ⟨_, rfl, ?_⟩) | (go_at_call 22; (with_reducible refine (number_Size.calls kj15 a0 t164 _ A34.out).mono ?_); rintro e w' ⟨rfl, ⟨nd, rfl⟩⟩))
                                    go_ret
                                    exact ⟨by first | rfl | (simp [errW_none, errW_some] <;> rfl) | (simp only [← hji26]; first | rfl | (simp [errW_none, errW_some] <;> rfl)) | (simp [*, errW_none, errW_some] <;> rfl), by repeat (first | (with_reducible first | exact HB.out | apply below_alloc | apply pw_below_drewN | apply below_drew1) | exact HB.out)⟩
                                · rw [if_neg c33] at H
                                  have c33b0 : (t154 == (t140.length : Int)) = false := beq_eq_false_iff_ne.mpr c33
                                  have c33b1 : (t154 != (t140.length : Int)) = true := bne_iff_ne.mpr c33
                                  obtain rfl := Option.some.inj H
                                  go_wp2_with (first | ((with_reducible refine gate_dst (N := 55) rfl ?_); (try (refine gate_guard (by rfl) ?_; dsimp only)); refine Kd.R_lit (Kd.int .u8) _ 5 ?hg (N := 55) ?hd (xs := ([] : List Int)) (inner := []) (ok := fun _ => True) (okp := fun _ => True) ?hr ?hp (fun _ hk => hk) trivial (Below.refl _ _) (Nat.le_refl _) (by simp) ?_; (case hd => rfl); (case hg => rfl); (case hr => first | (go_simp; done) | (go_simp; rfl)); (case hp => exact (Reps.none _ _)); intro v145 w50 ho51 hb hg_ hnew_; clear hg_ hnew_; (first | rw [← Ny144.out] at ho51 | (simp only [Int.reduceToNat] at ho51; rw [← Ny144.out] at ho51)); have n0_ := Aside0.mk (Kd.V_elder' (by (with_reducible repeat (first | apply Kd.V_alloc | apply Kd.V_drewN | apply Kd.V_drew)); exact HO_8.out) (Kd.R_base ho51) hb); have n1_ := Aside0.mk (Kd.R_lower ho51 (below_size (by repeat (first | (with_reducible first | exact HB.out | apply below_alloc | apply pw_below_drewN | apply below_drew1) | exact HB.out)))); have n2_ := Aside0.mk (below_step (by repeat (first | (with_reducible first | exact HB.out | apply below_alloc | apply pw_below_drewN | apply below_drew1) | exact HB.out)) hb); clear HO_8; clear HB; have HO_8 := n0_; have HO146 := n1_; have HB := n2_; clear n0_ n1_ n2_; clear hb ho51; obtain ⟨Ao53, co53, eo53⟩ := Kd.V_slice HO_8.out; subst eo53) | ((with_reducible refine gate_builtin (b := .append) (xs := #[.tmp 55, .tmp 56]) rfl ?_); (try (refine gate_guard (by rfl) ?_; dsimp only)); at_builtin; refine Kd.R_append_rows (Kd.int .u8) (w0 := w) w.heap.size rfl (.tmp 55) (.tmp 56) 31 5 (.int .u8 0) 1 rfl Try.underlying31 info5 rfl (by decide) (by omega) v145 y144 t140 _ _ _ (fun _ => True) (fun _ => False) rfl rfl ?aO ?aR (fun _ _ h => h) (fun _ h => h.elim) ?aF ?aB ?aS ?aL ?_; (case aR => repeat (first | exact (Kd.V_reads' HO_8.out).2.2 | (with_reducible refine Kd.C_alloc ?_ _) | (with_reducible refine Kd.C_drewN ?_ _) | (with_reducible refine Kd.C_drew ?_))); (case aB => exact (by repeat (first | (with_reducible first | exact HB.out | apply below_alloc | apply pw_below_drewN | apply below_drew1) | exact HB.out))); (case aF => exact (fun _ _ => trivial)); (case aO => exact (by (with_reducible repeat (first | apply Kd.R_alloc | apply Kd.R_drewN | apply Kd.R_drew)); exact HO146.out)); (case aS => exact (below_size (by repeat (first | (with_reducible first | exact HB.out | apply below_alloc | apply pw_below_drewN | apply below_drew1) | exact HB.out)))); (case aL => have := LMc22.out; omega); intro v148 w52 ho hb hg hat; rw [← Ny147.out] at ho; have n0_ := Aside0.mk (Kd.V_afterv (ok := (fun _ => True)) (by (with_reducible repeat (first | apply Kd.V_alloc | apply Kd.V_drewN | apply Kd.V_drew)); exact HO_8.out) hg hat); have n1_ := Aside0.mk (hb); have n2_ := Aside0.mk (ho); clear HO_8; clear HB; clear HO146; have HO_8 := n0_; have HB := n1_; have HO149 := n2_; clear n0_ n1_ n2_; clear ho hb hg hat) | ((with_reducible refine gate_builtin (b := .append) (xs := #[.tmp 57, .tmp 58]) rfl ?_); (try (refine gate_guard (by rfl) ?_; dsimp only)); at_builtin; refine Kd.R_append_rows (Kd.int .u8) (w0 := w) w.heap.size rfl (.tmp 57) (.tmp 58) 31 5 (.int .u8 0) 1 rfl Try.underlying31 info5 rfl (by decide) (by omega) v148 y147 l1 _ _ _ (fun _ => True) (fun _ => False) rfl rfl ?aO ?aR (fun _ _ h => h) (fun _ h => h.elim) ?aF ?aB ?aS ?aL ?_; (case aR => repeat (first | exact (Kd.C_below HR1.out HB.out) | (with_reducible refine Kd.C_alloc ?_ _) | (with_reducible refine Kd.C_drewN ?_ _) | (with_reducible refine Kd.C_drew ?_))); (case aB => exact (by repeat (first | (with_reducible first | exact HB.out | apply below_alloc | apply pw_below_drewN | apply below_drew1) | exact HB.out))); (case aF => exact (fun _ _ => trivial)); (case aO => exact (by (with_reducible repeat (first | apply Kd.R_alloc | apply Kd.R_drewN | apply Kd.R_drew)); exact HO149.out)); (case aS => exact (below_size (by repeat (first | (with_reducible first | exact HB.out | apply below_alloc | apply pw_below_drewN | apply below_drew1) | exact HB.out)))); (case aL => have := LMc23.out; omega); intro v151 w54 ho hb hg hat; rw [← Ny150.out] at ho; have n0_ := Aside0.mk (Kd.V_afterv (ok := (fun _ => True)) (by (with_reducible repeat (first | apply Kd.V_alloc | apply Kd.V_drewN | apply Kd.V_drew)); exact HO_8.out) hg hat); have n1_ := Aside0.mk (hb); have n2_ := Aside0.mk (ho); clear HO_8; clear HB; clear HO149; have HO_8 := n0_; have HB := n1_; have HO152 := n2_; clear n0_ n1_ n2_; clear ho hb hg hat; obtain ⟨Ao55, co55, eo55⟩ := Kd.R_slice HO152.out; subst eo55) | ((with_reducible refine gate_callee (f := 35) rfl ?_); refine goesL_ (some 60) rfl rfl Try.func35 (by kernel_rfl) rfl #[.slice Ao55 y150.length co55] rfl (by (try simp only [List.map_toArray, List.map_cons, List.map_nil]); first | done | rfl | (simp only [List.length_drop, List.length_take]; rfl)) ?_; (with_reducible refine (number_Decode.calls kj15 _ _ y150 t153 t154 t155 _ ?side1 ?side2 A24.out).mono ?_); (case side1 => repeat (first | exact (Kd.R_reads' HO152.out).2.2 | (with_reducible refine Kd.C_alloc ?_ _) | (with_reducible refine Kd.C_drewN ?_ _) | (with_reducible refine Kd.C_drew ?_))); (case side2 => exact (Kd.R_reads' HO152.out).2.1); rintro e w' ⟨rfl, ⟨nd, rfl⟩⟩; refine ⟨_, rfl, ?_⟩; have q56 : ((ji26) : Int) ≤ ((t140.length : Int) : Int) := of_decide_eq_true (by first | (with_reducible assumption) | assumption); obtain ⟨i056, hi056, _, hsz56, _⟩ := info_parts info5; have hroom56 : t140.length ≤ co53 := (Kd.V_reads' HO_8.out).2.1; have hC56 : Kd.F (Kd.int .u8) _ _ Ao53 t140.length t140 := (Kd.V_at (base := w.heap.size) HO_8.out).2.2; have hcut56 := cut_to (P := Try.prog) 31 5 .i64 Try.underlying31 hi056 Ao53 t140.length co53 (ji26) (of_decide_eq_true (by first | (with_reducible assumption) | assumption)) q56 hroom56; have hr56 := Kd.F_take (m := ((ji26) : Int).toNat) hC56 (by omega); have hy56 : y156.length = ((ji26) : Int).toNat := (by rw [Ny156.out, List.length_take]; omega); rw [← Ny156.out] at hr56; rw [← hy56] at hcut56; have HO160 := Aside0.mk (show Kd.V (Kd.int .u8) 5 _ w.heap.size _ (.slice Ao53 y156.length co53) y156 from Kd.V_mk (by omega) hr56); have HC160 := Aside0.mk (show y156.length ≤ co53 from by omega); clear hr56 hC56 hroom56 hi056 hsz56; have KY56 := Aside0.mk hy56; clear hy56; replace q56 := eq_true q56) | ((with_reducible refine gate_callee (f := 35) rfl ?_); refine goesL_ (some 72) rfl rfl Try.func35 (by kernel_rfl) rfl #[.slice Ao53 y156.length co53] rfl (by (try simp only [List.map_toArray, List.map_cons, List.map_nil]); first | done | rfl | (simp only [List.length_drop, List.length_take]; rfl)) ?_; (with_reducible refine (number_Decode.calls kj15 _ _ y156 t161 t162 t163 _ ?side1 ?side2 A29.out).mono ?_); (case side1 => repeat (first | exact (Kd.V_reads' HO160.out).2.2 | (with_reducible refine Kd.C_alloc ?_ _) | (with_reducible refine Kd.C_drewN ?_ _) | (with_reducible refine Kd.C_drew ?_))); (case side2 => exact (Kd.V_reads' HO160.out).2.1); rintro e w' ⟨rfl, ⟨nd, rfl⟩⟩; refine ⟨_, rfl, ?_⟩))
                                  go_ret
                                  exact ⟨by first | rfl | (simp [errW_none, errW_some] <;> rfl) | (simp only [← hji26]; first | rfl | (simp [errW_none, errW_some] <;> rfl)) | (simp [*, errW_none, errW_some] <;> rfl), by repeat (first | (with_reducible first | exact HB.out | apply below_alloc | apply pw_below_drewN | apply below_drew1) | exact HB.out)⟩
                              · rw [if_neg c32] at H
                                have c32b0 : (t153 == a0) = false := beq_eq_false_iff_ne.mpr c32
                                have c32b1 : (t153 != a0) = true := bne_iff_ne.mpr c32
                                obtain rfl := Option.some.inj H
                                go_wp2_with (first | ((with_reducible refine gate_dst (N := 55) rfl ?_); (try (refine gate_guard (by rfl) ?_; dsimp only)); refine Kd.R_lit (Kd.int .u8) _ 5 ?hg (N := 55) ?hd (xs := ([] : List Int)) (inner := []) (ok := fun _ => True) (okp := fun _ => True) ?hr ?hp (fun _ hk => hk) trivial (Below.refl _ _) (Nat.le_refl _) (by simp) ?_; (case hd => rfl); (case hg => rfl); (case hr => first | (go_simp; done) | (go_simp; rfl)); (case hp => exact (Reps.none _ _)); intro v145 w57 ho58 hb hg_ hnew_; clear hg_ hnew_; (first | rw [← Ny144.out] at ho58 | (simp only [Int.reduceToNat] at ho58; rw [← Ny144.out] at ho58)); have n0_ := Aside0.mk (Kd.V_elder' (by (with_reducible repeat (first | apply Kd.V_alloc | apply Kd.V_drewN | apply Kd.V_drew)); exact HO_8.out) (Kd.R_base ho58) hb); have n1_ := Aside0.mk (Kd.R_lower ho58 (below_size (by repeat (first | (with_reducible first | exact HB.out | apply below_alloc | apply pw_below_drewN | apply below_drew1) | exact HB.out)))); have n2_ := Aside0.mk (below_step (by repeat (first | (with_reducible first | exact HB.out | apply below_alloc | apply pw_below_drewN | apply below_drew1) | exact HB.out)) hb); clear HO_8; clear HB; have HO_8 := n0_; have HO146 := n1_; have HB := n2_; clear n0_ n1_ n2_; clear hb ho58; obtain ⟨Ao60, co60, eo60⟩ := Kd.V_slice HO_8.out; subst eo60) | ((with_reducible refine gate_builtin (b := .append) (xs := #[.tmp 55, .tmp 56]) rfl ?_); (try (refine gate_guard (by rfl) ?_; dsimp only)); at_builtin; refine Kd.R_append_rows (Kd.int .u8) (w0 := w) w.heap.size rfl (.tmp 55) (.tmp 56) 31 5 (.int .u8 0) 1 rfl Try.underlying31 info5 rfl (by decide) (by omega) v145 y144 t140 _ _ _ (fun _ => True) (fun _ => False) rfl rfl ?aO ?aR (fun _ _ h => h) (fun _ h => h.elim) ?aF ?aB ?aS ?aL ?_; (case aR => repeat (first | exact (Kd.V_reads' HO_8.out).2.2 | (with_reducible refine Kd.C_alloc ?_ _) | (with_reducible refine Kd.C_drewN ?_ _) | (with_reducible refine Kd.C_drew ?_))); (case aB => exact (by repeat (first | (with_reducible first | exact HB.out | apply below_alloc | apply pw_below_drewN | apply below_drew1) | exact HB.out))); (case aF => exact (fun _ _ => trivial)); (case aO => exact (by (with_reducible repeat (first | apply Kd.R_alloc | apply Kd.R_drewN | apply Kd.R_drew)); exact HO146.out)); (case aS => exact (below_size (by repeat (first | (with_reducible first | exact HB.out | apply below_alloc | apply pw_below_drewN | apply below_drew1) | exact HB.out)))); (case aL => have := LMc22.out; omega); intro v148 w59 ho hb hg hat; rw [← Ny147.out] at ho; have n0_ := Aside0.mk (Kd.V_afterv (ok := (fun _ => True)) (by (with_reducible repeat (first | apply Kd.V_alloc | apply Kd.V_drewN | apply Kd.V_drew)); exact HO_8.out) hg hat); have n1_ := Aside0.mk (hb); have n2_ := Aside0.mk (ho); clear HO_8; clear HB; clear HO146; have HO_8 := n0_; have HB := n1_; have HO149 := n2_; clear n0_ n1_ n2_; clear ho hb hg hat) | ((with_reducible refine gate_builtin (b := .append) (xs := #[.tmp 57, .tmp 58]) rfl ?_); (try (refine gate_guard (by rfl) ?_; dsimp only)); at_builtin; refine Kd.R_append_rows (Kd.int .u8) (w0 := w) w.heap.size rfl (.tmp 57) (.tmp 58) 31 5 (.int .u8 0) 1 rfl Try.underlying31 info5 rfl (by decide) (by omega) v148 y147 l1 _ _ _ (fun _ => True) (fun _ => False) rfl rfl ?aO ?aR (fun _ _ h => h) (fun _ h => h.elim) ?aF ?aB ?aS ?aL ?_; (case aR => repeat (first | exact (Kd.C_below HR1.out HB.out) | (with_reducible refine Kd.C_alloc ?_ _) | (with_reducible refine Kd.C_drewN ?_ _) | (with_reducible refine Kd.C_drew ?_))); (case aB => exact (by repeat (first | (with_reducible first | exact HB.out | apply below_alloc | apply pw_below_drewN | apply below_drew1) | exact HB.out))); (case aF => exact (fun _ _ => trivial)); (case aO => exact (by (with_reducible repeat (first | apply Kd.R_alloc | apply Kd.R_drewN | apply Kd.R_drew)); exact HO149.out)); (case aS => exact (below_size (by repeat (first | (with_reducible first | exact HB.out | apply below_alloc | apply pw_below_drewN | apply below_drew1) | exact HB.out)))); (case aL => have := LMc23.out; omega); intro v151 w61 ho hb hg hat; rw [← Ny150.out] at ho; have n0_ := Aside0.mk (Kd.V_afterv (ok := (fun _ => True)) (by (with_reducible repeat (first | apply Kd.V_alloc | apply Kd.V_drewN | apply Kd.V_drew)); exact HO_8.out) hg hat); have n1_ := Aside0.mk (hb); have n2_ := Aside0.mk (ho); clear HO_8; clear HB; clear HO149; have HO_8 := n0_; have HB := n1_; have HO152 := n2_; clear n0_ n1_ n2_; clear ho hb hg hat; obtain ⟨Ao62, co62, eo62⟩ := Kd.R_slice HO152.out; subst eo62) | ((with_reducible refine gate_callee (f := 35) rfl ?_); refine goesL_ (some 60) rfl rfl Try.func35 (by kernel_rfl) rfl #[.slice Ao62 y150.length co62] rfl (by (try simp only [List.map_toArray, List.map_cons, List.map_nil]); first | done | rfl | (simp only [List.length_drop, List.length_take]; rfl)) ?_; (with_reducible refine (number_Decode.calls kj15 _ _ y150 t153 t154 t155 _ ?side1 ?side2 A24.out).mono ?_); (case side1 => repeat (first | exact (Kd.R_reads' HO152.out).2.2 | (with_reducible refine Kd.C_alloc ?_ _) | (with_reducible refine Kd.C_drewN ?_ _) | (with_reducible refine Kd.C_drew ?_))); (case side2 => exact (Kd.R_reads' HO152.out).2.1); rintro e w' ⟨rfl, ⟨nd, rfl⟩⟩; refine ⟨_, rfl, ?_⟩; have q63 : ((ji26) : Int) ≤ ((t140.length : Int) : Int) := of_decide_eq_true (by first | (with_reducible assumption) | assumption); obtain ⟨i063, hi063, _, hsz63, _⟩ := info_parts info5; have hroom63 : t140.length ≤ co60 := (Kd.V_reads' HO_8.out).2.1; have hC63 : Kd.F (Kd.int .u8) _ _ Ao60 t140.length t140 := (Kd.V_at (base := w.heap.size) HO_8.out).2.2; have hcut63 := cut_to (P := Try.prog) 31 5 .i64 Try.underlying31 hi063 Ao60 t140.length co60 (ji26) (of_decide_eq_true (by first | (with_reducible assumption) | assumption)) q63 hroom63; have hr63 := Kd.F_take (m := ((ji26) : Int).toNat) hC63 (by omega); have hy63 : y156.length = ((ji26) : Int).toNat := (by rw [Ny156.out, List.length_take]; omega); rw [← Ny156.out] at hr63; rw [← hy63] at hcut63; have HO160 := Aside0.mk (show Kd.V (Kd.int .u8) 5 _ w.heap.size _ (.slice Ao60 y156.length co60) y156 from Kd.V_mk (by omega) hr63); have HC160 := Aside0.mk (show y156.length ≤ co60 from by omega); clear hr63 hC63 hroom63 hi063 hsz63; have KY63 := Aside0.mk hy63; clear hy63; replace q63 := eq_true q63) | ((with_reducible refine gate_callee (f := 35) rfl ?_); refine goesL_ (some 72) rfl rfl Try.func35 (by kernel_rfl) rfl #[.slice Ao60 y156.length co60] rfl (by (try simp only [List.map_toArray, List.map_cons, List.map_nil]); first | done | rfl | (simp only [List.length_drop, List.length_take]; rfl)) ?_; (with_reducible refine (number_Decode.calls kj15 _ _ y156 t161 t162 t163 _ ?side1 ?side2 A29.out).mono ?_); (case side1 => repeat (first | exact (Kd.V_reads' HO160.out).2.2 | (with_reducible refine Kd.C_alloc ?_ _) | (with_reducible refine Kd.C_drewN ?_ _) | (with_reducible refine Kd.C_drew ?_))); (case side2 => exact (Kd.V_reads' HO160.out).2.1); rintro e w' ⟨rfl, ⟨nd, rfl⟩⟩; refine ⟨_, rfl, ?_⟩))
                                go_ret
                                exact ⟨by first | rfl | (simp [errW_none, errW_some] <;> rfl) | (simp only [← hji26]; first | rfl | (simp [errW_none, errW_some] <;> rfl)) | (simp [*, errW_none, errW_some] <;> rfl), by repeat (first | (with_reducible first | exact HB.out | apply below_alloc | apply pw_below_drewN | apply below_drew1) | exact HB.out)⟩
                            · rw [if_neg c31] at H
                              have c31b0 : (t155 == 0) = false := beq_eq_false_iff_ne.mpr c31
                              have c31b1 : (t155 != 0) = true := bne_iff_ne.mpr c31
                              obtain rfl := Option.some.inj H
                              go_wp2_with (first | ((with_reducible refine gate_dst (N := 55) rfl ?_); (try (refine gate_guard (by rfl) ?_; dsimp only)); refine Kd.R_lit (Kd.int .u8) _ 5 ?hg (N := 55) ?hd (xs := ([] : List Int)) (inner := []) (ok := fun _ => True) (okp := fun _ => True) ?hr ?hp (fun _ hk => hk) trivial (Below.refl _ _) (Nat.le_refl _) (by simp) ?_; (case hd => rfl); (case hg => rfl); (case hr => first | (go_simp; done) | (go_simp; rfl)); (case hp => exact (Reps.none _ _)); intro v145 w64 ho65 hb hg_ hnew_; clear hg_ hnew_; (first | rw [← Ny144.out] at ho65 | (simp only [Int.reduceToNat] at ho65; rw [← Ny144.out] at ho65)); have n0_ := Aside0.mk (Kd.V_elder' (by (with_reducible repeat (first | apply Kd.V_alloc | apply Kd.V_drewN | apply Kd.V_drew)); exact HO_8.out) (Kd.R_base ho65) hb); have n1_ := Aside0.mk (Kd.R_lower ho65 (below_size (by repeat (first | (with_reducible first | exact HB.out | apply below_alloc | apply pw_below_drewN | apply below_drew1) | exact HB.out)))); have n2_ := Aside0.mk (below_step (by repeat (first | (with_reducible first | exact HB.out | apply below_alloc | apply pw_below_drewN | apply below_drew1) | exact HB.out)) hb); clear HO_8; clear HB; have HO_8 := n0_; have HO146 := n1_; have HB := n2_; clear n0_ n1_ n2_; clear hb ho65; obtain ⟨Ao67, co67, eo67⟩ := Kd.V_slice HO_8.out; subst eo67) | ((with_reducible refine gate_builtin (b := .append) (xs := #[.tmp 55, .tmp 56]) rfl ?_); (try (refine gate_guard (by rfl) ?_; dsimp only)); at_builtin; refine Kd.R_append_rows (Kd.int .u8) (w0 := w) w.heap.size rfl (.tmp 55) (.tmp 56) 31 5 (.int .u8 0) 1 rfl Try.underlying31 info5 rfl (by decide) (by omega) v145 y144 t140 _ _ _ (fun _ => True) (fun _ => False) rfl rfl ?aO ?aR (fun _ _ h => h) (fun _ h => h.elim) ?aF ?aB ?aS ?aL ?_; (case aR => repeat (first | exact (Kd.V_reads' HO_8.out).2.2 | (with_reducible refine Kd.C_alloc ?_ _) | (with_reducible refine Kd.C_drewN ?_ _) | (with_reducible refine Kd.C_drew ?_))); (case aB => exact (by repeat (first | (with_reducible first | exact HB.out | apply below_alloc | apply pw_below_drewN | apply below_drew1) | exact HB.out))); (case aF => exact (fun _ _ => trivial)); (case aO => exact (by (with_reducible repeat (first | apply Kd.R_alloc | apply Kd.R_drewN | apply Kd.R_drew)); exact HO146.out)); (case aS => exact (below_size (by repeat (first | (with_reducible first | exact HB.out | apply below_alloc | apply pw_below_drewN | apply below_drew1) | exact HB.out)))); (case aL => have := LMc22.out; omega); intro v148 w66 ho hb hg hat; rw [← Ny147.out] at ho; have n0_ := Aside0.mk (Kd.V_afterv (ok := (fun _ => True)) (by (with_reducible repeat (first | apply Kd.V_alloc | apply Kd.V_drewN | apply Kd.V_drew)); exact HO_8.out) hg hat); have n1_ := Aside0.mk (hb); have n2_ := Aside0.mk (ho); clear HO_8; clear HB; clear HO146; have HO_8 := n0_; have HB := n1_; have HO149 := n2_; clear n0_ n1_ n2_; clear ho hb hg hat) | ((with_reducible refine gate_builtin (b := .append) (xs := #[.tmp 57, .tmp 58]) rfl ?_); (try (refine gate_guard (by rfl) ?_; dsimp only)); at_builtin; refine Kd.R_append_rows (Kd.int .u8) (w0 := w) w.heap.size rfl (.tmp 57) (.tmp 58) 31 5 (.int .u8 0) 1 rfl Try.underlying31 info5 rfl (by decide) (by omega) v148 y147 l1 _ _ _ (fun _ => True) (fun _ => False) rfl rfl ?aO ?aR (fun _ _ h => h) (fun _ h => h.elim) ?aF ?aB ?aS ?aL ?_; (case aR => repeat (first | exact (Kd.C_below HR1.out HB.out) | (with_reducible refine Kd.C_alloc ?_ _) | (with_reducible refine Kd.C_drewN ?_ _) | (with_reducible refine Kd.C_drew ?_))); (case aB => exact (by repeat (first | (with_reducible first | exact HB.out | apply below_alloc | apply pw_below_drewN | apply below_drew1) | exact HB.out))); (case aF => exact (fun _ _ => trivial)); (case aO => exact (by (with_reducible repeat (first | apply Kd.R_alloc | apply Kd.R_drewN | apply Kd.R_drew)); exact HO149.out)); (case aS => exact (below_size (by repeat (first | (with_reducible first | exact HB.out | apply below_alloc | apply pw_below_drewN | apply below_drew1) | exact HB.out)))); (case aL => have := LMc23.out; omega); intro v151 w68 ho hb hg hat; rw [← Ny150.out] at ho; have n0_ := Aside0.mk (Kd.V_afterv (ok := (fun _ => True)) (by (with_reducible repeat (first | apply Kd.V_alloc | apply Kd.V_drewN | apply Kd.V_drew)); exact HO_8.out) hg hat); have n1_ := Aside0.mk (hb); have n2_ := Aside0.mk (ho); clear HO_8; clear HB; clear HO149; have HO_8 := n0_; have HB := n1_; have HO152 := n2_; clear n0_ n1_ n2_; clear ho hb hg hat; obtain ⟨Ao69, co69, eo69⟩ := Kd.R_slice HO152.out; subst eo69) | ((with_reducible refine gate_callee (f := 35) rfl ?_); refine goesL_ (some 60) rfl rfl Try.func35 (by kernel_rfl) rfl #[.slice Ao69 y150.length co69] rfl (by (try simp only [List.map_toArray, List.map_cons, List.map_nil]); first | done | rfl | (simp only [List.length_drop, List.length_take]; rfl)) ?_; (with_reducible refine (number_Decode.calls kj15 _ _ y150 t153 t154 t155 _ ?side1 ?side2 A24.out).mono ?_); (case side1 => repeat (first | exact (Kd.R_reads' HO152.out).2.2 | (with_reducible refine Kd.C_alloc ?_ _) | (with_reducible refine Kd.C_drewN ?_ _) | (with_reducible refine Kd.C_drew ?_))); (case side2 => exact (Kd.R_reads' HO152.out).2.1); rintro e w' ⟨rfl, ⟨nd, rfl⟩⟩; refine ⟨_, rfl, ?_⟩; have q70 : ((ji26) : Int) ≤ ((t140.length : Int) : Int) := of_decide_eq_true (by first | (with_reducible assumption) | assumption); obtain ⟨i070, hi070, _, hsz70, _⟩ := info_parts info5; have hroom70 : t140.length ≤ co67 := (Kd.V_reads' HO_8.out).2.1; have hC70 : Kd.F (Kd.int .u8) _ _ Ao67 t140.length t140 := (Kd.V_at (base := w.heap.size) HO_8.out).2.2; have hcut70 := cut_to (P := Try.prog) 31 5 .i64 Try.underlying31 hi070 Ao67 t140.length co67 (ji26) (of_decide_eq_true (by first | (with_reducible assumption) | assumption)) q70 hroom70; have hr70 := Kd.F_take (m := ((ji26) : Int).toNat) hC70 (by omega); have hy70 : y156.length = ((ji26) : Int).toNat := (by rw [Ny156.out, List.length_take]; omega); rw [← Ny156.out] at hr70; rw [← hy70] at hcut70; have HO160 := Aside0.mk (show Kd.V (Kd.int .u8) 5 _ w.heap.size _ (.slice Ao67 y156.length co67) y156 from Kd.V_mk (by omega) hr70); have HC160 := Aside0.mk (show y156.length ≤ co67 from by omega); clear hr70 hC70 hroom70 hi070 hsz70; have KY70 := Aside0.mk hy70; clear hy70; replace q70 := eq_true q70) | ((with_reducible refine gate_callee (f := 35) rfl ?_); refine goesL_ (some 72) rfl rfl Try.func35 (by kernel_rfl) rfl #[.slice Ao67 y156.length co67] rfl (by (try simp only [List.map_toArray, List.map_cons, List.map_nil]); first | done | rfl | (simp only [List.length_drop, List.length_take]; rfl)) ?_; (with_reducible refine (number_Decode.calls kj15 _ _ y156 t161 t162 t163 _ ?side1 ?side2 A29.out).mono ?_); (case side1 => repeat (first | exact (Kd.V_reads' HO160.out).2.2 | (with_reducible refine Kd.C_alloc ?_ _) | (with_reducible refine Kd.C_drewN ?_ _) | (with_reducible refine Kd.C_drew ?_))); (case side2 => exact (Kd.V_reads' HO160.out).2.1); rintro e w' ⟨rfl, ⟨nd, rfl⟩⟩; refine ⟨_, rfl, ?_⟩))
                              go_ret
                              exact ⟨by first | rfl | (simp [errW_none, errW_some] <;> rfl) | (simp only [← hji26]; first | rfl | (simp [errW_none, errW_some] <;> rfl)) | (simp [*, errW_none, errW_some] <;> rfl), by repeat (first | (with_reducible first | exact HB.out | apply below_alloc | apply pw_below_drewN | apply below_drew1) | exact HB.out)⟩
                          · replace c30 := Bool.eq_false_iff.mpr c30
                            subst c30
                            have H1 : (some false) = some r := by rw [if_neg (show ¬ (false = true) by decide)] at H; exact H
                            clear H
                            have H := H1
                            clear H1
                            obtain rfl := Option.some.inj H
                            go_wp2_with (first | ((with_reducible refine gate_dst (N := 55) rfl ?_); (try (refine gate_guard (by rfl) ?_; dsimp only)); refine Kd.R_lit (Kd.int .u8) _ 5 ?hg (N := 55) ?hd (xs := ([] : List Int)) (inner := []) (ok := fun _ => True) (okp := fun _ => True) ?hr ?hp (fun _ hk => hk) trivial (Below.refl _ _) (Nat.le_refl _) (by simp) ?_; (case hd => rfl); (case hg => rfl); (case hr => first | (go_simp; done) | (go_simp; rfl)); (case hp => exact (Reps.none _ _)); intro v145 w71 ho72 hb hg_ hnew_; clear hg_ hnew_; (first | rw [← Ny144.out] at ho72 | (simp only [Int.reduceToNat] at ho72; rw [← Ny144.out] at ho72)); have n0_ := Aside0.mk (Kd.V_elder' (by (with_reducible repeat (first | apply Kd.V_alloc | apply Kd.V_drewN | apply Kd.V_drew)); exact HO_8.out) (Kd.R_base ho72) hb); have n1_ := Aside0.mk (Kd.R_lower ho72 (below_size (by repeat (first | (with_reducible first | exact HB.out | apply below_alloc | apply pw_below_drewN | apply below_drew1) | exact HB.out)))); have n2_ := Aside0.mk (below_step (by repeat (first | (with_reducible first | exact HB.out | apply below_alloc | apply pw_below_drewN | apply below_drew1) | exact HB.out)) hb); clear HO_8; clear HB; have HO_8 := n0_; have HO146 := n1_; have HB := n2_; clear n0_ n1_ n2_; clear hb ho72; obtain ⟨Ao74, co74, eo74⟩ := Kd.V_slice HO_8.out; subst eo74) | ((with_reducible refine gate_builtin (b := .append) (xs := #[.tmp 55, .tmp 56]) rfl ?_); (try (refine gate_guard (by rfl) ?_; dsimp only)); at_builtin; refine Kd.R_append_rows (Kd.int .u8) (w0 := w) w.heap.size rfl (.tmp 55) (.tmp 56) 31 5 (.int .u8 0) 1 rfl Try.underlying31 info5 rfl (by decide) (by omega) v145 y144 t140 _ _ _ (fun _ => True) (fun _ => False) rfl rfl ?aO ?aR (fun _ _ h => h) (fun _ h => h.elim) ?aF ?aB ?aS ?aL ?_; (case aR => repeat (first | exact (Kd.V_reads' HO_8.out).2.2 | (with_reducible refine Kd.C_alloc ?_ _) | (with_reducible refine Kd.C_drewN ?_ _) | (with_reducible refine Kd.C_drew ?_))); (case aB => exact (by repeat (first | (with_reducible first | exact HB.out | apply below_alloc | apply pw_below_drewN | apply below_drew1) | exact HB.out))); (case aF => exact (fun _ _ => trivial)); (case aO => exact (by (with_reducible repeat (first | apply Kd.R_alloc | apply Kd.R_drewN | apply Kd.R_drew)); exact HO146.out)); (case aS => exact (below_size (by repeat (first | (with_reducible first | exact HB.out | apply below_alloc | apply pw_below_drewN | apply below_drew1) | exact HB.out)))); (case aL => have := LMc22.out; omega); intro v148 w73 ho hb hg hat; rw [← Ny147.out] at ho; have n0_ := Aside0.mk (Kd.V_afterv (ok := (fun _ => True)) (by (with_reducible repeat (first | apply Kd.V_alloc | apply Kd.V_drewN | apply Kd.V_drew)); exact HO_8.out) hg hat); have n1_ := Aside0.mk (hb); have n2_ := Aside0.mk (ho); clear HO_8; clear HB; clear HO146; have HO_8 := n0_; have HB := n1_; have HO149 := n2_; clear n0_ n1_ n2_; clear ho hb hg hat) | ((with_reducible refine gate_builtin (b := .append) (xs := #[.tmp 57, .tmp 58]) rfl ?_); (try (refine gate_guard (by rfl) ?_; dsimp only)); at_builtin; refine Kd.R_append_rows (Kd.int .u8) (w0 := w) w.heap.size rfl (.tmp 57) (.tmp 58) 31 5 (.int .u8 0) 1 rfl Try.underlying31 info5 rfl (by decide) (by omega) v148 y147 l1 _ _ _ (fun _ => True) (fun _ => False) rfl rfl ?aO ?aR (fun _ _ h => h) (fun _ h => h.elim) ?aF ?aB ?aS ?aL ?_; (case aR => repeat (first | exact (Kd.C_below HR1.out HB.out) | (with_reducible refine Kd.C_alloc ?_ _) | (with_reducible refine Kd.C_drewN ?_ _) | (with_reducible refine Kd.C_drew ?_))); (case aB => exact (by repeat (first | (with_reducible first | exact HB.out | apply below_alloc | apply pw_below_drewN | apply below_drew1) | exact HB.out))); (case aF => exact (fun _ _ => trivial)); (case aO => exact (by (with_reducible repeat (first | apply Kd.R_alloc | apply Kd.R_drewN | apply Kd.R_drew)); exact HO149.out)); (case aS => exact (below_size (by repeat (first | (with_reducible first | exact HB.out | apply below_alloc | apply pw_below_drewN | apply below_drew1) | exact HB.out)))); (case aL => have := LMc23.out; omega); intro v151 w75 ho hb hg hat; rw [← Ny150.out] at ho; have n0_ := Aside0.mk (Kd.V_afterv (ok := (fun _ => True)) (by (with_reducible repeat (first | apply Kd.V_alloc | apply Kd.V_drewN | apply Kd.V_drew)); exact HO_8.out) hg hat); have n1_ := Aside0.mk (hb); have n2_ := Aside0.mk (ho); clear HO_8; clear HB; clear HO149; have HO_8 := n0_; have HB := n1_; have HO152 := n2_; clear n0_ n1_ n2_; clear ho hb hg hat; obtain ⟨Ao76, co76, eo76⟩ := Kd.R_slice HO152.out; subst eo76) | ((with_reducible refine gate_callee (f := 35) rfl ?_); refine goesL_ (some 60) rfl rfl Try.func35 (by kernel_rfl) rfl #[.slice Ao76 y150.length co76] rfl (by (try simp only [List.map_toArray, List.map_cons, List.map_nil]); first | done | rfl | (simp only [List.length_drop, List.length_take]; rfl)) ?_; (with_reducible refine (number_Decode.calls kj15 _ _ y150 t153 t154 t155 _ ?side1 ?side2 A24.out).mono ?_); (case side1 => repeat (first | exact (Kd.R_reads' HO152.out).2.2 | (with_reducible refine Kd.C_alloc ?_ _) | (with_reducible refine Kd.C_drewN ?_ _) | (with_reducible refine Kd.C_drew ?_))); (case side2 => exact (Kd.R_reads' HO152.out).2.1); rintro e w' ⟨rfl, ⟨nd, rfl⟩⟩; refine ⟨_, rfl, ?_⟩; have q77 : ((ji26) : Int) ≤ ((t140.length : Int) : Int) := of_decide_eq_true (by first | (with_reducible assumption) | assumption); obtain ⟨i077, hi077, _, hsz77, _⟩ := info_parts info5; have hroom77 : t140.length ≤ co74 := (Kd.V_reads' HO_8.out).2.1; have hC77 : Kd.F (Kd.int .u8) _ _ Ao74 t140.length t140 := (Kd.V_at (base := w.heap.size) HO_8.out).2.2; have hcut77 := cut_to (P := Try.prog) 31 5 .i64 Try.underlying31 hi077 Ao74 t140.length co74 (ji26) (of_decide_eq_true (by first | (with_reducible assumption) | assumption)) q77 hroom77; have hr77 := Kd.F_take (m := ((ji26) : Int).toNat) hC77 (by omega); have hy77 : y156.length = ((ji26) : Int).toNat := (by rw [Ny156.out, List.length_take]; omega); rw [← Ny156.out] at hr77; rw [← hy77] at hcut77; have HO160 := Aside0.mk (show Kd.V (Kd.int .u8) 5 _ w.heap.size _ (.slice Ao74 y156.length co74) y156 from Kd.V_mk (by omega) hr77); have HC160 := Aside0.mk (show y156.length ≤ co74 from by omega); clear hr77 hC77 hroom77 hi077 hsz77; have KY77 := Aside0.mk hy77; clear hy77; replace q77 := eq_true q77) | ((with_reducible refine gate_callee (f := 35) rfl ?_); refine goesL_ (some 72) rfl rfl Try.func35 (by kernel_rfl) rfl #[.slice Ao74 y156.length co74] rfl (by (try simp only [List.map_toArray, List.map_cons, List.map_nil]); first | done | rfl | (simp only [List.length_drop, List.length_take]; rfl)) ?_; (with_reducible refine (number_Decode.calls kj15 _ _ y156 t161 t162 t163 _ ?side1 ?side2 A29.out).mono ?_); (case side1 => repeat (first | exact (Kd.V_reads' HO160.out).2.2 | (with_reducible refine Kd.C_alloc ?_ _) | (with_reducible refine Kd.C_drewN ?_ _) | (with_reducible refine Kd.C_drew ?_))); (case side2 => exact (Kd.V_reads' HO160.out).2.1); rintro e w' ⟨rfl, ⟨nd, rfl⟩⟩; refine ⟨_, rfl, ?_⟩))
                            go_ret
                            exact ⟨by first | rfl | (simp [errW_none, errW_some] <;> rfl) | (simp only [← hji26]; first | rfl | (simp [errW_none, errW_some] <;> rfl)) | (simp [*, errW_none, errW_some] <;> rfl), by repeat (first | (with_reducible first | exact HB.out | apply below_alloc | apply pw_below_drewN | apply below_drew1) | exact HB.out)⟩
                        · rw [if_neg c28] at H
                          exact absurd H (by simp)
                      · rw [if_neg c27] at H
                        exact absurd H (by simp)
                  · rw [if_neg c23] at H
                    exact absurd H (by simp)
                · rw [if_neg c22] at H
                  exact absurd H (by simp)

/-- THE ONE PURE STATEMENT of serinettelaw03_NumberBack: yours. -/
def serinettelaw03_NumberBack.Pure : Prop := ∀ (a0 : Int) (l1 : List Int) (a2 : Int), (Lit.int .i64 a0).wf = true → l1.length ≤ maxLen → l1.length * 1 ≤ 140737488351232 → (∀ x ∈ l1, (Lit.int .u8 x).wf = true) → (Lit.int .u8 a2).wf = true → ∃ k, serinettelaw03_NumberBack.f k a0 l1 a2 = some true
theorem serinettelaw03_NumberBack.walk (P : serinettelaw03_NumberBack.Pure) (a0 : Int) (a1 : Option Addr) (len1 cap1 : Nat) (z1 : List Int) (a2 : Int) (w : World) (w0 : (Lit.int .i64 a0).wf = true) (w1 : (a1 = none ∧ len1 = 0 ∧ cap1 = 0 ∧ z1 = []) ∨ ∃ x, a1 = some x ∧ len1 ≤ cap1 ∧ cap1 ≤ maxLen ∧ z1.length = cap1 ∧ (∀ i, i < z1.length → w.cell? (x.add i) = some (.int .u8 (z1.getD i 0))) ∧ ∀ n ∈ z1, (Lit.int .u8 n).wf = true) (y1 : len1 * 1 ≤ 140737488351232) (w2 : (Lit.int .u8 a2).wf = true) :
    Calls Try.prog 10 #[.int .i64 a0, .slice a1 len1 cap1, .int .u8 a2] w fun e w' => e = .returned (.bool true) ∧ Below w.heap.size w w' := by
  obtain ⟨l1, rfl, hr1, hm1, hw1, hc1⟩ := ReadsInt.ofRowC w1
  obtain ⟨k, h⟩ := P a0 l1 a2 w0 hm1 y1 hw1 w2
  refine (serinettelaw03_NumberBack.calls k a0 _ _ l1 a2 true w (Kd.C_of_reads (d := (0 : Int)) (h1 := fun _ => rfl) hr1) hc1 h).mono ?_
  rintro e w' ⟨rfl, hd⟩
  exact ⟨rfl, hd⟩

end Go.Proofs.Ytgdgncdnhpflcaa.PNumberBack
