-- written by this session's program wip/reprint.sh (a turned copy of the kit's print): the session's own text
import Derived.Test.YtdacblackoaphaaPBoundFramesx0
namespace Go.Proofs.Ytdacblackoaphaa.PBoundFrames
open Go.RowKit Go.Proofs.YtdacblackoaphaaW.PrintWords Go.Proofs.YtdacblackoaphaaW.PrintLast Go.Proofs.YtdacblackoaphaaW.PrintMore Go.Proofs.Ytdacblackoaphaa.H
attribute [local go_sem] max2_int min2_int max_two min_two max_three min_three max_four min_four   -- for this text's walks alone
set_option linter.unusedVariables false
set_option linter.unusedSimpArgs false

/-! ### serinetteref17_code: function 46 -/
def serinetteref17_code.l0 : Nat → Int → List Int → Int → Option (Int)
  | 0, _, _, _ => none
  | k + 1, x0, x1, x5 => if x5 < (x1.length : Int) then (if x0 > 0 then (if 0 ≤ x5 then (if (rd x1 x5) = x0 then (some x5) else (serinetteref17_code.l0 k x0 x1 (wrap64 (x5 + 1)))) else (none)) else (serinetteref17_code.l0 k x0 x1 (wrap64 (x5 + 1)))) else (some 0)
def serinetteref17_code.f (k : Nat) (a0 : Int) (l1 : List Int) : Option (Int) := serinetteref17_code.l0 k a0 l1 1
theorem serinetteref17_code.mono_l : ∀ k, (∀ y0 y1 y2, LeO (serinetteref17_code.l0 k y0 y1 y2) (serinetteref17_code.l0 (k + 1) y0 y1 y2))
  | 0 => fun _ _ _ r h => by simp [serinetteref17_code.l0] at h
  | k + 1 => by
    have ih0 := serinetteref17_code.mono_l k
    · intro y0 y1 y2
      unfold serinetteref17_code.l0
      repeat' first
      | (with_reducible exact ih0 _ _ _)
      | (with_reducible exact LeO.refl _)
      | (with_reducible exact LeO.none _)
      | (with_reducible refine LeO.ite ?_ ?_)
      | (with_reducible refine LeO.bind ?_ (fun _ => ?_))
      | exact ih0 _ _ _
      | exact LeO.none _
      | refine LeO.ite ?_ ?_
      | refine LeO.bind ?_ (fun _ => ?_)
theorem serinetteref17_code.mono : ∀ a0 a1 k, LeO (serinetteref17_code.f k a0 a1) (serinetteref17_code.f (k + 1) a0 a1) := by
  intro a0 a1 k
  have ih0 := serinetteref17_code.mono_l k
  unfold serinetteref17_code.f
  repeat' first
      | (with_reducible exact ih0 _ _ _)
      | (with_reducible exact LeO.refl _)
      | (with_reducible exact LeO.none _)
      | (with_reducible refine LeO.ite ?_ ?_)
      | (with_reducible refine LeO.bind ?_ (fun _ => ?_))
      | exact ih0 _ _ _
      | exact LeO.none _
      | refine LeO.ite ?_ ?_
      | refine LeO.bind ?_ (fun _ => ?_)
set_option maxHeartbeats 8000000 in
set_option maxRecDepth 100000 in
theorem serinetteref17_code.calls (k : Nat) (a0 : Int) (A1 : Option Addr) (c1 : Nat) (l1 : List Int) (r : Int) (w : World) (hr1 : Kd.C (Kd.int .i64) w A1 l1.length l1) (hc1 : l1.length ≤ c1) (h : serinetteref17_code.f k a0 l1 = some r) :
    Calls Try.prog 46 #[.int .i64 a0, .slice A1 l1.length c1] w fun e w' => e = .returned (.int .i64 r) ∧ Drawn0 w w' := by
  have HR1 := Aside0.mk hr1
  have HC1 := Aside0.mk hc1
  clear hr1 hc1
  have H : (serinetteref17_code.l0 k a0 l1 1) = some r := h
  clear h
  have H' := Aside0.mk H
  clear H
  go_enter Try.func46, Try.ntmps46
  go_wp2
  go_loopg [5] k (fun kq v5 w' => ∃ (x5_1 : Int), v5 = .int .i64 x5_1 ∧ Aside0 (serinetteref17_code.l0 kq a0 l1 x5_1 = some r) ∧ Aside0 (kq ≤ k) ∧ Drawn0 w w')
  case atStart => exact ⟨(1), (by first | rfl | (simp; done) | (simp [*]; done)), H', ⟨Nat.le_refl _⟩, by repeat (first | exact Drawn0.refl _ | apply Drawn0.step)⟩
  case round =>
    clear H'
    try clear c1
    try clear p2
    obtain ⟨x5_1, rfl, HA, HK1, ⟨m1, rfl⟩⟩ := hrel
    cases gk with
    | zero => exact absurd HA.out (by simp [serinetteref17_code.l0])
    | succ k1 =>
      have H := HA.out
      clear HA
      simp only [serinetteref17_code.l0] at H
      by_cases c3 : x5_1 < (l1.length : Int)
      · rw [if_pos c3] at H
        have c3b0 : decide (x5_1 < (l1.length : Int)) = true := decide_eq_true c3
        clear c3
        by_cases c4 : a0 > 0
        · rw [if_pos c4] at H
          have c4b0 : decide (0 < a0) = true := decide_eq_true c4
          clear c4
          by_cases c5 : 0 ≤ x5_1
          · rw [if_pos c5] at H
            have c5b0 : decide (0 ≤ x5_1) = true := decide_eq_true c5
            clear c5
            by_cases c6 : (rd l1 x5_1) = a0
            · rw [if_pos c6] at H
              have c6b0 : ((rd l1 x5_1) == a0) = true := beq_iff_eq.mpr c6
              have c6b1 : ((rd l1 x5_1) != a0) = false := bne_eq_false_iff_eq.mpr c6
              clear c6
              obtain rfl := Option.some.inj H
              have p265 : 0 ≤ (x5_1 : Int) := of_decide_eq_true (by first | (with_reducible assumption) | assumption)
              have q265 : x5_1 < (l1.length : Int) := of_decide_eq_true (by first | (with_reducible assumption) | assumption)
              obtain ⟨ad265, e265, hx265_0⟩ := Kd.at_int HR1.out x5_1 p265 q265
              cases e265
              replace p265 := eq_true p265
              replace q265 := eq_true q265
              go_wp2
              go_ret
              exact ⟨by first | rfl | (simp; done) | (simp [*]; done), by repeat (first | exact Drawn0.refl _ | apply Drawn0.step)⟩
            · rw [if_neg c6] at H
              have c6b0 : ((rd l1 x5_1) == a0) = false := beq_eq_false_iff_ne.mpr c6
              have c6b1 : ((rd l1 x5_1) != a0) = true := bne_iff_ne.mpr c6
              have H' := Aside0.mk H
              clear H
              have p265 : 0 ≤ (x5_1 : Int) := of_decide_eq_true (by first | (with_reducible assumption) | assumption)
              have q265 : x5_1 < (l1.length : Int) := of_decide_eq_true (by first | (with_reducible assumption) | assumption)
              obtain ⟨ad265, e265, hx265_0⟩ := Kd.at_int HR1.out x5_1 p265 q265
              cases e265
              replace p265 := eq_true p265
              replace q265 := eq_true q265
              go_wp2
              go_roundg k1
              case measure => have := HK1.out; omega
              case rel => exact ⟨(wrap64 (x5_1 + 1)), (by first | rfl | (simp; done) | (simp [*]; done)), H', ⟨by have := HK1.out; omega⟩, by repeat (first | exact Drawn0.refl _ | apply Drawn0.step)⟩
          · rw [if_neg c5] at H
            exact absurd H (by simp)
        · rw [if_neg c4] at H
          have c4b0 : decide (0 < a0) = false := decide_eq_false c4
          clear c4
          have H' := Aside0.mk H
          clear H
          go_wp2
          go_roundg k1
          case measure => have := HK1.out; omega
          case rel => exact ⟨(wrap64 (x5_1 + 1)), (by first | rfl | (simp; done) | (simp [*]; done)), H', ⟨by have := HK1.out; omega⟩, by repeat (first | exact Drawn0.refl _ | apply Drawn0.step)⟩
      · rw [if_neg c3] at H
        have c3b0 : decide (x5_1 < (l1.length : Int)) = false := decide_eq_false c3
        clear c3
        obtain rfl := Option.some.inj H
        go_wp2
        go_ret
        exact ⟨by first | rfl | (simp; done) | (simp [*]; done), by repeat (first | exact Drawn0.refl _ | apply Drawn0.step)⟩

/-! ### serinetteref17_Blocks: function 47 -/
def serinetteref17_Blocks.f  : Option (List Int) := some (([0, 192, 576, 1152, 2304, 4608, 0, 0, 256, 512, 1024, 2048, 4096, 8192, 16384, 32768] : List Int))
set_option maxHeartbeats 8000000 in
set_option maxRecDepth 100000 in
theorem serinetteref17_Blocks.calls  (r : List Int) (w : World) (h : serinetteref17_Blocks.f  = some r) :
    Calls Try.prog 47 #[] w fun e w' => ∃ v0_ : Value, e = .returned (v0_) ∧ Kd.R (Kd.int .i64) 3 w' w.heap.size (fun _ => True) v0_ r ∧ Below w.heap.size w w' := by
  have HB := Aside0.mk (Below.refl w.heap.size w)
  have H : (some (([0, 192, 576, 1152, 2304, 4608, 0, 0, 256, 512, 1024, 2048, 4096, 8192, 16384, 32768] : List Int))) = some r := h
  clear h
  obtain ⟨y266, hy266⟩ : ∃ y_ : List Int, y_ = (([0, 192, 576, 1152, 2304, 4608, 0, 0, 256, 512, 1024, 2048, 4096, 8192, 16384, 32768] : List Int)) := ⟨_, rfl⟩
  replace H : (some y266) = some r := by first | (rw [hy266]; with_reducible exact H) | (have H2_ := (Option.bind_some _ _).symm.trans H; rw [hy266]; with_reducible exact H2_) | (have H2_ := (Option.bind_some _ _).symm.trans H; with_reducible exact H2_) | with_reducible exact H | (rw [hy266]; exact H) | exact H
  have Ny266 := Aside0.mk hy266
  clear hy266
  obtain rfl := Option.some.inj H
  go_enter Try.func47, Try.ntmps47
  go_wp2_with (first | ((with_reducible refine gate_dst (N := 1) rfl ?_); refine Kd.R_lit (Kd.int .i64) _ 3 ?hg (N := 1) ?hd (xs := ([0, 192, 576, 1152, 2304, 4608, 0, 0, 256, 512, 1024, 2048, 4096, 8192, 16384, 32768] : List Int)) (inner := [.int .i64 0, .int .i64 192, .int .i64 576, .int .i64 1152, .int .i64 2304, .int .i64 4608, .int .i64 0, .int .i64 0, .int .i64 256, .int .i64 512, .int .i64 1024, .int .i64 2048, .int .i64 4096, .int .i64 8192, .int .i64 16384, .int .i64 32768]) (ok := fun _ => True) (okp := fun _ => True) ?hr ?hp (fun _ hk => hk) trivial (Below.refl _ _) (Nat.le_refl _) (by simp) ?_; (case hd => rfl); (case hg => rfl); (case hr => first | (go_simp; done) | (go_simp; rfl)); (case hp => exact (Reps.one (show Kd.M (Kd.int .i64) _ _ _ 0 [.int .i64 0] from rfl) (Reps.one (show Kd.M (Kd.int .i64) _ _ _ 192 [.int .i64 192] from rfl) (Reps.one (show Kd.M (Kd.int .i64) _ _ _ 576 [.int .i64 576] from rfl) (Reps.one (show Kd.M (Kd.int .i64) _ _ _ 1152 [.int .i64 1152] from rfl) (Reps.one (show Kd.M (Kd.int .i64) _ _ _ 2304 [.int .i64 2304] from rfl) (Reps.one (show Kd.M (Kd.int .i64) _ _ _ 4608 [.int .i64 4608] from rfl) (Reps.one (show Kd.M (Kd.int .i64) _ _ _ 0 [.int .i64 0] from rfl) (Reps.one (show Kd.M (Kd.int .i64) _ _ _ 0 [.int .i64 0] from rfl) (Reps.one (show Kd.M (Kd.int .i64) _ _ _ 256 [.int .i64 256] from rfl) (Reps.one (show Kd.M (Kd.int .i64) _ _ _ 512 [.int .i64 512] from rfl) (Reps.one (show Kd.M (Kd.int .i64) _ _ _ 1024 [.int .i64 1024] from rfl) (Reps.one (show Kd.M (Kd.int .i64) _ _ _ 2048 [.int .i64 2048] from rfl) (Reps.one (show Kd.M (Kd.int .i64) _ _ _ 4096 [.int .i64 4096] from rfl) (Reps.one (show Kd.M (Kd.int .i64) _ _ _ 8192 [.int .i64 8192] from rfl) (Reps.one (show Kd.M (Kd.int .i64) _ _ _ 16384 [.int .i64 16384] from rfl) (Reps.one (show Kd.M (Kd.int .i64) _ _ _ 32768 [.int .i64 32768] from rfl) (Reps.none _ _)))))))))))))))))); intro v267 w1 ho2 hb hg_ hnew_; clear hg_ hnew_; (first | rw [← Ny266.out] at ho2 | (simp only [Int.reduceToNat] at ho2; rw [← Ny266.out] at ho2)); have n0_ := Aside0.mk (Kd.R_lower ho2 (below_size (by repeat (first | (with_reducible first | exact HB.out | apply below_alloc | apply pw_below_drewN | apply below_drew1) | exact HB.out)))); have n1_ := Aside0.mk (below_step (by repeat (first | (with_reducible first | exact HB.out | apply below_alloc | apply pw_below_drewN | apply below_drew1) | exact HB.out)) hb); clear HB; have HO268 := n0_; have HB := n1_; clear n0_ n1_; clear hb ho2))
  go_ret
  exact ⟨_, by first | rfl | (simp [errW_none, errW_some] <;> rfl) | (simp [*, errW_none, errW_some] <;> rfl), by (with_reducible repeat (first | apply Kd.R_alloc | apply Kd.R_drewN | apply Kd.R_drew)); exact HO268.out, by repeat (first | (with_reducible first | exact HB.out | apply below_alloc | apply pw_below_drewN | apply below_drew1) | exact HB.out)⟩

/-! ### serinetteref17_Rates: function 48 -/
def serinetteref17_Rates.f  : Option (List Int) := some (([0, 88200, 176400, 192000, 8000, 16000, 22050, 24000, 32000, 44100, 48000, 96000, 0, 0, 0, 0] : List Int))
set_option maxHeartbeats 8000000 in
set_option maxRecDepth 100000 in
theorem serinetteref17_Rates.calls  (r : List Int) (w : World) (h : serinetteref17_Rates.f  = some r) :
    Calls Try.prog 48 #[] w fun e w' => ∃ v0_ : Value, e = .returned (v0_) ∧ Kd.R (Kd.int .i64) 3 w' w.heap.size (fun _ => True) v0_ r ∧ Below w.heap.size w w' := by
  have HB := Aside0.mk (Below.refl w.heap.size w)
  have H : (some (([0, 88200, 176400, 192000, 8000, 16000, 22050, 24000, 32000, 44100, 48000, 96000, 0, 0, 0, 0] : List Int))) = some r := h
  clear h
  obtain ⟨y269, hy269⟩ : ∃ y_ : List Int, y_ = (([0, 88200, 176400, 192000, 8000, 16000, 22050, 24000, 32000, 44100, 48000, 96000, 0, 0, 0, 0] : List Int)) := ⟨_, rfl⟩
  replace H : (some y269) = some r := by first | (rw [hy269]; with_reducible exact H) | (have H2_ := (Option.bind_some _ _).symm.trans H; rw [hy269]; with_reducible exact H2_) | (have H2_ := (Option.bind_some _ _).symm.trans H; with_reducible exact H2_) | with_reducible exact H | (rw [hy269]; exact H) | exact H
  have Ny269 := Aside0.mk hy269
  clear hy269
  obtain rfl := Option.some.inj H
  go_enter Try.func48, Try.ntmps48
  go_wp2_with (first | ((with_reducible refine gate_dst (N := 1) rfl ?_); refine Kd.R_lit (Kd.int .i64) _ 3 ?hg (N := 1) ?hd (xs := ([0, 88200, 176400, 192000, 8000, 16000, 22050, 24000, 32000, 44100, 48000, 96000, 0, 0, 0, 0] : List Int)) (inner := [.int .i64 0, .int .i64 88200, .int .i64 176400, .int .i64 192000, .int .i64 8000, .int .i64 16000, .int .i64 22050, .int .i64 24000, .int .i64 32000, .int .i64 44100, .int .i64 48000, .int .i64 96000, .int .i64 0, .int .i64 0, .int .i64 0, .int .i64 0]) (ok := fun _ => True) (okp := fun _ => True) ?hr ?hp (fun _ hk => hk) trivial (Below.refl _ _) (Nat.le_refl _) (by simp) ?_; (case hd => rfl); (case hg => rfl); (case hr => first | (go_simp; done) | (go_simp; rfl)); (case hp => exact (Reps.one (show Kd.M (Kd.int .i64) _ _ _ 0 [.int .i64 0] from rfl) (Reps.one (show Kd.M (Kd.int .i64) _ _ _ 88200 [.int .i64 88200] from rfl) (Reps.one (show Kd.M (Kd.int .i64) _ _ _ 176400 [.int .i64 176400] from rfl) (Reps.one (show Kd.M (Kd.int .i64) _ _ _ 192000 [.int .i64 192000] from rfl) (Reps.one (show Kd.M (Kd.int .i64) _ _ _ 8000 [.int .i64 8000] from rfl) (Reps.one (show Kd.M (Kd.int .i64) _ _ _ 16000 [.int .i64 16000] from rfl) (Reps.one (show Kd.M (Kd.int .i64) _ _ _ 22050 [.int .i64 22050] from rfl) (Reps.one (show Kd.M (Kd.int .i64) _ _ _ 24000 [.int .i64 24000] from rfl) (Reps.one (show Kd.M (Kd.int .i64) _ _ _ 32000 [.int .i64 32000] from rfl) (Reps.one (show Kd.M (Kd.int .i64) _ _ _ 44100 [.int .i64 44100] from rfl) (Reps.one (show Kd.M (Kd.int .i64) _ _ _ 48000 [.int .i64 48000] from rfl) (Reps.one (show Kd.M (Kd.int .i64) _ _ _ 96000 [.int .i64 96000] from rfl) (Reps.one (show Kd.M (Kd.int .i64) _ _ _ 0 [.int .i64 0] from rfl) (Reps.one (show Kd.M (Kd.int .i64) _ _ _ 0 [.int .i64 0] from rfl) (Reps.one (show Kd.M (Kd.int .i64) _ _ _ 0 [.int .i64 0] from rfl) (Reps.one (show Kd.M (Kd.int .i64) _ _ _ 0 [.int .i64 0] from rfl) (Reps.none _ _)))))))))))))))))); intro v270 w1 ho2 hb hg_ hnew_; clear hg_ hnew_; (first | rw [← Ny269.out] at ho2 | (simp only [Int.reduceToNat] at ho2; rw [← Ny269.out] at ho2)); have n0_ := Aside0.mk (Kd.R_lower ho2 (below_size (by repeat (first | (with_reducible first | exact HB.out | apply below_alloc | apply pw_below_drewN | apply below_drew1) | exact HB.out)))); have n1_ := Aside0.mk (below_step (by repeat (first | (with_reducible first | exact HB.out | apply below_alloc | apply pw_below_drewN | apply below_drew1) | exact HB.out)) hb); clear HB; have HO271 := n0_; have HB := n1_; clear n0_ n1_; clear hb ho2))
  go_ret
  exact ⟨_, by first | rfl | (simp [errW_none, errW_some] <;> rfl) | (simp [*, errW_none, errW_some] <;> rfl), by (with_reducible repeat (first | apply Kd.R_alloc | apply Kd.R_drewN | apply Kd.R_drew)); exact HO271.out, by repeat (first | (with_reducible first | exact HB.out | apply below_alloc | apply pw_below_drewN | apply below_drew1) | exact HB.out)⟩

/-! ### serinetteref17_Depths: function 49 -/
def serinetteref17_Depths.f  : Option (List Int) := some (([0, 8, 12, 0, 16, 20, 24, 32] : List Int))
set_option maxHeartbeats 8000000 in
set_option maxRecDepth 100000 in
theorem serinetteref17_Depths.calls  (r : List Int) (w : World) (h : serinetteref17_Depths.f  = some r) :
    Calls Try.prog 49 #[] w fun e w' => ∃ v0_ : Value, e = .returned (v0_) ∧ Kd.R (Kd.int .i64) 3 w' w.heap.size (fun _ => True) v0_ r ∧ Below w.heap.size w w' := by
  have HB := Aside0.mk (Below.refl w.heap.size w)
  have H : (some (([0, 8, 12, 0, 16, 20, 24, 32] : List Int))) = some r := h
  clear h
  obtain ⟨y272, hy272⟩ : ∃ y_ : List Int, y_ = (([0, 8, 12, 0, 16, 20, 24, 32] : List Int)) := ⟨_, rfl⟩
  replace H : (some y272) = some r := by first | (rw [hy272]; with_reducible exact H) | (have H2_ := (Option.bind_some _ _).symm.trans H; rw [hy272]; with_reducible exact H2_) | (have H2_ := (Option.bind_some _ _).symm.trans H; with_reducible exact H2_) | with_reducible exact H | (rw [hy272]; exact H) | exact H
  have Ny272 := Aside0.mk hy272
  clear hy272
  obtain rfl := Option.some.inj H
  go_enter Try.func49, Try.ntmps49
  go_wp2_with (first | ((with_reducible refine gate_dst (N := 1) rfl ?_); refine Kd.R_lit (Kd.int .i64) _ 3 ?hg (N := 1) ?hd (xs := ([0, 8, 12, 0, 16, 20, 24, 32] : List Int)) (inner := [.int .i64 0, .int .i64 8, .int .i64 12, .int .i64 0, .int .i64 16, .int .i64 20, .int .i64 24, .int .i64 32]) (ok := fun _ => True) (okp := fun _ => True) ?hr ?hp (fun _ hk => hk) trivial (Below.refl _ _) (Nat.le_refl _) (by simp) ?_; (case hd => rfl); (case hg => rfl); (case hr => first | (go_simp; done) | (go_simp; rfl)); (case hp => exact (Reps.one (show Kd.M (Kd.int .i64) _ _ _ 0 [.int .i64 0] from rfl) (Reps.one (show Kd.M (Kd.int .i64) _ _ _ 8 [.int .i64 8] from rfl) (Reps.one (show Kd.M (Kd.int .i64) _ _ _ 12 [.int .i64 12] from rfl) (Reps.one (show Kd.M (Kd.int .i64) _ _ _ 0 [.int .i64 0] from rfl) (Reps.one (show Kd.M (Kd.int .i64) _ _ _ 16 [.int .i64 16] from rfl) (Reps.one (show Kd.M (Kd.int .i64) _ _ _ 20 [.int .i64 20] from rfl) (Reps.one (show Kd.M (Kd.int .i64) _ _ _ 24 [.int .i64 24] from rfl) (Reps.one (show Kd.M (Kd.int .i64) _ _ _ 32 [.int .i64 32] from rfl) (Reps.none _ _)))))))))); intro v273 w1 ho2 hb hg_ hnew_; clear hg_ hnew_; (first | rw [← Ny272.out] at ho2 | (simp only [Int.reduceToNat] at ho2; rw [← Ny272.out] at ho2)); have n0_ := Aside0.mk (Kd.R_lower ho2 (below_size (by repeat (first | (with_reducible first | exact HB.out | apply below_alloc | apply pw_below_drewN | apply below_drew1) | exact HB.out)))); have n1_ := Aside0.mk (below_step (by repeat (first | (with_reducible first | exact HB.out | apply below_alloc | apply pw_below_drewN | apply below_drew1) | exact HB.out)) hb); clear HB; have HO274 := n0_; have HB := n1_; clear n0_ n1_; clear hb ho2))
  go_ret
  exact ⟨_, by first | rfl | (simp [errW_none, errW_some] <;> rfl) | (simp [*, errW_none, errW_some] <;> rfl), by (with_reducible repeat (first | apply Kd.R_alloc | apply Kd.R_drewN | apply Kd.R_drew)); exact HO274.out, by repeat (first | (with_reducible first | exact HB.out | apply below_alloc | apply pw_below_drewN | apply below_drew1) | exact HB.out)⟩

/-! ### serinetteref03_Room: function 56 -/
def serinetteref03_Room.f (a0 : Int) : Option (Int) := (some (([0, 7, 11, 16, 21, 26, 31, 36] : List Int) : List Int)).bind fun y275 => (if 0 ≤ a0 then (if a0 < (y275.length : Int) then (some (rd y275 a0)) else (none)) else (none))
set_option maxHeartbeats 8000000 in
set_option maxRecDepth 100000 in
theorem serinetteref03_Room.calls (a0 : Int) (r : Int) (w : World) (h : serinetteref03_Room.f a0 = some r) :
    Calls Try.prog 56 #[.int .i64 a0] w fun e w' => e = .returned (.int .i64 r) ∧ Below w.heap.size w w' := by
  have HB := Aside0.mk (Below.refl w.heap.size w)
  have H : ((some (([0, 7, 11, 16, 21, 26, 31, 36] : List Int) : List Int)).bind fun y275 => (if 0 ≤ a0 then (if a0 < (y275.length : Int) then (some (rd y275 a0)) else (none)) else (none))) = some r := h
  clear h
  obtain ⟨y275, hy275⟩ : ∃ y_ : List Int, y_ = (([0, 7, 11, 16, 21, 26, 31, 36] : List Int)) := ⟨_, rfl⟩
  replace H : (if 0 ≤ a0 then (if a0 < (y275.length : Int) then (some (rd y275 a0)) else (none)) else (none)) = some r := by first | (rw [hy275]; with_reducible exact H) | (have H2_ := (Option.bind_some _ _).symm.trans H; rw [hy275]; with_reducible exact H2_) | (have H2_ := (Option.bind_some _ _).symm.trans H; with_reducible exact H2_) | with_reducible exact H | (rw [hy275]; exact H) | exact H
  have Ny275 := Aside0.mk hy275
  clear hy275
  by_cases c2 : 0 ≤ a0
  · rw [if_pos c2] at H
    have c2b0 : decide (0 ≤ a0) = true := decide_eq_true c2
    clear c2
    by_cases c3 : a0 < (y275.length : Int)
    · rw [if_pos c3] at H
      have c3b0 : decide (a0 < (y275.length : Int)) = true := decide_eq_true c3
      clear c3
      obtain rfl := Option.some.inj H
      go_enter Try.func56, Try.ntmps56
      go_wp2_with (first | ((with_reducible refine gate_dst (N := 3) rfl ?_); refine Kd.R_lit (Kd.int .i64) _ 3 ?hg (N := 3) ?hd (xs := ([0, 7, 11, 16, 21, 26, 31, 36] : List Int)) (inner := [.int .i64 0, .int .i64 7, .int .i64 11, .int .i64 16, .int .i64 21, .int .i64 26, .int .i64 31, .int .i64 36]) (ok := fun _ => True) (okp := fun _ => True) ?hr ?hp (fun _ hk => hk) trivial (Below.refl _ _) (Nat.le_refl _) (by simp) ?_; (case hd => rfl); (case hg => rfl); (case hr => first | (go_simp; done) | (go_simp; rfl)); (case hp => exact (Reps.one (show Kd.M (Kd.int .i64) _ _ _ 0 [.int .i64 0] from rfl) (Reps.one (show Kd.M (Kd.int .i64) _ _ _ 7 [.int .i64 7] from rfl) (Reps.one (show Kd.M (Kd.int .i64) _ _ _ 11 [.int .i64 11] from rfl) (Reps.one (show Kd.M (Kd.int .i64) _ _ _ 16 [.int .i64 16] from rfl) (Reps.one (show Kd.M (Kd.int .i64) _ _ _ 21 [.int .i64 21] from rfl) (Reps.one (show Kd.M (Kd.int .i64) _ _ _ 26 [.int .i64 26] from rfl) (Reps.one (show Kd.M (Kd.int .i64) _ _ _ 31 [.int .i64 31] from rfl) (Reps.one (show Kd.M (Kd.int .i64) _ _ _ 36 [.int .i64 36] from rfl) (Reps.none _ _)))))))))); intro v276 w4 ho5 hb hg_ hnew_; clear hg_ hnew_; (first | rw [← Ny275.out] at ho5 | (simp only [Int.reduceToNat] at ho5; rw [← Ny275.out] at ho5)); have n0_ := Aside0.mk (Kd.R_lower ho5 (below_size (by repeat (first | (with_reducible first | exact HB.out | apply below_alloc | apply pw_below_drewN | apply below_drew1) | exact HB.out)))); have n1_ := Aside0.mk (below_step (by repeat (first | (with_reducible first | exact HB.out | apply below_alloc | apply pw_below_drewN | apply below_drew1) | exact HB.out)) hb); clear HB; have HO277 := n0_; have HB := n1_; clear n0_ n1_; clear hb ho5; obtain ⟨Ao6, co6, eo6⟩ := Kd.R_slice HO277.out; subst eo6; have p278 : 0 ≤ (a0 : Int) := of_decide_eq_true (by first | (with_reducible assumption) | assumption); have q278 : a0 < (y275.length : Int) := of_decide_eq_true (by first | (with_reducible assumption) | assumption); obtain ⟨ad278, e278, hx278_0⟩ := Kd.at_int (Kd.R_reads' HO277.out).2.2 a0 p278 q278; cases e278; replace p278 := eq_true p278; replace q278 := eq_true q278))
      go_ret
      exact ⟨by first | rfl | (simp [errW_none, errW_some] <;> rfl) | (simp [*, errW_none, errW_some] <;> rfl), by repeat (first | (with_reducible first | exact HB.out | apply below_alloc | apply pw_below_drewN | apply below_drew1) | exact HB.out)⟩
    · rw [if_neg c3] at H
      exact absurd H (by simp)
  · rw [if_neg c2] at H
    exact absurd H (by simp)

/-! ### serinetteref03_Size: function 52 -/
mutual
def serinetteref03_Size.j0 : Nat → Int → Bool → Option (Int)
  | 0, _, _ => none
  | k + 1, x0, x11 => if x11 = true then (some 0) else (serinetteref03_Size.l0 k x0 1)
def serinetteref03_Size.l0 : Nat → Int → Int → Option (Int)
  | 0, _, _ => none
  | k + 1, x0, x3 => if x3 < 7 then (serinetteref03_Size.l1 k x0 x3 1 0) else (some 7)
def serinetteref03_Size.l1 : Nat → Int → Int → Int → Int → Option (Int)
  | 0, _, _, _, _ => none
  | k + 1, x0, x3, x4, x5 => (serinetteref03_Room.f x3).bind fun t279 => (if x5 < t279 then (serinetteref03_Size.l1 k x0 x3 (wrap64 (2 * x4)) (wrap64 (x5 + 1))) else (if x0 < x4 then (some x3) else (serinetteref03_Size.l0 k x0 (wrap64 (x3 + 1)))))
end
def serinetteref03_Size.f (k : Nat) (a0 : Int) : Option (Int) := if a0 < 0 then (serinetteref03_Size.j0 k a0 true) else (serinetteref03_Size.j0 k a0 (decide (a0 > 68719476735)))
theorem serinetteref03_Size.mono_l : ∀ k, (∀ y0 y1, LeO (serinetteref03_Size.j0 k y0 y1) (serinetteref03_Size.j0 (k + 1) y0 y1)) ∧ (∀ y0 y1, LeO (serinetteref03_Size.l0 k y0 y1) (serinetteref03_Size.l0 (k + 1) y0 y1)) ∧ (∀ y0 y1 y2 y3, LeO (serinetteref03_Size.l1 k y0 y1 y2 y3) (serinetteref03_Size.l1 (k + 1) y0 y1 y2 y3))
  | 0 => ⟨fun _ _ r h => by simp [serinetteref03_Size.j0] at h, fun _ _ r h => by simp [serinetteref03_Size.l0] at h, fun _ _ _ _ r h => by simp [serinetteref03_Size.l1] at h⟩
  | k + 1 => by
    obtain ⟨ih0, ih1, ih2⟩ := serinetteref03_Size.mono_l k
    refine ⟨?_, ?_, ?_⟩
    · intro y0 y1
      unfold serinetteref03_Size.j0
      repeat' first
      | (with_reducible exact ih0 _ _)
      | (with_reducible exact ih1 _ _)
      | (with_reducible exact ih2 _ _ _ _)
      | (with_reducible exact LeO.refl _)
      | (with_reducible exact LeO.none _)
      | (with_reducible refine LeO.ite ?_ ?_)
      | (with_reducible refine LeO.bind ?_ (fun _ => ?_))
      | exact ih0 _ _
      | exact ih1 _ _
      | exact ih2 _ _ _ _
      | exact LeO.none _
      | refine LeO.ite ?_ ?_
      | refine LeO.bind ?_ (fun _ => ?_)
    · intro y0 y1
      unfold serinetteref03_Size.l0
      repeat' first
      | (with_reducible exact ih0 _ _)
      | (with_reducible exact ih1 _ _)
      | (with_reducible exact ih2 _ _ _ _)
      | (with_reducible exact LeO.refl _)
      | (with_reducible exact LeO.none _)
      | (with_reducible refine LeO.ite ?_ ?_)
      | (with_reducible refine LeO.bind ?_ (fun _ => ?_))
      | exact ih0 _ _
      | exact ih1 _ _
      | exact ih2 _ _ _ _
      | exact LeO.none _
      | refine LeO.ite ?_ ?_
      | refine LeO.bind ?_ (fun _ => ?_)
    · intro y0 y1 y2 y3
      unfold serinetteref03_Size.l1
      repeat' first
      | (with_reducible exact ih0 _ _)
      | (with_reducible exact ih1 _ _)
      | (with_reducible exact ih2 _ _ _ _)
      | (with_reducible exact LeO.refl _)
      | (with_reducible exact LeO.none _)
      | (with_reducible refine LeO.ite ?_ ?_)
      | (with_reducible refine LeO.bind ?_ (fun _ => ?_))
      | exact ih0 _ _
      | exact ih1 _ _
      | exact ih2 _ _ _ _
      | exact LeO.none _
      | refine LeO.ite ?_ ?_
      | refine LeO.bind ?_ (fun _ => ?_)
theorem serinetteref03_Size.mono : ∀ a0 k, LeO (serinetteref03_Size.f k a0) (serinetteref03_Size.f (k + 1) a0) := by
  intro a0 k
  obtain ⟨ih0, ih1, ih2⟩ := serinetteref03_Size.mono_l k
  unfold serinetteref03_Size.f
  repeat' first
      | (with_reducible exact ih0 _ _)
      | (with_reducible exact ih1 _ _)
      | (with_reducible exact ih2 _ _ _ _)
      | (with_reducible exact LeO.refl _)
      | (with_reducible exact LeO.none _)
      | (with_reducible refine LeO.ite ?_ ?_)
      | (with_reducible refine LeO.bind ?_ (fun _ => ?_))
      | exact ih0 _ _
      | exact ih1 _ _
      | exact ih2 _ _ _ _
      | exact LeO.none _
      | refine LeO.ite ?_ ?_
      | refine LeO.bind ?_ (fun _ => ?_)
set_option maxHeartbeats 8000000 in
set_option maxRecDepth 100000 in
theorem serinetteref03_Size.calls (k : Nat) (a0 : Int) (r : Int) (w : World) (h : serinetteref03_Size.f k a0 = some r) :
    Calls Try.prog 52 #[.int .i64 a0] w fun e w' => e = .returned (.int .i64 r) ∧ Below w.heap.size w w' := by
  have HB := Aside0.mk (Below.refl w.heap.size w)
  have H : (if a0 < 0 then (serinetteref03_Size.j0 k a0 true) else (serinetteref03_Size.j0 k a0 (decide (a0 > 68719476735)))) = some r := h
  clear h
  have HC2 := Aside0.mk H
  clear H
  go_enter Try.func52, Try.ntmps52
  go_upto_region 1 with (fail)
  go_cut [11] (fun v11 wc => ∃ (kq : Nat) (x11_1 : Bool), v11 = .bool x11_1 ∧ Aside0 (serinetteref03_Size.j0 kq a0 x11_1 = some r) ∧ Aside0 (kq ≤ k) ∧ Aside0 (Below w.heap.size w wc))
  case first =>
    have H := HC2.out
    clear HC2
    by_cases c3 : a0 < 0
    · rw [if_pos c3] at H
      have c3b0 : decide (a0 < 0) = true := decide_eq_true c3
      clear c3
      (first | rw [c3b0] | (simp only [i64_w, i32_w]; rw [c3b0]) | skip)
      have H' := Aside0.mk H
      clear H
      go_wp2
      go_meet
      case rel => exact ⟨_, (true), (by first | rfl | (simp; done) | (simp [*]; done)), H', ⟨by first | omega | exact Nat.le_refl _⟩, ⟨by repeat (first | (with_reducible first | exact HB.out | apply below_alloc | apply pw_below_drewN | apply below_drew1) | exact HB.out)⟩⟩
    · rw [if_neg c3] at H
      have c3b0 : decide (a0 < 0) = false := decide_eq_false c3
      clear c3
      (first | rw [c3b0] | (simp only [i64_w, i32_w]; rw [c3b0]) | skip)
      have H' := Aside0.mk H
      clear H
      go_wp2
      go_meet
      case rel => exact ⟨_, (decide (a0 > 68719476735)), (by first | rfl | (simp; done) | (simp [*]; done)), H', ⟨by first | omega | exact Nat.le_refl _⟩, ⟨by repeat (first | (with_reducible first | exact HB.out | apply below_alloc | apply pw_below_drewN | apply below_drew1) | exact HB.out)⟩⟩
  case rest =>
    clear HC2
    try clear p2
    try clear c3
    try clear c3b0
    obtain ⟨kq, x11_1, rfl, HA, HJ1, HB⟩ := hcut
    cases kq with
    | zero => exact absurd HA.out (by simp [serinetteref03_Size.j0])
    | succ kj1 =>
      have H := HA.out
      clear HA
      simp only [serinetteref03_Size.j0] at H
      by_cases c4 : x11_1 = true
      · subst c4
        have H1 : (some 0) = some r := by rw [if_pos rfl] at H; exact H
        clear H
        have H := H1
        clear H1
        obtain rfl := Option.some.inj H
        go_wp2
        go_ret
        exact ⟨by first | rfl | (simp [errW_none, errW_some] <;> rfl) | (simp [*, errW_none, errW_some] <;> rfl), by repeat (first | (with_reducible first | exact HB.out | apply below_alloc | apply pw_below_drewN | apply below_drew1) | exact HB.out)⟩
      · replace c4 := Bool.eq_false_iff.mpr c4
        subst c4
        have H1 : (serinetteref03_Size.l0 kj1 a0 1) = some r := by rw [if_neg (show ¬ (false = true) by decide)] at H; exact H
        clear H
        have H := H1
        clear H1
        have H' := Aside0.mk H
        clear H
        go_wp2
        go_loopg [3] kj1 (fun kq v3 w' => ∃ (x3_2 : Int), v3 = .int .i64 x3_2 ∧ Aside0 (serinetteref03_Size.l0 kq a0 x3_2 = some r) ∧ Aside0 (kq ≤ kj1) ∧ Aside0 (Below w.heap.size w w'))
        case atStart => exact ⟨(1), (by first | rfl | (simp; done) | (simp [*]; done)), H', ⟨Nat.le_refl _⟩, ⟨by repeat (first | (with_reducible first | exact HB.out | apply below_alloc | apply pw_below_drewN | apply below_drew1) | exact HB.out)⟩⟩
        case round =>
          clear H'
          try clear p2
          try clear c3
          try clear c3b0
          try clear c4
          try clear p2
          obtain ⟨x3_2, rfl, HA, HK2, HB⟩ := hrel
          cases gk with
          | zero => exact absurd HA.out (by simp [serinetteref03_Size.l0])
          | succ k2 =>
            have H := HA.out
            clear HA
            simp only [serinetteref03_Size.l0] at H
            by_cases c5 : x3_2 < 7
            · rw [if_pos c5] at H
              have c5b0 : decide (x3_2 < 7) = true := decide_eq_true c5
              clear c5
              have H' := Aside0.mk H
              clear H
              go_wp2
              go_loopg [4, 5] k2 (fun kq v4 v5 w' => ∃ (x4_3 : Int) (x5_3 : Int), v4 = .int .i64 x4_3 ∧ v5 = .int .i64 x5_3 ∧ Aside0 (serinetteref03_Size.l1 kq a0 x3_2 x4_3 x5_3 = some r) ∧ Aside0 (kq ≤ k2) ∧ Aside0 (Below w.heap.size w w'))
              case atStart => exact ⟨(1), (0), (by first | rfl | (simp; done) | (simp [*]; done)), (by first | rfl | (simp; done) | (simp [*]; done)), H', ⟨Nat.le_refl _⟩, ⟨by repeat (first | (with_reducible first | exact HB.out | apply below_alloc | apply pw_below_drewN | apply below_drew1) | exact HB.out)⟩⟩
              case round =>
                clear H'
                try clear p2
                try clear c3
                try clear c3b0
                try clear c4
                try clear c5
                try clear c5b0
                try clear p2
                obtain ⟨x4_3, x5_3, rfl, rfl, HA, HK3, HB⟩ := hrel
                cases gk with
                | zero => exact absurd HA.out (by simp [serinetteref03_Size.l1])
                | succ k3 =>
                  have H := HA.out
                  clear HA
                  simp only [serinetteref03_Size.l1] at H
                  replace H := Option.bind_eq_some_iff.mp H
                  obtain ⟨t279, A60, H⟩ := H
                  replace H : (if x5_3 < t279 then (serinetteref03_Size.l1 k3 a0 x3_2 (wrap64 (2 * x4_3)) (wrap64 (x5_3 + 1))) else (if a0 < x4_3 then (some x3_2) else (serinetteref03_Size.l0 k3 a0 (wrap64 (x3_2 + 1))))) = some r := H
                  have A6 := Aside0.mk A60
                  clear A60
                  by_cases c7 : x5_3 < t279
                  · rw [if_pos c7] at H
                    have c7b0 : decide (x5_3 < t279) = true := decide_eq_true c7
                    clear c7
                    have H' := Aside0.mk H
                    clear H
                    go_wp2_with (first | ((with_reducible refine gate_callee (f := 56) rfl ?_); refine goesL_ (some 18) rfl rfl Try.func56 (by kernel_rfl) rfl #[.int .i64 x3_2] rfl (by (try simp only [List.map_toArray, List.map_cons, List.map_nil]); first | done | rfl | (simp only [List.length_drop, List.length_take]; rfl)) ?_; (with_reducible refine (serinetteref03_Room.calls x3_2 t279 _ A6.out).mono ?_); rintro e w8 ⟨rfl, hb⟩; refine ⟨_, rfl, ?_⟩; have n0_ := Aside0.mk (below_step (by repeat (first | (with_reducible first | exact HB.out | apply below_alloc | apply pw_below_drewN | apply below_drew1) | exact HB.out)) hb); clear HB; have HB := n0_; clear n0_; (try clear hb); (try clear hb2); (try clear hk); (try clear hi)))
                    go_roundg k3
                    case measure => have := HJ1.out; have := HK2.out; have := HK3.out; omega
                    case rel => exact ⟨(wrap64 (2 * x4_3)), (wrap64 (x5_3 + 1)), (by first | rfl | (simp; done) | (simp [*]; done)), (by first | rfl | (simp; done) | (simp [*]; done)), H', ⟨by have := HJ1.out; have := HK2.out; have := HK3.out; omega⟩, ⟨by repeat (first | (with_reducible first | exact HB.out | apply below_alloc | apply pw_below_drewN | apply below_drew1) | exact HB.out)⟩⟩
                  · rw [if_neg c7] at H
                    have c7b0 : decide (x5_3 < t279) = false := decide_eq_false c7
                    clear c7
                    by_cases c9 : a0 < x4_3
                    · rw [if_pos c9] at H
                      have c9b0 : decide (a0 < x4_3) = true := decide_eq_true c9
                      clear c9
                      obtain rfl := Option.some.inj H
                      go_wp2_with (first | ((with_reducible refine gate_callee (f := 56) rfl ?_); refine goesL_ (some 18) rfl rfl Try.func56 (by kernel_rfl) rfl #[.int .i64 x3_2] rfl (by (try simp only [List.map_toArray, List.map_cons, List.map_nil]); first | done | rfl | (simp only [List.length_drop, List.length_take]; rfl)) ?_; (with_reducible refine (serinetteref03_Room.calls x3_2 t279 _ A6.out).mono ?_); rintro e w10 ⟨rfl, hb⟩; refine ⟨_, rfl, ?_⟩; have n0_ := Aside0.mk (below_step (by repeat (first | (with_reducible first | exact HB.out | apply below_alloc | apply pw_below_drewN | apply below_drew1) | exact HB.out)) hb); clear HB; have HB := n0_; clear n0_; (try clear hb); (try clear hb2); (try clear hk); (try clear hi)))
                      go_ret
                      exact ⟨by first | rfl | (simp [errW_none, errW_some] <;> rfl) | (simp [*, errW_none, errW_some] <;> rfl), by repeat (first | (with_reducible first | exact HB.out | apply below_alloc | apply pw_below_drewN | apply below_drew1) | exact HB.out)⟩
                    · rw [if_neg c9] at H
                      have c9b0 : decide (a0 < x4_3) = false := decide_eq_false c9
                      clear c9
                      have H' := Aside0.mk H
                      clear H
                      go_wp2_with (first | ((with_reducible refine gate_callee (f := 56) rfl ?_); refine goesL_ (some 18) rfl rfl Try.func56 (by kernel_rfl) rfl #[.int .i64 x3_2] rfl (by (try simp only [List.map_toArray, List.map_cons, List.map_nil]); first | done | rfl | (simp only [List.length_drop, List.length_take]; rfl)) ?_; (with_reducible refine (serinetteref03_Room.calls x3_2 t279 _ A6.out).mono ?_); rintro e w11 ⟨rfl, hb⟩; refine ⟨_, rfl, ?_⟩; have n0_ := Aside0.mk (below_step (by repeat (first | (with_reducible first | exact HB.out | apply below_alloc | apply pw_below_drewN | apply below_drew1) | exact HB.out)) hb); clear HB; have HB := n0_; clear n0_; (try clear hb); (try clear hb2); (try clear hk); (try clear hi)))
                      go_roundg k3
                      case measure => have := HJ1.out; have := HK2.out; have := HK3.out; omega
                      case rel => exact ⟨(wrap64 (x3_2 + 1)), (by first | rfl | (simp; done) | (simp [*]; done)), H', ⟨by have := HJ1.out; have := HK2.out; have := HK3.out; omega⟩, ⟨by repeat (first | (with_reducible first | exact HB.out | apply below_alloc | apply pw_below_drewN | apply below_drew1) | exact HB.out)⟩⟩
            · rw [if_neg c5] at H
              have c5b0 : decide (x3_2 < 7) = false := decide_eq_false c5
              clear c5
              obtain rfl := Option.some.inj H
              go_wp2
              go_ret
              exact ⟨by first | rfl | (simp [errW_none, errW_some] <;> rfl) | (simp [*, errW_none, errW_some] <;> rfl), by repeat (first | (with_reducible first | exact HB.out | apply below_alloc | apply pw_below_drewN | apply below_drew1) | exact HB.out)⟩

/-! ### serinetteref03_Lead: function 53 -/
def serinetteref03_Lead.f (a0 : Int) : Option (Int) := (some (([0, 0, 192, 224, 240, 248, 252, 254] : List Int) : List Int)).bind fun y280 => (if 0 ≤ a0 then (if a0 < (y280.length : Int) then (some (rd y280 a0)) else (none)) else (none))
set_option maxHeartbeats 8000000 in
set_option maxRecDepth 100000 in
theorem serinetteref03_Lead.calls (a0 : Int) (r : Int) (w : World) (h : serinetteref03_Lead.f a0 = some r) :
    Calls Try.prog 53 #[.int .i64 a0] w fun e w' => e = .returned (.int .i64 r) ∧ Below w.heap.size w w' := by
  have HB := Aside0.mk (Below.refl w.heap.size w)
  have H : ((some (([0, 0, 192, 224, 240, 248, 252, 254] : List Int) : List Int)).bind fun y280 => (if 0 ≤ a0 then (if a0 < (y280.length : Int) then (some (rd y280 a0)) else (none)) else (none))) = some r := h
  clear h
  obtain ⟨y280, hy280⟩ : ∃ y_ : List Int, y_ = (([0, 0, 192, 224, 240, 248, 252, 254] : List Int)) := ⟨_, rfl⟩
  replace H : (if 0 ≤ a0 then (if a0 < (y280.length : Int) then (some (rd y280 a0)) else (none)) else (none)) = some r := by first | (rw [hy280]; with_reducible exact H) | (have H2_ := (Option.bind_some _ _).symm.trans H; rw [hy280]; with_reducible exact H2_) | (have H2_ := (Option.bind_some _ _).symm.trans H; with_reducible exact H2_) | with_reducible exact H | (rw [hy280]; exact H) | exact H
  have Ny280 := Aside0.mk hy280
  clear hy280
  by_cases c2 : 0 ≤ a0
  · rw [if_pos c2] at H
    have c2b0 : decide (0 ≤ a0) = true := decide_eq_true c2
    clear c2
    by_cases c3 : a0 < (y280.length : Int)
    · rw [if_pos c3] at H
      have c3b0 : decide (a0 < (y280.length : Int)) = true := decide_eq_true c3
      clear c3
      obtain rfl := Option.some.inj H
      go_enter Try.func53, Try.ntmps53
      go_wp2_with (first | ((with_reducible refine gate_dst (N := 3) rfl ?_); refine Kd.R_lit (Kd.int .i64) _ 3 ?hg (N := 3) ?hd (xs := ([0, 0, 192, 224, 240, 248, 252, 254] : List Int)) (inner := [.int .i64 0, .int .i64 0, .int .i64 192, .int .i64 224, .int .i64 240, .int .i64 248, .int .i64 252, .int .i64 254]) (ok := fun _ => True) (okp := fun _ => True) ?hr ?hp (fun _ hk => hk) trivial (Below.refl _ _) (Nat.le_refl _) (by simp) ?_; (case hd => rfl); (case hg => rfl); (case hr => first | (go_simp; done) | (go_simp; rfl)); (case hp => exact (Reps.one (show Kd.M (Kd.int .i64) _ _ _ 0 [.int .i64 0] from rfl) (Reps.one (show Kd.M (Kd.int .i64) _ _ _ 0 [.int .i64 0] from rfl) (Reps.one (show Kd.M (Kd.int .i64) _ _ _ 192 [.int .i64 192] from rfl) (Reps.one (show Kd.M (Kd.int .i64) _ _ _ 224 [.int .i64 224] from rfl) (Reps.one (show Kd.M (Kd.int .i64) _ _ _ 240 [.int .i64 240] from rfl) (Reps.one (show Kd.M (Kd.int .i64) _ _ _ 248 [.int .i64 248] from rfl) (Reps.one (show Kd.M (Kd.int .i64) _ _ _ 252 [.int .i64 252] from rfl) (Reps.one (show Kd.M (Kd.int .i64) _ _ _ 254 [.int .i64 254] from rfl) (Reps.none _ _)))))))))); intro v281 w4 ho5 hb hg_ hnew_; clear hg_ hnew_; (first | rw [← Ny280.out] at ho5 | (simp only [Int.reduceToNat] at ho5; rw [← Ny280.out] at ho5)); have n0_ := Aside0.mk (Kd.R_lower ho5 (below_size (by repeat (first | (with_reducible first | exact HB.out | apply below_alloc | apply pw_below_drewN | apply below_drew1) | exact HB.out)))); have n1_ := Aside0.mk (below_step (by repeat (first | (with_reducible first | exact HB.out | apply below_alloc | apply pw_below_drewN | apply below_drew1) | exact HB.out)) hb); clear HB; have HO282 := n0_; have HB := n1_; clear n0_ n1_; clear hb ho5; obtain ⟨Ao6, co6, eo6⟩ := Kd.R_slice HO282.out; subst eo6; have p283 : 0 ≤ (a0 : Int) := of_decide_eq_true (by first | (with_reducible assumption) | assumption); have q283 : a0 < (y280.length : Int) := of_decide_eq_true (by first | (with_reducible assumption) | assumption); obtain ⟨ad283, e283, hx283_0⟩ := Kd.at_int (Kd.R_reads' HO282.out).2.2 a0 p283 q283; cases e283; replace p283 := eq_true p283; replace q283 := eq_true q283))
      go_ret
      exact ⟨by first | rfl | (simp [errW_none, errW_some] <;> rfl) | (simp [*, errW_none, errW_some] <;> rfl), by repeat (first | (with_reducible first | exact HB.out | apply below_alloc | apply pw_below_drewN | apply below_drew1) | exact HB.out)⟩
    · rw [if_neg c3] at H
      exact absurd H (by simp)
  · rw [if_neg c2] at H
    exact absurd H (by simp)

/-! ### serinetteref03_Encode: function 50 -/
def serinetteref03_Encode.l0 : Nat → Int → Int → List Int → Int → Option (List Int × Int)
  | 0, _, _, _, _ => none
  | k + 1, x0, x4, x5, x6 => if x6 < x4 then ((some (([(wrap64 (128 + (Int.tmod x0 64))) % 256] : List Int) : List Int)).bind fun y285 => (if y285.length + x5.length < 140737488355328 then (serinetteref03_Encode.l0 k (wrap64 (Int.tdiv x0 64)) x4 (y285 ++ x5) (wrap64 (x6 + 1))) else (none))) else ((serinetteref03_Lead.f x4).bind fun t291 => ((some (([(wrap64 (t291 + x0)) % 256] : List Int) : List Int)).bind fun y292 => (if y292.length + x5.length < 140737488355328 then (some ((y292 ++ x5), 0)) else (none))))
def serinetteref03_Encode.f (k : Nat) (a0 : Int) : Option (List Int × Int) := (serinetteref03_Size.f k a0).bind fun t284 => (if t284 = 0 then (some (([] : List Int), 6)) else (serinetteref03_Encode.l0 k a0 t284 ([] : List Int) 1))
theorem serinetteref03_Encode.mono_l : ∀ k, (∀ y0 y1 y2 y3, LeO (serinetteref03_Encode.l0 k y0 y1 y2 y3) (serinetteref03_Encode.l0 (k + 1) y0 y1 y2 y3))
  | 0 => fun _ _ _ _ r h => by simp [serinetteref03_Encode.l0] at h
  | k + 1 => by
    have ih0 := serinetteref03_Encode.mono_l k
    · intro y0 y1 y2 y3
      unfold serinetteref03_Encode.l0
      repeat' first
      | (with_reducible exact ih0 _ _ _ _)
      | (with_reducible exact serinetteref03_Size.mono _ _)
      | (with_reducible exact LeO.refl _)
      | (with_reducible exact LeO.none _)
      | (with_reducible refine LeO.ite ?_ ?_)
      | (with_reducible refine LeO.bind ?_ (fun _ => ?_))
      | exact ih0 _ _ _ _
      | exact serinetteref03_Size.mono _ _
      | exact LeO.none _
      | refine LeO.ite ?_ ?_
      | refine LeO.bind ?_ (fun _ => ?_)
theorem serinetteref03_Encode.mono : ∀ a0 k, LeO (serinetteref03_Encode.f k a0) (serinetteref03_Encode.f (k + 1) a0) := by
  intro a0 k
  have ih0 := serinetteref03_Encode.mono_l k
  unfold serinetteref03_Encode.f
  repeat' first
      | (with_reducible exact ih0 _ _ _ _)
      | (with_reducible exact serinetteref03_Size.mono _ _)
      | (with_reducible exact LeO.refl _)
      | (with_reducible exact LeO.none _)
      | (with_reducible refine LeO.ite ?_ ?_)
      | (with_reducible refine LeO.bind ?_ (fun _ => ?_))
      | exact ih0 _ _ _ _
      | exact serinetteref03_Size.mono _ _
      | exact LeO.none _
      | refine LeO.ite ?_ ?_
      | refine LeO.bind ?_ (fun _ => ?_)
set_option maxHeartbeats 8000000 in
set_option maxRecDepth 100000 in
theorem serinetteref03_Encode.calls (k : Nat) (a0 : Int) (r1 : List Int) (r2 : Int) (w : World) (h : serinetteref03_Encode.f k a0 = some (r1, r2)) :
    Calls Try.prog 50 #[.int .i64 a0] w fun e w' => ∃ v0_ : Value, e = .returned (.tuple #[v0_, .int .i64 r2]) ∧ Kd.R (Kd.int .u8) 5 w' w.heap.size (fun _ => True) v0_ r1 ∧ Below w.heap.size w w' := by
  have HB := Aside0.mk (Below.refl w.heap.size w)
  have H : ((serinetteref03_Size.f k a0).bind fun t284 => (if t284 = 0 then (some (([] : List Int), 6)) else (serinetteref03_Encode.l0 k a0 t284 ([] : List Int) 1))) = some (r1, r2) := h
  clear h
  replace H := Option.bind_eq_some_iff.mp H
  obtain ⟨t284, A20, H⟩ := H
  replace H : (if t284 = 0 then (some (([] : List Int), 6)) else (serinetteref03_Encode.l0 k a0 t284 ([] : List Int) 1)) = some (r1, r2) := H
  have A2 := Aside0.mk A20
  clear A20
  by_cases c3 : t284 = 0
  · rw [if_pos c3] at H
    have c3b0 : (t284 == 0) = true := beq_iff_eq.mpr c3
    have c3b1 : (t284 != 0) = false := bne_eq_false_iff_eq.mpr c3
    clear c3
    simp only [Option.some.injEq, Prod.mk.injEq] at H
    obtain ⟨rfl, rfl⟩ := H
    go_enter Try.func50, Try.ntmps50
    go_wp2_with (first | ((with_reducible refine gate_callee (f := 52) rfl ?_); refine goesL_ (some 8) rfl rfl Try.func52 (by kernel_rfl) rfl #[.int .i64 a0] rfl (by (try simp only [List.map_toArray, List.map_cons, List.map_nil]); first | done | rfl | (simp only [List.length_drop, List.length_take]; rfl)) ?_; (with_reducible refine (serinetteref03_Size.calls k a0 t284 _ A2.out).mono ?_); rintro e w4 ⟨rfl, hb⟩; refine ⟨_, rfl, ?_⟩; have n0_ := Aside0.mk (below_step (by repeat (first | (with_reducible first | exact HB.out | apply below_alloc | apply pw_below_drewN | apply below_drew1) | exact HB.out)) hb); clear HB; have HB := n0_; clear n0_; (try clear hb); (try clear hb2); (try clear hk); (try clear hi)))
    go_ret2
    exact ⟨_, by first | rfl | (simp [errW_none, errW_some] <;> rfl) | (simp [*, errW_none, errW_some] <;> rfl), by first | exact Kd.R_nil _ _ _ _ _ | exact Kd.N_nil _ _ _ _ _ | exact Kd.V_nil _ _ _ _ _ | exact Kd.Q_nil _ _ _ _ _ | exact Kd.S_nil _ _ _ _ _, by repeat (first | (with_reducible first | exact HB.out | apply below_alloc | apply pw_below_drewN | apply below_drew1) | exact HB.out)⟩
  · rw [if_neg c3] at H
    have c3b0 : (t284 == 0) = false := beq_eq_false_iff_ne.mpr c3
    have c3b1 : (t284 != 0) = true := bne_iff_ne.mpr c3
    have H' := Aside0.mk H
    clear H
    go_enter Try.func50, Try.ntmps50
    go_wp2_with (first | ((with_reducible refine gate_callee (f := 52) rfl ?_); refine goesL_ (some 8) rfl rfl Try.func52 (by kernel_rfl) rfl #[.int .i64 a0] rfl (by (try simp only [List.map_toArray, List.map_cons, List.map_nil]); first | done | rfl | (simp only [List.length_drop, List.length_take]; rfl)) ?_; (with_reducible refine (serinetteref03_Size.calls k a0 t284 _ A2.out).mono ?_); rintro e w5 ⟨rfl, hb⟩; refine ⟨_, rfl, ?_⟩; have n0_ := Aside0.mk (below_step (by repeat (first | (with_reducible first | exact HB.out | apply below_alloc | apply pw_below_drewN | apply below_drew1) | exact HB.out)) hb); clear HB; have HB := n0_; clear n0_; (try clear hb); (try clear hb2); (try clear hk); (try clear hi)))
    go_loopg [0, 5, 6] k (fun kq v0 v5 v6 w' => ∃ (x0_1 : Int) (x5_1 : List Int) (x6_1 : Int), v0 = .int .i64 x0_1 ∧ v6 = .int .i64 x6_1 ∧ Aside0 (serinetteref03_Encode.l0 kq x0_1 t284 x5_1 x6_1 = some (r1, r2)) ∧ Aside0 (kq ≤ k) ∧ Aside0 (Kd.R (Kd.int .u8) 5 w' w.heap.size (fun _ => True) v5 x5_1) ∧ Aside0 (Below w.heap.size w w'))
    case atStart => exact ⟨(a0), (([] : List Int)), (1), (by first | rfl | (simp; done) | (simp [*]; done)), (by first | rfl | (simp; done) | (simp [*]; done)), H', ⟨Nat.le_refl _⟩, ⟨by first | exact Kd.R_nil _ _ _ _ _ | exact Kd.N_nil _ _ _ _ _ | exact Kd.V_nil _ _ _ _ _ | exact Kd.Q_nil _ _ _ _ _ | exact Kd.S_nil _ _ _ _ _⟩, ⟨by repeat (first | (with_reducible first | exact HB.out | apply below_alloc | apply pw_below_drewN | apply below_drew1) | exact HB.out)⟩⟩
    case round =>
      clear H'
      try clear p2
      try clear c3
      try clear c3b0
      try clear c3b1
      try clear c5
      obtain ⟨x0_1, x5_1, x6_1, rfl, rfl, HA, HK1, HO_5, HB⟩ := hrel
      cases gk with
      | zero => exact absurd HA.out (by simp [serinetteref03_Encode.l0])
      | succ k1 =>
        have H := HA.out
        clear HA
        simp only [serinetteref03_Encode.l0] at H
        by_cases c6 : x6_1 < t284
        · rw [if_pos c6] at H
          have c6b0 : decide (x6_1 < t284) = true := decide_eq_true c6
          clear c6
          obtain ⟨y285, hy285⟩ : ∃ y_ : List Int, y_ = (([(wrap64 (128 + (Int.tmod x0_1 64))) % 256] : List Int)) := ⟨_, rfl⟩
          replace H : (if y285.length + x5_1.length < 140737488355328 then (serinetteref03_Encode.l0 k1 (wrap64 (Int.tdiv x0_1 64)) t284 (y285 ++ x5_1) (wrap64 (x6_1 + 1))) else (none)) = some (r1, r2) := by first | (rw [hy285]; with_reducible exact H) | (have H2_ := (Option.bind_some _ _).symm.trans H; rw [hy285]; with_reducible exact H2_) | (have H2_ := (Option.bind_some _ _).symm.trans H; with_reducible exact H2_) | with_reducible exact H | (rw [hy285]; exact H) | exact H
          have Ny285 := Aside0.mk hy285
          clear hy285
          by_cases c7 : y285.length + x5_1.length < 140737488355328
          · rw [if_pos c7] at H
            have LMc7 := Aside0.mk c7
            clear c7
            obtain ⟨y288, hy288⟩ : ∃ y_ : List Int, y_ = (y285 ++ x5_1) := ⟨_, rfl⟩
            replace H : (serinetteref03_Encode.l0 k1 (wrap64 (Int.tdiv x0_1 64)) t284 y288 (wrap64 (x6_1 + 1))) = some (r1, r2) := by first | (rw [hy288]; with_reducible exact H) | (have H2_ := (Option.bind_some _ _).symm.trans H; rw [hy288]; with_reducible exact H2_) | (have H2_ := (Option.bind_some _ _).symm.trans H; with_reducible exact H2_) | with_reducible exact H | (rw [hy288]; exact H) | exact H
            have Ny288 := Aside0.mk hy288
            clear hy288
            have H' := Aside0.mk H
            clear H
            go_wp2_with (first | ((with_reducible refine gate_dst (N := 20) rfl ?_); refine Kd.R_lit (Kd.int .u8) _ 5 ?hg (N := 20) ?hd (xs := ([(wrap64 (128 + (Int.tmod x0_1 64))) % 256] : List Int)) (inner := [.int .u8 ((wrap64 (128 + (Int.tmod x0_1 64))) % 256)]) (ok := fun _ => True) (okp := fun _ => True) ?hr ?hp (fun _ hk => hk) trivial (Below.refl _ _) (Nat.le_refl _) (by simp) ?_; (case hd => rfl); (case hg => rfl); (case hr => first | (go_simp; done) | (go_simp; rfl)); (case hp => exact (Reps.one (show Kd.M (Kd.int .u8) _ _ _ ((wrap64 (128 + (Int.tmod x0_1 64))) % 256) [.int .u8 ((wrap64 (128 + (Int.tmod x0_1 64))) % 256)] from rfl) (Reps.none _ _))); intro v286 w8 ho9 hb hg_ hnew_; clear hg_ hnew_; (first | rw [← Ny285.out] at ho9 | (simp only [Int.reduceToNat] at ho9; rw [← Ny285.out] at ho9)); have n0_ := Aside0.mk (Kd.R_elder' (by (with_reducible repeat (first | apply Kd.R_alloc | apply Kd.R_drewN | apply Kd.R_drew)); exact HO_5.out) (Kd.R_base ho9) hb); have n1_ := Aside0.mk (Kd.R_lower (Kd.R_new' ho9 (Kd.R_lt (by (with_reducible repeat (first | apply Kd.R_alloc | apply Kd.R_drewN | apply Kd.R_drew)); exact HO_5.out))) (below_size (by repeat (first | (with_reducible first | exact HB.out | apply below_alloc | apply pw_below_drewN | apply below_drew1) | exact HB.out)))); have n2_ := Aside0.mk (below_step (by repeat (first | (with_reducible first | exact HB.out | apply below_alloc | apply pw_below_drewN | apply below_drew1) | exact HB.out)) hb); clear HO_5; clear HB; have HO_5 := n0_; have HO287 := n1_; have HB := n2_; clear n0_ n1_ n2_; clear hb ho9; obtain ⟨Ao11, co11, eo11⟩ := Kd.R_slice HO_5.out; subst eo11) | ((with_reducible refine gate_builtin (b := .append) (xs := #[.tmp 20, .tmp 21]) rfl ?_); at_builtin; refine Kd.R_append_rows (Kd.int .u8) (w0 := w) w.heap.size rfl (.tmp 20) (.tmp 21) 23 5 (.int .u8 0) 1 rfl Try.underlying23 info5 rfl (by decide) (by omega) v286 y285 x5_1 _ _ _ (fun k_ => some k_ ≠ (.slice Ao11 x5_1.length co11 : Value).ownBlock) (fun _ => False) rfl rfl ?aO ?aR (fun _ _ h => h) (fun _ h => h.elim) ?aF ?aB ?aS ?aL ?_; (case aR => repeat (first | exact (Kd.R_reads' HO_5.out).2.2 | (with_reducible refine Kd.C_alloc ?_ _) | (with_reducible refine Kd.C_drewN ?_ _) | (with_reducible refine Kd.C_drew ?_))); (case aB => exact (by repeat (first | (with_reducible first | exact HB.out | apply below_alloc | apply pw_below_drewN | apply below_drew1) | exact HB.out))); (case aF => exact (fun k_ hk => Kd.fresh' (Kd.R_lt (by (with_reducible repeat (first | apply Kd.R_alloc | apply Kd.R_drewN | apply Kd.R_drew)); exact HO_5.out)) k_ hk)); (case aO => exact (by (with_reducible repeat (first | apply Kd.R_alloc | apply Kd.R_drewN | apply Kd.R_drew)); exact Kd.R_mono HO287.out (fun _ hk => hk.2))); (case aS => exact (below_size (by repeat (first | (with_reducible first | exact HB.out | apply below_alloc | apply pw_below_drewN | apply below_drew1) | exact HB.out)))); (case aL => have := LMc7.out; omega); intro v289 w10 ho hb hg hat; rw [← Ny288.out] at ho; have n0_ := Aside0.mk (Kd.R_after (ok := (fun _ => True)) (by (with_reducible repeat (first | apply Kd.R_alloc | apply Kd.R_drewN | apply Kd.R_drew)); exact HO_5.out) hg hat); have n1_ := Aside0.mk (hb); have n2_ := Aside0.mk (ho); clear HO_5; clear HB; clear HO287; have HO_5 := n0_; have HB := n1_; have HO290 := n2_; clear n0_ n1_ n2_; clear ho hb hg hat))
            go_roundg k1
            case measure => have := HK1.out; omega
            case rel => exact ⟨(wrap64 (Int.tdiv x0_1 64)), (y288), (wrap64 (x6_1 + 1)), (by first | rfl | (simp; done) | (simp [*]; done)), (by first | rfl | (simp; done) | (simp [*]; done)), H', ⟨by have := HK1.out; omega⟩, ⟨by (with_reducible repeat (first | apply Kd.R_alloc | apply Kd.R_drewN | apply Kd.R_drew)); exact Kd.R_mono HO290.out (fun _ hk => trivial)⟩, ⟨by repeat (first | (with_reducible first | exact HB.out | apply below_alloc | apply pw_below_drewN | apply below_drew1) | exact HB.out)⟩⟩
          · rw [if_neg c7] at H
            exact absurd H (by simp)
        · rw [if_neg c6] at H
          have c6b0 : decide (x6_1 < t284) = false := decide_eq_false c6
          clear c6
          replace H := Option.bind_eq_some_iff.mp H
          obtain ⟨t291, A120, H⟩ := H
          replace H : ((some (([(wrap64 (t291 + x0_1)) % 256] : List Int) : List Int)).bind fun y292 => (if y292.length + x5_1.length < 140737488355328 then (some ((y292 ++ x5_1), 0)) else (none))) = some (r1, r2) := H
          have A12 := Aside0.mk A120
          clear A120
          obtain ⟨y292, hy292⟩ : ∃ y_ : List Int, y_ = (([(wrap64 (t291 + x0_1)) % 256] : List Int)) := ⟨_, rfl⟩
          replace H : (if y292.length + x5_1.length < 140737488355328 then (some ((y292 ++ x5_1), 0)) else (none)) = some (r1, r2) := by first | (rw [hy292]; with_reducible exact H) | (have H2_ := (Option.bind_some _ _).symm.trans H; rw [hy292]; with_reducible exact H2_) | (have H2_ := (Option.bind_some _ _).symm.trans H; with_reducible exact H2_) | with_reducible exact H | (rw [hy292]; exact H) | exact H
          have Ny292 := Aside0.mk hy292
          clear hy292
          by_cases c13 : y292.length + x5_1.length < 140737488355328
          · rw [if_pos c13] at H
            have LMc13 := Aside0.mk c13
            clear c13
            obtain ⟨y295, hy295⟩ : ∃ y_ : List Int, y_ = (y292 ++ x5_1) := ⟨_, rfl⟩
            replace H : (some (y295, 0)) = some (r1, r2) := by first | (rw [hy295]; with_reducible exact H) | (have H2_ := (Option.bind_some _ _).symm.trans H; rw [hy295]; with_reducible exact H2_) | (have H2_ := (Option.bind_some _ _).symm.trans H; with_reducible exact H2_) | with_reducible exact H | (rw [hy295]; exact H) | exact H
            have Ny295 := Aside0.mk hy295
            clear hy295
            simp only [Option.some.injEq, Prod.mk.injEq] at H
            obtain ⟨rfl, rfl⟩ := H
            go_wp2_with (first | ((with_reducible refine gate_callee (f := 53) rfl ?_); refine goesL_ (some 26) rfl rfl Try.func53 (by kernel_rfl) rfl #[.int .i64 t284] rfl (by (try simp only [List.map_toArray, List.map_cons, List.map_nil]); first | done | rfl | (simp only [List.length_drop, List.length_take]; rfl)) ?_; (with_reducible refine (serinetteref03_Lead.calls t284 t291 _ A12.out).mono ?_); rintro e w14 ⟨rfl, hb⟩; refine ⟨_, rfl, ?_⟩; have n0_ := Aside0.mk (Kd.R_below (by (with_reducible repeat (first | apply Kd.R_alloc | apply Kd.R_drewN | apply Kd.R_drew)); exact HO_5.out) hb); have n1_ := Aside0.mk (below_step (by repeat (first | (with_reducible first | exact HB.out | apply below_alloc | apply pw_below_drewN | apply below_drew1) | exact HB.out)) hb); clear HO_5; clear HB; have HO_5 := n0_; have HB := n1_; clear n0_ n1_; (try clear hb); (try clear hb2); (try clear hk); (try clear hi)) | ((with_reducible refine gate_dst (N := 30) rfl ?_); refine Kd.R_lit (Kd.int .u8) _ 5 ?hg (N := 30) ?hd (xs := ([(wrap64 (t291 + x0_1)) % 256] : List Int)) (inner := [.int .u8 ((wrap64 (t291 + x0_1)) % 256)]) (ok := fun _ => True) (okp := fun _ => True) ?hr ?hp (fun _ hk => hk) trivial (Below.refl _ _) (Nat.le_refl _) (by simp) ?_; (case hd => rfl); (case hg => rfl); (case hr => first | (go_simp; done) | (go_simp; rfl)); (case hp => exact (Reps.one (show Kd.M (Kd.int .u8) _ _ _ ((wrap64 (t291 + x0_1)) % 256) [.int .u8 ((wrap64 (t291 + x0_1)) % 256)] from rfl) (Reps.none _ _))); intro v293 w15 ho16 hb hg_ hnew_; clear hg_ hnew_; (first | rw [← Ny292.out] at ho16 | (simp only [Int.reduceToNat] at ho16; rw [← Ny292.out] at ho16)); have n0_ := Aside0.mk (Kd.R_elder' (by (with_reducible repeat (first | apply Kd.R_alloc | apply Kd.R_drewN | apply Kd.R_drew)); exact HO_5.out) (Kd.R_base ho16) hb); have n1_ := Aside0.mk (Kd.R_lower (Kd.R_new' ho16 (Kd.R_lt (by (with_reducible repeat (first | apply Kd.R_alloc | apply Kd.R_drewN | apply Kd.R_drew)); exact HO_5.out))) (below_size (by repeat (first | (with_reducible first | exact HB.out | apply below_alloc | apply pw_below_drewN | apply below_drew1) | exact HB.out)))); have n2_ := Aside0.mk (below_step (by repeat (first | (with_reducible first | exact HB.out | apply below_alloc | apply pw_below_drewN | apply below_drew1) | exact HB.out)) hb); clear HO_5; clear HB; have HO_5 := n0_; have HO294 := n1_; have HB := n2_; clear n0_ n1_ n2_; clear hb ho16; obtain ⟨Ao18, co18, eo18⟩ := Kd.R_slice HO_5.out; subst eo18) | ((with_reducible refine gate_builtin (b := .append) (xs := #[.tmp 30, .tmp 31]) rfl ?_); at_builtin; refine Kd.R_append_rows (Kd.int .u8) (w0 := w) w.heap.size rfl (.tmp 30) (.tmp 31) 23 5 (.int .u8 0) 1 rfl Try.underlying23 info5 rfl (by decide) (by omega) v293 y292 x5_1 _ _ _ (fun k_ => some k_ ≠ (.slice Ao18 x5_1.length co18 : Value).ownBlock) (fun _ => False) rfl rfl ?aO ?aR (fun _ _ h => h) (fun _ h => h.elim) ?aF ?aB ?aS ?aL ?_; (case aR => repeat (first | exact (Kd.R_reads' HO_5.out).2.2 | (with_reducible refine Kd.C_alloc ?_ _) | (with_reducible refine Kd.C_drewN ?_ _) | (with_reducible refine Kd.C_drew ?_))); (case aB => exact (by repeat (first | (with_reducible first | exact HB.out | apply below_alloc | apply pw_below_drewN | apply below_drew1) | exact HB.out))); (case aF => exact (fun k_ hk => Kd.fresh' (Kd.R_lt (by (with_reducible repeat (first | apply Kd.R_alloc | apply Kd.R_drewN | apply Kd.R_drew)); exact HO_5.out)) k_ hk)); (case aO => exact (by (with_reducible repeat (first | apply Kd.R_alloc | apply Kd.R_drewN | apply Kd.R_drew)); exact Kd.R_mono HO294.out (fun _ hk => hk.2))); (case aS => exact (below_size (by repeat (first | (with_reducible first | exact HB.out | apply below_alloc | apply pw_below_drewN | apply below_drew1) | exact HB.out)))); (case aL => have := LMc13.out; omega); intro v296 w17 ho hb hg hat; rw [← Ny295.out] at ho; have n0_ := Aside0.mk (Kd.R_after (ok := (fun _ => True)) (by (with_reducible repeat (first | apply Kd.R_alloc | apply Kd.R_drewN | apply Kd.R_drew)); exact HO_5.out) hg hat); have n1_ := Aside0.mk (hb); have n2_ := Aside0.mk (ho); clear HO_5; clear HB; clear HO294; have HO_5 := n0_; have HB := n1_; have HO297 := n2_; clear n0_ n1_ n2_; clear ho hb hg hat))
            go_ret2
            exact ⟨_, by first | rfl | (simp [errW_none, errW_some] <;> rfl) | (simp [*, errW_none, errW_some] <;> rfl), by (with_reducible repeat (first | apply Kd.R_alloc | apply Kd.R_drewN | apply Kd.R_drew)); exact Kd.R_mono HO297.out (fun _ hk => trivial), by repeat (first | (with_reducible first | exact HB.out | apply below_alloc | apply pw_below_drewN | apply below_drew1) | exact HB.out)⟩
          · rw [if_neg c13] at H
            exact absurd H (by simp)

/-! ### serinetteref04_Go: function 54 -/
mutual
def serinetteref04_Go.l0 : Nat → Int → List Bool → Int → Int → Int → Int → Option (Int)
  | 0, _, _, _, _, _, _ => none
  | k + 1, x0, x1, x2, x3, x9, x10 => if x10 < x2 then (serinetteref04_Go.l0 k x0 x1 x2 x3 (wrap64 (2 * x9)) (wrap64 (x10 + 1))) else (serinetteref04_Go.l1 k x0 x1 x3 x9 0)
def serinetteref04_Go.l1 : Nat → Int → List Bool → Int → Int → Int → Option (Int)
  | 0, _, _, _, _, _ => none
  | k + 1, x0, x1, x3, x9, x11 => if x11 < (x1.length : Int) then (if x9 = 0 then (none) else (if 0 ≤ x11 then (if ((decide ((wrap64 (2 * x0)) ≥ x9)) != (rdOf false x1 x11)) = true then (serinetteref04_Go.l1 k (Go.bits .xor .i64 (Int.tmod (wrap64 (2 * x0)) x9) x3) x1 x3 x9 (wrap64 (x11 + 1))) else (serinetteref04_Go.l1 k (Int.tmod (wrap64 (2 * x0)) x9) x1 x3 x9 (wrap64 (x11 + 1)))) else (none))) else (some x0)
end
def serinetteref04_Go.f (k : Nat) (a0 : Int) (l1 : List Bool) (a2 : Int) (a3 : Int) : Option (Int) := serinetteref04_Go.l0 k a0 l1 a2 a3 1 0
theorem serinetteref04_Go.mono_l : ∀ k, (∀ y0 y1 y2 y3 y4 y5, LeO (serinetteref04_Go.l0 k y0 y1 y2 y3 y4 y5) (serinetteref04_Go.l0 (k + 1) y0 y1 y2 y3 y4 y5)) ∧ (∀ y0 y1 y2 y3 y4, LeO (serinetteref04_Go.l1 k y0 y1 y2 y3 y4) (serinetteref04_Go.l1 (k + 1) y0 y1 y2 y3 y4))
  | 0 => ⟨fun _ _ _ _ _ _ r h => by simp [serinetteref04_Go.l0] at h, fun _ _ _ _ _ r h => by simp [serinetteref04_Go.l1] at h⟩
  | k + 1 => by
    obtain ⟨ih0, ih1⟩ := serinetteref04_Go.mono_l k
    refine ⟨?_, ?_⟩
    · intro y0 y1 y2 y3 y4 y5
      unfold serinetteref04_Go.l0
      repeat' first
      | (with_reducible exact ih0 _ _ _ _ _ _)
      | (with_reducible exact ih1 _ _ _ _ _)
      | (with_reducible exact LeO.refl _)
      | (with_reducible exact LeO.none _)
      | (with_reducible refine LeO.ite ?_ ?_)
      | (with_reducible refine LeO.bind ?_ (fun _ => ?_))
      | exact ih0 _ _ _ _ _ _
      | exact ih1 _ _ _ _ _
      | exact LeO.none _
      | refine LeO.ite ?_ ?_
      | refine LeO.bind ?_ (fun _ => ?_)
    · intro y0 y1 y2 y3 y4
      unfold serinetteref04_Go.l1
      repeat' first
      | (with_reducible exact ih0 _ _ _ _ _ _)
      | (with_reducible exact ih1 _ _ _ _ _)
      | (with_reducible exact LeO.refl _)
      | (with_reducible exact LeO.none _)
      | (with_reducible refine LeO.ite ?_ ?_)
      | (with_reducible refine LeO.bind ?_ (fun _ => ?_))
      | exact ih0 _ _ _ _ _ _
      | exact ih1 _ _ _ _ _
      | exact LeO.none _
      | refine LeO.ite ?_ ?_
      | refine LeO.bind ?_ (fun _ => ?_)
theorem serinetteref04_Go.mono : ∀ a0 a1 a2 a3 k, LeO (serinetteref04_Go.f k a0 a1 a2 a3) (serinetteref04_Go.f (k + 1) a0 a1 a2 a3) := by
  intro a0 a1 a2 a3 k
  obtain ⟨ih0, ih1⟩ := serinetteref04_Go.mono_l k
  unfold serinetteref04_Go.f
  repeat' first
      | (with_reducible exact ih0 _ _ _ _ _ _)
      | (with_reducible exact ih1 _ _ _ _ _)
      | (with_reducible exact LeO.refl _)
      | (with_reducible exact LeO.none _)
      | (with_reducible refine LeO.ite ?_ ?_)
      | (with_reducible refine LeO.bind ?_ (fun _ => ?_))
      | exact ih0 _ _ _ _ _ _
      | exact ih1 _ _ _ _ _
      | exact LeO.none _
      | refine LeO.ite ?_ ?_
      | refine LeO.bind ?_ (fun _ => ?_)
set_option maxHeartbeats 8000000 in
set_option maxRecDepth 100000 in
theorem serinetteref04_Go.calls (k : Nat) (a0 : Int) (A1 : Option Addr) (c1 : Nat) (l1 : List Bool) (a2 : Int) (a3 : Int) (r : Int) (w : World) (hr1 : Kd.C Kd.bool w A1 l1.length l1) (hc1 : l1.length ≤ c1) (h : serinetteref04_Go.f k a0 l1 a2 a3 = some r) :
    Calls Try.prog 54 #[.int .i64 a0, .slice A1 l1.length c1, .int .i64 a2, .int .i64 a3] w fun e w' => e = .returned (.int .i64 r) ∧ Drawn0 w w' := by
  have HR1 := Aside0.mk hr1
  have HC1 := Aside0.mk hc1
  clear hr1 hc1
  have H : (serinetteref04_Go.l0 k a0 l1 a2 a3 1 0) = some r := h
  clear h
  have H' := Aside0.mk H
  clear H
  go_enter Try.func54, Try.ntmps54
  go_wp2
  go_loopg [9, 10] k (fun kq v9 v10 w' => ∃ (x9_1 : Int) (x10_1 : Int), v9 = .int .i64 x9_1 ∧ v10 = .int .i64 x10_1 ∧ Aside0 (serinetteref04_Go.l0 kq a0 l1 a2 a3 x9_1 x10_1 = some r) ∧ Aside0 (kq ≤ k) ∧ Drawn0 w w')
  case atStart => exact ⟨(1), (0), (by first | rfl | (simp; done) | (simp [*]; done)), (by first | rfl | (simp; done) | (simp [*]; done)), H', ⟨Nat.le_refl _⟩, by repeat (first | exact Drawn0.refl _ | apply Drawn0.step)⟩
  case round =>
    clear H'
    try clear c1
    try clear p2
    obtain ⟨x9_1, x10_1, rfl, rfl, HA, HK1, ⟨m1, rfl⟩⟩ := hrel
    cases gk with
    | zero => exact absurd HA.out (by simp [serinetteref04_Go.l0])
    | succ k1 =>
      have H := HA.out
      clear HA
      simp only [serinetteref04_Go.l0] at H
      by_cases c5 : x10_1 < a2
      · rw [if_pos c5] at H
        have c5b0 : decide (x10_1 < a2) = true := decide_eq_true c5
        clear c5
        have H' := Aside0.mk H
        clear H
        go_wp2
        go_roundg k1
        case measure => have := HK1.out; omega
        case rel => exact ⟨(wrap64 (2 * x9_1)), (wrap64 (x10_1 + 1)), (by first | rfl | (simp; done) | (simp [*]; done)), (by first | rfl | (simp; done) | (simp [*]; done)), H', ⟨by have := HK1.out; omega⟩, by repeat (first | exact Drawn0.refl _ | apply Drawn0.step)⟩
      · rw [if_neg c5] at H
        have c5b0 : decide (x10_1 < a2) = false := decide_eq_false c5
        clear c5
        have H' := Aside0.mk H
        clear H
        go_wp2
        go_loopg [0, 11] k1 (fun kq v0 v11 w' => ∃ (x0_2 : Int) (x11_2 : Int), v0 = .int .i64 x0_2 ∧ v11 = .int .i64 x11_2 ∧ Aside0 (serinetteref04_Go.l1 kq x0_2 l1 a3 x9_1 x11_2 = some r) ∧ Aside0 (kq ≤ k1) ∧ Drawn0 w w')
        case atStart => exact ⟨(a0), (0), (by first | rfl | (simp; done) | (simp [*]; done)), (by first | rfl | (simp; done) | (simp [*]; done)), H', ⟨Nat.le_refl _⟩, by repeat (first | exact Drawn0.refl _ | apply Drawn0.step)⟩
        case round =>
          clear H'
          try clear c1
          try clear p2
          try clear c5
          try clear c5b0
          try clear p2
          obtain ⟨x0_2, x11_2, rfl, rfl, HA, HK2, ⟨m2, rfl⟩⟩ := hrel
          cases gk with
          | zero => exact absurd HA.out (by simp [serinetteref04_Go.l1])
          | succ k2 =>
            have H := HA.out
            clear HA
            simp only [serinetteref04_Go.l1] at H
            by_cases c6 : x11_2 < (l1.length : Int)
            · rw [if_pos c6] at H
              have c6b0 : decide (x11_2 < (l1.length : Int)) = true := decide_eq_true c6
              clear c6
              by_cases c7 : x9_1 = 0
              · rw [if_pos c7] at H
                exact absurd H (by simp)
              · rw [if_neg c7] at H
                have c7b0 : (x9_1 == 0) = false := beq_eq_false_iff_ne.mpr c7
                have c7b1 : (x9_1 != 0) = true := bne_iff_ne.mpr c7
                by_cases c8 : 0 ≤ x11_2
                · rw [if_pos c8] at H
                  have c8b0 : decide (0 ≤ x11_2) = true := decide_eq_true c8
                  clear c8
                  by_cases c9 : ((decide ((wrap64 (2 * x0_2)) ≥ x9_1)) != (rdOf false l1 x11_2)) = true
                  · rw [if_pos c9] at H
                    have c9b0 : ((decide ((wrap64 (2 * x0_2)) ≥ x9_1)) != (rdOf false l1 x11_2)) = true := c9
                    (try (have c9b1 : decide ((decide ((wrap64 (2 * x0_2)) ≥ x9_1)) = (rdOf false l1 x11_2)) = false := by simpa using c9))
                    (try (have c9b2 : ((decide ((wrap64 (2 * x0_2)) ≥ x9_1)) == (rdOf false l1 x11_2)) = false := by simpa using c9))
                    (try (have c9b3 : ¬ ((decide ((wrap64 (2 * x0_2)) ≥ x9_1)) = (rdOf false l1 x11_2)) := by simpa using c9))
                    clear c9
                    have H' := Aside0.mk H
                    clear H
                    have p298 : 0 ≤ (x11_2 : Int) := of_decide_eq_true (by first | (with_reducible assumption) | assumption)
                    have q298 : x11_2 < (l1.length : Int) := of_decide_eq_true (by first | (with_reducible assumption) | assumption)
                    obtain ⟨ad298, e298, hx298_0⟩ := Kd.at_bool HR1.out x11_2 p298 q298
                    cases e298
                    replace p298 := eq_true p298
                    replace q298 := eq_true q298
                    go_wp2
                    go_roundg k2
                    case measure => have := HK1.out; have := HK2.out; omega
                    case rel => exact ⟨(Go.bits .xor .i64 (Int.tmod (wrap64 (2 * x0_2)) x9_1) a3), (wrap64 (x11_2 + 1)), (by first | rfl | (simp; done) | (simp [*]; done)), (by first | rfl | (simp; done) | (simp [*]; done)), H', ⟨by have := HK1.out; have := HK2.out; omega⟩, by repeat (first | exact Drawn0.refl _ | apply Drawn0.step)⟩
                  · rw [if_neg c9] at H
                    have c9b0 : ((decide ((wrap64 (2 * x0_2)) ≥ x9_1)) != (rdOf false l1 x11_2)) = false := by simpa using c9
                    (try (have c9b1 : decide ((decide ((wrap64 (2 * x0_2)) ≥ x9_1)) = (rdOf false l1 x11_2)) = true := by simpa using c9))
                    (try (have c9b2 : ((decide ((wrap64 (2 * x0_2)) ≥ x9_1)) == (rdOf false l1 x11_2)) = true := by simpa using c9))
                    clear c9
                    have H' := Aside0.mk H
                    clear H
                    have p298 : 0 ≤ (x11_2 : Int) := of_decide_eq_true (by first | (with_reducible assumption) | assumption)
                    have q298 : x11_2 < (l1.length : Int) := of_decide_eq_true (by first | (with_reducible assumption) | assumption)
                    obtain ⟨ad298, e298, hx298_0⟩ := Kd.at_bool HR1.out x11_2 p298 q298
                    cases e298
                    replace p298 := eq_true p298
                    replace q298 := eq_true q298
                    go_wp2
                    go_roundg k2
                    case measure => have := HK1.out; have := HK2.out; omega
                    case rel => exact ⟨(Int.tmod (wrap64 (2 * x0_2)) x9_1), (wrap64 (x11_2 + 1)), (by first | rfl | (simp; done) | (simp [*]; done)), (by first | rfl | (simp; done) | (simp [*]; done)), H', ⟨by have := HK1.out; have := HK2.out; omega⟩, by repeat (first | exact Drawn0.refl _ | apply Drawn0.step)⟩
                · rw [if_neg c8] at H
                  exact absurd H (by simp)
            · rw [if_neg c6] at H
              have c6b0 : decide (x11_2 < (l1.length : Int)) = false := decide_eq_false c6
              clear c6
              obtain rfl := Option.some.inj H
              go_wp2
              go_ret
              exact ⟨by first | rfl | (simp; done) | (simp [*]; done), by repeat (first | exact Drawn0.refl _ | apply Drawn0.step)⟩

/-! ### serinetteref01_Width: function 58 -/
def serinetteref01_Width.f (a0 : Int) : Option (Int) := some (mx 0 (mn a0 64))
set_option maxHeartbeats 8000000 in
set_option maxRecDepth 100000 in
theorem serinetteref01_Width.calls (a0 : Int) (r : Int) (w : World) (h : serinetteref01_Width.f a0 = some r) :
    Calls Try.prog 58 #[.int .i64 a0] w fun e w' => e = .returned (.int .i64 r) ∧ Below w.heap.size w w' := by
  have HB := Aside0.mk (Below.refl w.heap.size w)
  have H : (some (mx 0 (mn a0 64))) = some r := h
  clear h
  obtain ⟨ji2, hji2⟩ : ∃ j_ : Int, (mn a0 64) = j_ := ⟨_, rfl⟩
  replace H : (some (mx 0 (ji2))) = some r := by first | (rw [hji2] at H; exact H) | (simp only [hji2] at H ⊢; exact H)
  (try (have hji2h : ji2 ≤ 64 := by (rw [← hji2]; unfold mn; (repeat' split) <;> omega)))
  (try (have hji2g : ji2 ≤ 64 := by omega))
  have hji2_ : (if 64 < a0 then 64 else a0) = ji2 := hji2
  obtain ⟨ji3, hji3⟩ : ∃ j_ : Int, (mx 0 (ji2)) = j_ := ⟨_, rfl⟩
  replace H : (some ji3) = some r := by first | (rw [hji3] at H; exact H) | (simp only [hji3] at H ⊢; exact H)
  have hji3_ : (if 0 < (ji2) then (ji2) else 0) = ji3 := hji3
  obtain rfl := Option.some.inj H
  go_enter Try.func58, Try.ntmps58
  go_wp2
  go_ret
  exact ⟨by first | rfl | (simp [errW_none, errW_some] <;> rfl) | (simp only [← hji2, ← hji3]; first | rfl | (simp [errW_none, errW_some] <;> rfl)) | (simp [*, errW_none, errW_some] <;> rfl), by repeat (first | (with_reducible first | exact HB.out | apply below_alloc | apply pw_below_drewN | apply below_drew1) | exact HB.out)⟩

end Go.Proofs.Ytdacblackoaphaa.PBoundFrames
