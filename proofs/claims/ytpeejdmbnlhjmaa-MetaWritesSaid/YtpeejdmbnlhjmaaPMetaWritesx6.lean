/- Facts, put together from several texts. -/
import Derived.Test.YtpeejdmbnlhjmaaPMetaWritesx3
-- written by this session's program wip/reprint.sh (a turned copy of the kit's print): the session's own text
namespace Go.Proofs.Ytpeejdmbnlhjmaa.PMetaWrites
open Go.RowKit Go.Proofs.YtpeejdmbnlhjmaaW.PrintWords Go.Proofs.YtpeejdmbnlhjmaaW.PrintLast Go.Proofs.YtpeejdmbnlhjmaaW.PrintMore Go.Proofs.Ytpeejdmbnlhjmaa.H
attribute [local go_sem] max2_int min2_int max_two min_two max_three min_three max_four min_four   -- for this text's walks alone
set_option linter.unusedVariables false
set_option linter.unusedSimpArgs false

/-! ### serinetteref18_SeekBody: function 33 -/
def serinetteref18_SeekBody.l0 : Nat → List (S122) → List Int → Int → Option (List Int)
  | 0, _, _, _ => none
  | k + 1, x0, x3, x4 => if x4 < (x0.length : Int) then (if 0 ≤ x4 then (if (rd_T122 x0 x4).f3 = true then ((some (([255, 255, 255, 255, 255, 255, 255, 255] : List Int) : List Int)).bind fun y118 => (if x3.length + y118.length < 140737488355328 then ((some (x3 ++ y118 : List Int)).bind fun y121 => ((serinetteref18_Number.f k ((rd_T122 x0 x4).f1) 8).bind fun t124 => (if y121.length + t124.length < 140737488355328 then ((some (y121 ++ t124 : List Int)).bind fun y127 => ((serinetteref18_Number.f k ((rd_T122 x0 x4).f2) 2).bind fun t130 => (if y127.length + t130.length < 140737488355328 then (serinetteref18_SeekBody.l0 k x0 (y127 ++ t130) (wrap64 (x4 + 1))) else (none)))) else (none)))) else (none))) else ((serinetteref18_Number.f k ((rd_T122 x0 x4).f0) 8).bind fun t136 => (if x3.length + t136.length < 140737488355328 then ((some (x3 ++ t136 : List Int)).bind fun y139 => ((serinetteref18_Number.f k ((rd_T122 x0 x4).f1) 8).bind fun t142 => (if y139.length + t142.length < 140737488355328 then ((some (y139 ++ t142 : List Int)).bind fun y145 => ((serinetteref18_Number.f k ((rd_T122 x0 x4).f2) 2).bind fun t148 => (if y145.length + t148.length < 140737488355328 then (serinetteref18_SeekBody.l0 k x0 (y145 ++ t148) (wrap64 (x4 + 1))) else (none)))) else (none)))) else (none)))) else (none)) else (some x3)
def serinetteref18_SeekBody.f (k : Nat) (l0 : List (S122)) : Option (List Int) := serinetteref18_SeekBody.l0 k l0 ([] : List Int) 0
theorem serinetteref18_SeekBody.mono_l : ∀ k, (∀ y0 y1 y2, LeO (serinetteref18_SeekBody.l0 k y0 y1 y2) (serinetteref18_SeekBody.l0 (k + 1) y0 y1 y2))
  | 0 => fun _ _ _ r h => by simp [serinetteref18_SeekBody.l0] at h
  | k + 1 => by
    have ih0 := serinetteref18_SeekBody.mono_l k
    · intro y0 y1 y2
      unfold serinetteref18_SeekBody.l0
      repeat' first
      | (with_reducible exact ih0 _ _ _)
      | (with_reducible exact serinetteref18_Number.mono _ _ _)
      | (with_reducible exact LeO.refl _)
      | (with_reducible exact LeO.none _)
      | (with_reducible refine LeO.ite ?_ ?_)
      | (with_reducible refine LeO.bind ?_ (fun _ => ?_))
      | exact ih0 _ _ _
      | exact serinetteref18_Number.mono _ _ _
      | exact LeO.none _
      | refine LeO.ite ?_ ?_
      | refine LeO.bind ?_ (fun _ => ?_)
theorem serinetteref18_SeekBody.mono : ∀ a0 k, LeO (serinetteref18_SeekBody.f k a0) (serinetteref18_SeekBody.f (k + 1) a0) := by
  intro a0 k
  have ih0 := serinetteref18_SeekBody.mono_l k
  unfold serinetteref18_SeekBody.f
  repeat' first
      | (with_reducible exact ih0 _ _ _)
      | (with_reducible exact serinetteref18_Number.mono _ _ _)
      | (with_reducible exact LeO.refl _)
      | (with_reducible exact LeO.none _)
      | (with_reducible refine LeO.ite ?_ ?_)
      | (with_reducible refine LeO.bind ?_ (fun _ => ?_))
      | exact ih0 _ _ _
      | exact serinetteref18_Number.mono _ _ _
      | exact LeO.none _
      | refine LeO.ite ?_ ?_
      | refine LeO.bind ?_ (fun _ => ?_)
set_option maxHeartbeats 8000000 in
set_option maxRecDepth 100000 in
theorem serinetteref18_SeekBody.calls (k : Nat) (A0 : Option Addr) (c0 : Nat) (l0 : List (S122)) (r : List Int) (w : World) (hr0 : Kd.C k122 w A0 l0.length l0) (hc0 : l0.length ≤ c0) (h : serinetteref18_SeekBody.f k l0 = some r) :
    Calls Try.prog 33 #[.slice A0 l0.length c0] w fun e w' => ∃ v0_ : Value, e = .returned (v0_) ∧ Kd.R (Kd.int .u8) 5 w' w.heap.size (fun _ => True) v0_ r ∧ Below w.heap.size w w' := by
  have hu122 := Try.underlying122
  have HR0 := Aside0.mk hr0
  have HC0 := Aside0.mk hc0
  clear hr0 hc0
  have HB := Aside0.mk (Below.refl w.heap.size w)
  have H : (serinetteref18_SeekBody.l0 k l0 ([] : List Int) 0) = some r := h
  clear h
  have H' := Aside0.mk H
  clear H
  go_enter Try.func33, Try.ntmps33
  go_wp2
  go_loopg [3, 4] k (fun kq v3 v4 w' => ∃ (x3_1 : List Int) (x4_1 : Int), v4 = .int .i64 x4_1 ∧ Aside0 (serinetteref18_SeekBody.l0 kq l0 x3_1 x4_1 = some r) ∧ Aside0 (kq ≤ k) ∧ Aside0 (Kd.R (Kd.int .u8) 5 w' w.heap.size (fun _ => True) v3 x3_1) ∧ Aside0 (Below w.heap.size w w'))
  case atStart => exact ⟨(([] : List Int)), (0), (by first | rfl | (simp; done) | (simp [*]; done)), H', ⟨Nat.le_refl _⟩, ⟨by first | exact Kd.R_nil _ _ _ _ _ | exact Kd.N_nil _ _ _ _ _ | exact Kd.V_nil _ _ _ _ _ | exact Kd.Q_nil _ _ _ _ _ | exact Kd.S_nil _ _ _ _ _⟩, ⟨by repeat (first | (with_reducible first | exact HB.out | apply below_alloc | apply pw_below_drewN | apply below_drew1) | exact HB.out)⟩⟩
  case round =>
    clear H'
    obtain ⟨x3_1, x4_1, rfl, HA, HK1, HO_3, HB⟩ := hrel
    cases gk with
    | zero => exact absurd HA.out (by simp [serinetteref18_SeekBody.l0])
    | succ k1 =>
      have H := HA.out
      clear HA
      simp only [serinetteref18_SeekBody.l0] at H
      by_cases c2 : x4_1 < (l0.length : Int)
      · rw [if_pos c2] at H
        have c2b0 : decide (x4_1 < (l0.length : Int)) = true := decide_eq_true c2
        clear c2
        by_cases c3 : 0 ≤ x4_1
        · rw [if_pos c3] at H
          have c3b0 : decide (0 ≤ x4_1) = true := decide_eq_true c3
          clear c3
          obtain ⟨bq4, hbq4⟩ : ∃ b_ : Bool, b_ = ((rd_T122 l0 x4_1).f3) := ⟨_, rfl⟩
          replace H : (if bq4 = true then ((some (([255, 255, 255, 255, 255, 255, 255, 255] : List Int) : List Int)).bind fun y118 => (if x3_1.length + y118.length < 140737488355328 then ((some (x3_1 ++ y118 : List Int)).bind fun y121 => ((serinetteref18_Number.f k1 ((rd_T122 l0 x4_1).f1) 8).bind fun t124 => (if y121.length + t124.length < 140737488355328 then ((some (y121 ++ t124 : List Int)).bind fun y127 => ((serinetteref18_Number.f k1 ((rd_T122 l0 x4_1).f2) 2).bind fun t130 => (if y127.length + t130.length < 140737488355328 then (serinetteref18_SeekBody.l0 k1 l0 (y127 ++ t130) (wrap64 (x4_1 + 1))) else (none)))) else (none)))) else (none))) else ((serinetteref18_Number.f k1 ((rd_T122 l0 x4_1).f0) 8).bind fun t136 => (if x3_1.length + t136.length < 140737488355328 then ((some (x3_1 ++ t136 : List Int)).bind fun y139 => ((serinetteref18_Number.f k1 ((rd_T122 l0 x4_1).f1) 8).bind fun t142 => (if y139.length + t142.length < 140737488355328 then ((some (y139 ++ t142 : List Int)).bind fun y145 => ((serinetteref18_Number.f k1 ((rd_T122 l0 x4_1).f2) 2).bind fun t148 => (if y145.length + t148.length < 140737488355328 then (serinetteref18_SeekBody.l0 k1 l0 (y145 ++ t148) (wrap64 (x4_1 + 1))) else (none)))) else (none)))) else (none)))) = some r := by rw [← hbq4] at H; exact H
          have Nbq4 := Aside0.mk hbq4
          clear hbq4
          by_cases c5 : bq4 = true
          · subst c5
            have H1 : ((some (([255, 255, 255, 255, 255, 255, 255, 255] : List Int) : List Int)).bind fun y118 => (if x3_1.length + y118.length < 140737488355328 then ((some (x3_1 ++ y118 : List Int)).bind fun y121 => ((serinetteref18_Number.f k1 ((rd_T122 l0 x4_1).f1) 8).bind fun t124 => (if y121.length + t124.length < 140737488355328 then ((some (y121 ++ t124 : List Int)).bind fun y127 => ((serinetteref18_Number.f k1 ((rd_T122 l0 x4_1).f2) 2).bind fun t130 => (if y127.length + t130.length < 140737488355328 then (serinetteref18_SeekBody.l0 k1 l0 (y127 ++ t130) (wrap64 (x4_1 + 1))) else (none)))) else (none)))) else (none))) = some r := by rw [if_pos rfl] at H; exact H
            clear H
            have H := H1
            clear H1
            obtain ⟨y118, hy118⟩ : ∃ y_ : List Int, y_ = (([255, 255, 255, 255, 255, 255, 255, 255] : List Int)) := ⟨_, rfl⟩
            replace H : (if x3_1.length + y118.length < 140737488355328 then ((some (x3_1 ++ y118 : List Int)).bind fun y121 => ((serinetteref18_Number.f k1 ((rd_T122 l0 x4_1).f1) 8).bind fun t124 => (if y121.length + t124.length < 140737488355328 then ((some (y121 ++ t124 : List Int)).bind fun y127 => ((serinetteref18_Number.f k1 ((rd_T122 l0 x4_1).f2) 2).bind fun t130 => (if y127.length + t130.length < 140737488355328 then (serinetteref18_SeekBody.l0 k1 l0 (y127 ++ t130) (wrap64 (x4_1 + 1))) else (none)))) else (none)))) else (none)) = some r := by first | (rw [hy118]; with_reducible exact H) | (have H2_ := (Option.bind_some _ _).symm.trans H; rw [hy118]; with_reducible exact H2_) | (have H2_ := (Option.bind_some _ _).symm.trans H; with_reducible exact H2_) | with_reducible exact H | (rw [hy118]; exact H) | exact H
            have Ny118 := Aside0.mk hy118
            clear hy118
            by_cases c6 : x3_1.length + y118.length < 140737488355328
            · rw [if_pos c6] at H
              have LMc6 := Aside0.mk c6
              clear c6
              obtain ⟨y121, hy121⟩ : ∃ y_ : List Int, y_ = (x3_1 ++ y118) := ⟨_, rfl⟩
              replace H : ((serinetteref18_Number.f k1 ((rd_T122 l0 x4_1).f1) 8).bind fun t124 => (if y121.length + t124.length < 140737488355328 then ((some (y121 ++ t124 : List Int)).bind fun y127 => ((serinetteref18_Number.f k1 ((rd_T122 l0 x4_1).f2) 2).bind fun t130 => (if y127.length + t130.length < 140737488355328 then (serinetteref18_SeekBody.l0 k1 l0 (y127 ++ t130) (wrap64 (x4_1 + 1))) else (none)))) else (none))) = some r := by first | (rw [hy121]; with_reducible exact H) | (have H2_ := (Option.bind_some _ _).symm.trans H; rw [hy121]; with_reducible exact H2_) | (have H2_ := (Option.bind_some _ _).symm.trans H; with_reducible exact H2_) | with_reducible exact H | (rw [hy121]; exact H) | exact H
              have Ny121 := Aside0.mk hy121
              clear hy121
              replace H := Option.bind_eq_some_iff.mp H
              obtain ⟨t124, A70, H⟩ := H
              replace H : (if y121.length + t124.length < 140737488355328 then ((some (y121 ++ t124 : List Int)).bind fun y127 => ((serinetteref18_Number.f k1 ((rd_T122 l0 x4_1).f2) 2).bind fun t130 => (if y127.length + t130.length < 140737488355328 then (serinetteref18_SeekBody.l0 k1 l0 (y127 ++ t130) (wrap64 (x4_1 + 1))) else (none)))) else (none)) = some r := H
              have A7 := Aside0.mk A70
              clear A70
              by_cases c8 : y121.length + t124.length < 140737488355328
              · rw [if_pos c8] at H
                have LMc8 := Aside0.mk c8
                clear c8
                obtain ⟨y127, hy127⟩ : ∃ y_ : List Int, y_ = (y121 ++ t124) := ⟨_, rfl⟩
                replace H : ((serinetteref18_Number.f k1 ((rd_T122 l0 x4_1).f2) 2).bind fun t130 => (if y127.length + t130.length < 140737488355328 then (serinetteref18_SeekBody.l0 k1 l0 (y127 ++ t130) (wrap64 (x4_1 + 1))) else (none))) = some r := by first | (rw [hy127]; with_reducible exact H) | (have H2_ := (Option.bind_some _ _).symm.trans H; rw [hy127]; with_reducible exact H2_) | (have H2_ := (Option.bind_some _ _).symm.trans H; with_reducible exact H2_) | with_reducible exact H | (rw [hy127]; exact H) | exact H
                have Ny127 := Aside0.mk hy127
                clear hy127
                replace H := Option.bind_eq_some_iff.mp H
                obtain ⟨t130, A90, H⟩ := H
                replace H : (if y127.length + t130.length < 140737488355328 then (serinetteref18_SeekBody.l0 k1 l0 (y127 ++ t130) (wrap64 (x4_1 + 1))) else (none)) = some r := H
                have A9 := Aside0.mk A90
                clear A90
                by_cases c10 : y127.length + t130.length < 140737488355328
                · rw [if_pos c10] at H
                  have LMc10 := Aside0.mk c10
                  clear c10
                  obtain ⟨y133, hy133⟩ : ∃ y_ : List Int, y_ = (y127 ++ t130) := ⟨_, rfl⟩
                  replace H : (serinetteref18_SeekBody.l0 k1 l0 y133 (wrap64 (x4_1 + 1))) = some r := by first | (rw [hy133]; with_reducible exact H) | (have H2_ := (Option.bind_some _ _).symm.trans H; rw [hy133]; with_reducible exact H2_) | (have H2_ := (Option.bind_some _ _).symm.trans H; with_reducible exact H2_) | with_reducible exact H | (rw [hy133]; exact H) | exact H
                  have Ny133 := Aside0.mk hy133
                  clear hy133
                  have H' := Aside0.mk H
                  clear H
                  have p116 : 0 ≤ (x4_1 : Int) := of_decide_eq_true (by first | (with_reducible assumption) | assumption)
                  have q116 : x4_1 < (l0.length : Int) := of_decide_eq_true (by first | (with_reducible assumption) | assumption)
                  obtain ⟨ad116, e116, hx116_0, hx116_1, hx116_2, hx116_3⟩ := at_T122 HR0.out x4_1 p116 q116
                  (try rw [← Nbq4.out] at hx116_3)
                  cases e116
                  replace hx116_0 := (HB.out.cell (World.block_lt_of_cell? w _ hx116_0)).trans hx116_0
                  replace hx116_1 := (HB.out.cell (World.block_lt_of_cell? w _ hx116_1)).trans hx116_1
                  replace hx116_2 := (HB.out.cell (World.block_lt_of_cell? w _ hx116_2)).trans hx116_2
                  replace hx116_3 := (HB.out.cell (World.block_lt_of_cell? w _ hx116_3)).trans hx116_3
                  replace p116 := eq_true p116
                  replace q116 := eq_true q116
                  go_wp2_with (first | ((with_reducible refine gate_dst (N := 5) rfl ?_); refine box_event ?hg (N := 5) ?hd (cs := #[.int .i64 0, .int .i64 0, .int .i64 0, .bool false]) (t := 122) ?hr ?_; (case hd => rfl); (case hg => rfl); (case hr => first | (go_simp; done) | (go_simp; rfl)); intro gb117 hg w11 hbox hb; have n0_ := Aside0.mk (Kd.R_below (by (with_reducible repeat (first | apply Kd.R_alloc | apply Kd.R_drewN | apply Kd.R_drew)); exact HO_3.out) hb); have n1_ := Aside0.mk (below_step (by repeat (first | (with_reducible first | exact HB.out | apply below_alloc | apply pw_below_drewN | apply below_drew1) | exact HB.out)) hb); have n2_ := Aside0.mk (hbox); have n3_ := Aside0.mk ((by rw [hg]; exact (below_size (by repeat (first | (with_reducible first | exact HB.out | apply below_alloc | apply pw_below_drewN | apply below_drew1) | exact HB.out))) : w.heap.size ≤ gb117)); have n4_ := Aside0.mk ((by rw [hg]; exact (below_size (by repeat (first | (with_reducible first | exact HB.out | apply below_alloc | apply pw_below_drewN | apply below_drew1) | exact HB.out))) : w.heap.size ≤ gb117)); clear HO_3; clear HB; have HO_3 := n0_; have HB := n1_; have BK117 := n2_; have GW117 := n3_; have GE117 := n4_; clear n0_ n1_ n2_ n3_ n4_; clear hb hbox hg; have hcz12_0 : w11.cell? ⟨gb117, 0, none⟩ = some (.int .i64 0) := (blk_cell BK117.out 0).trans rfl; have hcz12_1 : w11.cell? ⟨gb117, 1, none⟩ = some (.int .i64 0) := (blk_cell BK117.out 1).trans rfl; have hcz12_2 : w11.cell? ⟨gb117, 2, none⟩ = some (.int .i64 0) := (blk_cell BK117.out 2).trans rfl; have hcz12_3 : w11.cell? ⟨gb117, 3, none⟩ = some (.bool false) := (blk_cell BK117.out 3).trans rfl; have hfz12_0 := blk_frozen BK117.out 0; have hfz12_1 := blk_frozen BK117.out 1; have hfz12_2 := blk_frozen BK117.out 2; have hfz12_3 := blk_frozen BK117.out 3) | ((with_reducible refine gate_dst (N := 19) rfl ?_); refine Kd.R_lit (Kd.int .u8) _ 5 ?hg (N := 19) ?hd (xs := ([255, 255, 255, 255, 255, 255, 255, 255] : List Int)) (inner := [.int .u8 255, .int .u8 255, .int .u8 255, .int .u8 255, .int .u8 255, .int .u8 255, .int .u8 255, .int .u8 255]) (ok := fun _ => True) (okp := fun _ => True) ?hr ?hp (fun _ hk => hk) trivial (Below.refl _ _) (Nat.le_refl _) (by simp) ?_; (case hd => rfl); (case hg => rfl); (case hr => first | (go_simp; done) | (go_simp; rfl)); (case hp => exact (Reps.one (show Kd.M (Kd.int .u8) _ _ _ 255 [.int .u8 255] from rfl) (Reps.one (show Kd.M (Kd.int .u8) _ _ _ 255 [.int .u8 255] from rfl) (Reps.one (show Kd.M (Kd.int .u8) _ _ _ 255 [.int .u8 255] from rfl) (Reps.one (show Kd.M (Kd.int .u8) _ _ _ 255 [.int .u8 255] from rfl) (Reps.one (show Kd.M (Kd.int .u8) _ _ _ 255 [.int .u8 255] from rfl) (Reps.one (show Kd.M (Kd.int .u8) _ _ _ 255 [.int .u8 255] from rfl) (Reps.one (show Kd.M (Kd.int .u8) _ _ _ 255 [.int .u8 255] from rfl) (Reps.one (show Kd.M (Kd.int .u8) _ _ _ 255 [.int .u8 255] from rfl) (Reps.none _ _)))))))))); intro v119 w13 ho14 hb hg_ hnew_; clear hg_ hnew_; (first | rw [← Ny118.out] at ho14 | (simp only [Int.reduceToNat] at ho14; rw [← Ny118.out] at ho14)); have n0_ := Aside0.mk (Kd.R_elder' (by (with_reducible repeat (first | apply Kd.R_alloc | apply Kd.R_drewN | apply Kd.R_drew)); exact (Kd.R_mono (Kd.R_far (p := ⟨gb117, 3, none⟩) (Kd.R_far (p := ⟨gb117, 2, none⟩) (Kd.R_far (p := ⟨gb117, 1, none⟩) (Kd.R_far (p := ⟨gb117, 0, none⟩) (Kd.R_types HO_3.out BK117.out (by decide)) (fun _ hk => hk.2) (.int .i64 ((rd_T122 l0 x4_1).f0))) (fun _ hk => hk.2) (.int .i64 ((rd_T122 l0 x4_1).f1))) (fun _ hk => hk.2) (.int .i64 ((rd_T122 l0 x4_1).f2))) (fun _ hk => hk.2) (.bool true)) (fun _ h_ => h_.1))) (Kd.R_base ho14) hb); have n1_ := Aside0.mk (Kd.R_lower (Kd.R_new' ho14 (Kd.R_lt (by (with_reducible repeat (first | apply Kd.R_alloc | apply Kd.R_drewN | apply Kd.R_drew)); exact (Kd.R_mono (Kd.R_far (p := ⟨gb117, 3, none⟩) (Kd.R_far (p := ⟨gb117, 2, none⟩) (Kd.R_far (p := ⟨gb117, 1, none⟩) (Kd.R_far (p := ⟨gb117, 0, none⟩) (Kd.R_types HO_3.out BK117.out (by decide)) (fun _ hk => hk.2) (.int .i64 ((rd_T122 l0 x4_1).f0))) (fun _ hk => hk.2) (.int .i64 ((rd_T122 l0 x4_1).f1))) (fun _ hk => hk.2) (.int .i64 ((rd_T122 l0 x4_1).f2))) (fun _ hk => hk.2) (.bool true)) (fun _ h_ => h_.1))))) (below_size (by repeat (first | (with_reducible first | exact HB.out | apply below_alloc | apply pw_below_drewN | apply below_drew1 | refine below_set ?_ GE117.out) | exact HB.out)))); have n2_ := Aside0.mk (blk_below (g := gb117) (o := .cells #[.int .i64 ((rd_T122 l0 x4_1).f0), .int .i64 ((rd_T122 l0 x4_1).f1), .int .i64 ((rd_T122 l0 x4_1).f2), .bool true] 122 (0, 0)) (by (with_reducible repeat (first | refine blk_drewN ?_ _ | refine blk_drew ?_ | refine blk_alloc ?_ _)); refine blk_put (cs := #[.int .i64 ((rd_T122 l0 x4_1).f0), .int .i64 ((rd_T122 l0 x4_1).f1), .int .i64 ((rd_T122 l0 x4_1).f2), .bool false]) ?_ 3 _ rfl; (with_reducible repeat (first | refine blk_drewN ?_ _ | refine blk_drew ?_ | refine blk_alloc ?_ _)); refine blk_put (cs := #[.int .i64 ((rd_T122 l0 x4_1).f0), .int .i64 ((rd_T122 l0 x4_1).f1), .int .i64 0, .bool false]) ?_ 2 _ rfl; (with_reducible repeat (first | refine blk_drewN ?_ _ | refine blk_drew ?_ | refine blk_alloc ?_ _)); refine blk_put (cs := #[.int .i64 ((rd_T122 l0 x4_1).f0), .int .i64 0, .int .i64 0, .bool false]) ?_ 1 _ rfl; (with_reducible repeat (first | refine blk_drewN ?_ _ | refine blk_drew ?_ | refine blk_alloc ?_ _)); refine blk_put (cs := #[.int .i64 0, .int .i64 0, .int .i64 0, .bool false]) ?_ 0 _ rfl; (with_reducible repeat (first | refine blk_drewN ?_ _ | refine blk_drew ?_ | refine blk_alloc ?_ _)); exact BK117.out) hb); have n3_ := Aside0.mk (below_step (by repeat (first | (with_reducible first | exact HB.out | apply below_alloc | apply pw_below_drewN | apply below_drew1 | refine below_set ?_ GE117.out) | exact HB.out)) hb); clear HO_3; clear BK117; clear HB; have HO_3 := n0_; have HO120 := n1_; have BK117 := n2_; have HB := n3_; clear n0_ n1_ n2_ n3_; clear hb ho14; obtain ⟨Ao16, co16, eo16⟩ := Kd.R_slice HO120.out; subst eo16) | ((with_reducible refine gate_builtin (b := .append) (xs := #[.tmp 18, .tmp 19]) rfl ?_); at_builtin; refine Kd.R_append_rows (Kd.int .u8) (w0 := w) w.heap.size rfl (.tmp 18) (.tmp 19) 22 5 (.int .u8 0) 1 rfl Try.underlying22 info5 rfl (by decide) (by omega) u3 x3_1 y118 _ _ _ (fun k_ => some k_ ≠ (.slice Ao16 y118.length co16 : Value).ownBlock) (fun _ => False) rfl rfl ?aO ?aR (fun _ _ h => h) (fun _ h => h.elim) ?aF ?aB ?aS ?aL ?_; (case aR => repeat (first | exact (Kd.R_reads' HO120.out).2.2 | (with_reducible refine Kd.C_alloc ?_ _) | (with_reducible refine Kd.C_drewN ?_ _) | (with_reducible refine Kd.C_drew ?_))); (case aB => exact (by repeat (first | (with_reducible first | exact HB.out | apply below_alloc | apply pw_below_drewN | apply below_drew1 | refine below_set ?_ GE117.out) | exact HB.out))); (case aF => exact (fun k_ hk => Kd.fresh' (Kd.R_lt (by (with_reducible repeat (first | apply Kd.R_alloc | apply Kd.R_drewN | apply Kd.R_drew)); exact HO120.out)) k_ hk)); (case aO => exact (by (with_reducible repeat (first | apply Kd.R_alloc | apply Kd.R_drewN | apply Kd.R_drew)); exact Kd.R_mono HO_3.out (fun _ hk => hk.2))); (case aS => exact (below_size (by repeat (first | (with_reducible first | exact HB.out | apply below_alloc | apply pw_below_drewN | apply below_drew1 | refine below_set ?_ GE117.out) | exact HB.out)))); (case aL => have := LMc6.out; omega); intro v122 w15 ho hb hg hat; rw [← Ny121.out] at ho; have n0_ := Aside0.mk (blk_grown (g := gb117) (o := .cells #[.int .i64 ((rd_T122 l0 x4_1).f0), .int .i64 ((rd_T122 l0 x4_1).f1), .int .i64 ((rd_T122 l0 x4_1).f2), .bool true] 122 (0, 0)) (by (with_reducible repeat (first | refine blk_drewN ?_ _ | refine blk_drew ?_ | refine blk_alloc ?_ _)); exact BK117.out) hg (Kd.R_ne HO_3.out BK117.out (by decide))); have n1_ := Aside0.mk (Kd.R_after (ok := (fun _ => True)) (by (with_reducible repeat (first | apply Kd.R_alloc | apply Kd.R_drewN | apply Kd.R_drew)); exact HO120.out) hg hat); have n2_ := Aside0.mk (hb); have n3_ := Aside0.mk (ho); clear BK117; clear HO120; clear HB; clear HO_3; have BK117 := n0_; have HO120 := n1_; have HB := n2_; have HO123 := n3_; clear n0_ n1_ n2_ n3_; clear ho hb hg hat; have hcz17_0 : w15.cell? ⟨gb117, 0, none⟩ = some (.int .i64 ((rd_T122 l0 x4_1).f0)) := (blk_cell BK117.out 0).trans rfl; have hcz17_1 : w15.cell? ⟨gb117, 1, none⟩ = some (.int .i64 ((rd_T122 l0 x4_1).f1)) := (blk_cell BK117.out 1).trans rfl; have hcz17_2 : w15.cell? ⟨gb117, 2, none⟩ = some (.int .i64 ((rd_T122 l0 x4_1).f2)) := (blk_cell BK117.out 2).trans rfl; have hcz17_3 : w15.cell? ⟨gb117, 3, none⟩ = some (.bool true) := (blk_cell BK117.out 3).trans rfl; have hfz17_0 := blk_frozen BK117.out 0; have hfz17_1 := blk_frozen BK117.out 1; have hfz17_2 := blk_frozen BK117.out 2; have hfz17_3 := blk_frozen BK117.out 3) | ((with_reducible refine gate_callee (f := 73) rfl ?_); refine goesL_ (some 29) rfl rfl Try.func73 (by kernel_rfl) rfl #[.int .i64 ((rd_T122 l0 x4_1).f1), .int .i64 8] rfl (by (try simp only [List.map_toArray, List.map_cons, List.map_nil]); first | done | rfl | (simp only [List.length_drop, List.length_take]; rfl)) ?_; (with_reducible refine (serinetteref18_Number.calls k1 ((rd_T122 l0 x4_1).f1) 8 t124 _ A7.out).mono ?_); rintro e w18 ⟨v125, rfl, ho0, hb⟩; refine ⟨_, rfl, ?_⟩; have n0_ := Aside0.mk (Kd.R_elder' (by (with_reducible repeat (first | apply Kd.R_alloc | apply Kd.R_drewN | apply Kd.R_drew)); exact HO120.out) (Kd.R_base ho0) hb); have n1_ := Aside0.mk (Kd.R_elder' (by (with_reducible repeat (first | apply Kd.R_alloc | apply Kd.R_drewN | apply Kd.R_drew)); exact HO123.out) (Kd.R_base ho0) hb); have n2_ := Aside0.mk (Kd.R_lower (Kd.R_new' (Kd.R_new' ho0 (Kd.R_lt (by (with_reducible repeat (first | apply Kd.R_alloc | apply Kd.R_drewN | apply Kd.R_drew)); exact HO120.out))) (Kd.R_lt (by (with_reducible repeat (first | apply Kd.R_alloc | apply Kd.R_drewN | apply Kd.R_drew)); exact HO123.out))) (below_size (by repeat (first | (with_reducible first | exact HB.out | apply below_alloc | apply pw_below_drewN | apply below_drew1 | refine below_set ?_ GE117.out) | exact HB.out)))); have n3_ := Aside0.mk (blk_below (g := gb117) (o := .cells #[.int .i64 ((rd_T122 l0 x4_1).f0), .int .i64 ((rd_T122 l0 x4_1).f1), .int .i64 ((rd_T122 l0 x4_1).f2), .bool true] 122 (0, 0)) (by (with_reducible repeat (first | refine blk_drewN ?_ _ | refine blk_drew ?_ | refine blk_alloc ?_ _)); exact BK117.out) hb); have n4_ := Aside0.mk (below_step (by repeat (first | (with_reducible first | exact HB.out | apply below_alloc | apply pw_below_drewN | apply below_drew1 | refine below_set ?_ GE117.out) | exact HB.out)) hb); clear HO120; clear HO123; clear BK117; clear HB; have HO120 := n0_; have HO123 := n1_; have HO126 := n2_; have BK117 := n3_; have HB := n4_; clear n0_ n1_ n2_ n3_ n4_; (try clear hb); (try clear hb2); (try clear hk); (try clear hi); (try clear ho0); obtain ⟨Ao20, co20, eo20⟩ := Kd.R_slice HO126.out; subst eo20) | ((with_reducible refine gate_builtin (b := .append) (xs := #[.tmp 26, .tmp 29]) rfl ?_); at_builtin; refine Kd.R_append_rows (Kd.int .u8) (w0 := w) w.heap.size rfl (.tmp 26) (.tmp 29) 22 5 (.int .u8 0) 1 rfl Try.underlying22 info5 rfl (by decide) (by omega) v122 y121 t124 _ _ _ (fun k_ => some k_ ≠ (.slice Ao16 y118.length co16 : Value).ownBlock ∧ some k_ ≠ (.slice Ao20 t124.length co20 : Value).ownBlock) (fun _ => False) rfl rfl ?aO ?aR (fun _ _ h => h) (fun _ h => h.elim) ?aF ?aB ?aS ?aL ?_; (case aR => repeat (first | exact (Kd.R_reads' HO126.out).2.2 | (with_reducible refine Kd.C_alloc ?_ _) | (with_reducible refine Kd.C_drewN ?_ _) | (with_reducible refine Kd.C_drew ?_))); (case aB => exact (by repeat (first | (with_reducible first | exact HB.out | apply below_alloc | apply pw_below_drewN | apply below_drew1 | refine below_set ?_ GE117.out) | exact HB.out))); (case aF => exact (fun k_ hk => ⟨Kd.fresh' (Kd.R_lt (by (with_reducible repeat (first | apply Kd.R_alloc | apply Kd.R_drewN | apply Kd.R_drew)); exact HO120.out)) k_ hk, Kd.fresh' (Kd.R_lt (by (with_reducible repeat (first | apply Kd.R_alloc | apply Kd.R_drewN | apply Kd.R_drew)); exact HO126.out)) k_ hk⟩)); (case aO => exact (by (with_reducible repeat (first | apply Kd.R_alloc | apply Kd.R_drewN | apply Kd.R_drew)); exact HO123.out)); (case aS => exact (below_size (by repeat (first | (with_reducible first | exact HB.out | apply below_alloc | apply pw_below_drewN | apply below_drew1 | refine below_set ?_ GE117.out) | exact HB.out)))); (case aL => have := LMc8.out; omega); intro v128 w19 ho hb hg hat; rw [← Ny127.out] at ho; have n0_ := Aside0.mk (blk_grown (g := gb117) (o := .cells #[.int .i64 ((rd_T122 l0 x4_1).f0), .int .i64 ((rd_T122 l0 x4_1).f1), .int .i64 ((rd_T122 l0 x4_1).f2), .bool true] 122 (0, 0)) (by (with_reducible repeat (first | refine blk_drewN ?_ _ | refine blk_drew ?_ | refine blk_alloc ?_ _)); exact BK117.out) hg (Kd.R_ne HO123.out BK117.out (by decide))); have n1_ := Aside0.mk (Kd.R_after (ok := (fun k_ => some k_ ≠ (.slice Ao20 t124.length co20 : Value).ownBlock)) (by (with_reducible repeat (first | apply Kd.R_alloc | apply Kd.R_drewN | apply Kd.R_drew)); exact Kd.R_mono HO120.out (fun _ hk => ⟨hk.2, hk.1.2⟩)) hg hat); have n2_ := Aside0.mk (Kd.R_after (ok := (fun k_ => some k_ ≠ (.slice Ao16 y118.length co16 : Value).ownBlock)) (by (with_reducible repeat (first | apply Kd.R_alloc | apply Kd.R_drewN | apply Kd.R_drew)); exact Kd.R_mono HO126.out (fun _ hk => ⟨hk.1.2, hk.2⟩)) hg hat); have n3_ := Aside0.mk (hb); have n4_ := Aside0.mk (ho); clear BK117; clear HO120; clear HO126; clear HB; clear HO123; have BK117 := n0_; have HO120 := n1_; have HO126 := n2_; have HB := n3_; have HO129 := n4_; clear n0_ n1_ n2_ n3_ n4_; clear ho hb hg hat; have hcz21_0 : w19.cell? ⟨gb117, 0, none⟩ = some (.int .i64 ((rd_T122 l0 x4_1).f0)) := (blk_cell BK117.out 0).trans rfl; have hcz21_1 : w19.cell? ⟨gb117, 1, none⟩ = some (.int .i64 ((rd_T122 l0 x4_1).f1)) := (blk_cell BK117.out 1).trans rfl; have hcz21_2 : w19.cell? ⟨gb117, 2, none⟩ = some (.int .i64 ((rd_T122 l0 x4_1).f2)) := (blk_cell BK117.out 2).trans rfl; have hcz21_3 : w19.cell? ⟨gb117, 3, none⟩ = some (.bool true) := (blk_cell BK117.out 3).trans rfl; have hfz21_0 := blk_frozen BK117.out 0; have hfz21_1 := blk_frozen BK117.out 1; have hfz21_2 := blk_frozen BK117.out 2; have hfz21_3 := blk_frozen BK117.out 3) | ((with_reducible refine gate_callee (f := 73) rfl ?_); refine goesL_ (some 34) rfl rfl Try.func73 (by kernel_rfl) rfl #[.int .i64 ((rd_T122 l0 x4_1).f2), .int .i64 2] rfl (by (try simp only [List.map_toArray, List.map_cons, List.map_nil]); first | done | rfl | (simp only [List.length_drop, List.length_take]; rfl)) ?_; (with_reducible refine (serinetteref18_Number.calls k1 ((rd_T122 l0 x4_1).f2) 2 t130 _ A9.out).mono ?_); rintro e w22 ⟨v131, rfl, ho0, hb⟩; refine ⟨_, rfl, ?_⟩; have n0_ := Aside0.mk (Kd.R_elder' (by (with_reducible repeat (first | apply Kd.R_alloc | apply Kd.R_drewN | apply Kd.R_drew)); exact HO120.out) (Kd.R_base ho0) hb); have n1_ := Aside0.mk (Kd.R_elder' (by (with_reducible repeat (first | apply Kd.R_alloc | apply Kd.R_drewN | apply Kd.R_drew)); exact HO126.out) (Kd.R_base ho0) hb); have n2_ := Aside0.mk (Kd.R_elder' (by (with_reducible repeat (first | apply Kd.R_alloc | apply Kd.R_drewN | apply Kd.R_drew)); exact HO129.out) (Kd.R_base ho0) hb); have n3_ := Aside0.mk (Kd.R_lower (Kd.R_new' (Kd.R_new' (Kd.R_new' ho0 (Kd.R_lt (by (with_reducible repeat (first | apply Kd.R_alloc | apply Kd.R_drewN | apply Kd.R_drew)); exact HO120.out))) (Kd.R_lt (by (with_reducible repeat (first | apply Kd.R_alloc | apply Kd.R_drewN | apply Kd.R_drew)); exact HO126.out))) (Kd.R_lt (by (with_reducible repeat (first | apply Kd.R_alloc | apply Kd.R_drewN | apply Kd.R_drew)); exact HO129.out))) (below_size (by repeat (first | (with_reducible first | exact HB.out | apply below_alloc | apply pw_below_drewN | apply below_drew1 | refine below_set ?_ GE117.out) | exact HB.out)))); have n4_ := Aside0.mk (blk_below (g := gb117) (o := .cells #[.int .i64 ((rd_T122 l0 x4_1).f0), .int .i64 ((rd_T122 l0 x4_1).f1), .int .i64 ((rd_T122 l0 x4_1).f2), .bool true] 122 (0, 0)) (by (with_reducible repeat (first | refine blk_drewN ?_ _ | refine blk_drew ?_ | refine blk_alloc ?_ _)); exact BK117.out) hb); have n5_ := Aside0.mk (below_step (by repeat (first | (with_reducible first | exact HB.out | apply below_alloc | apply pw_below_drewN | apply below_drew1 | refine below_set ?_ GE117.out) | exact HB.out)) hb); clear HO120; clear HO126; clear HO129; clear BK117; clear HB; have HO120 := n0_; have HO126 := n1_; have HO129 := n2_; have HO132 := n3_; have BK117 := n4_; have HB := n5_; clear n0_ n1_ n2_ n3_ n4_ n5_; (try clear hb); (try clear hb2); (try clear hk); (try clear hi); (try clear ho0); obtain ⟨Ao24, co24, eo24⟩ := Kd.R_slice HO132.out; subst eo24) | ((with_reducible refine gate_builtin (b := .append) (xs := #[.tmp 31, .tmp 34]) rfl ?_); at_builtin; refine Kd.R_append_rows (Kd.int .u8) (w0 := w) w.heap.size rfl (.tmp 31) (.tmp 34) 22 5 (.int .u8 0) 1 rfl Try.underlying22 info5 rfl (by decide) (by omega) v128 y127 t130 _ _ _ (fun k_ => some k_ ≠ (.slice Ao16 y118.length co16 : Value).ownBlock ∧ some k_ ≠ (.slice Ao20 t124.length co20 : Value).ownBlock ∧ some k_ ≠ (.slice Ao24 t130.length co24 : Value).ownBlock) (fun _ => False) rfl rfl ?aO ?aR (fun _ _ h => h) (fun _ h => h.elim) ?aF ?aB ?aS ?aL ?_; (case aR => repeat (first | exact (Kd.R_reads' HO132.out).2.2 | (with_reducible refine Kd.C_alloc ?_ _) | (with_reducible refine Kd.C_drewN ?_ _) | (with_reducible refine Kd.C_drew ?_))); (case aB => exact (by repeat (first | (with_reducible first | exact HB.out | apply below_alloc | apply pw_below_drewN | apply below_drew1 | refine below_set ?_ GE117.out) | exact HB.out))); (case aF => exact (fun k_ hk => ⟨Kd.fresh' (Kd.R_lt (by (with_reducible repeat (first | apply Kd.R_alloc | apply Kd.R_drewN | apply Kd.R_drew)); exact HO120.out)) k_ hk, Kd.fresh' (Kd.R_lt (by (with_reducible repeat (first | apply Kd.R_alloc | apply Kd.R_drewN | apply Kd.R_drew)); exact HO126.out)) k_ hk, Kd.fresh' (Kd.R_lt (by (with_reducible repeat (first | apply Kd.R_alloc | apply Kd.R_drewN | apply Kd.R_drew)); exact HO132.out)) k_ hk⟩)); (case aO => exact (by (with_reducible repeat (first | apply Kd.R_alloc | apply Kd.R_drewN | apply Kd.R_drew)); exact Kd.R_mono HO129.out (fun _ hk => ⟨hk.1.1, ⟨hk.1.2, hk.2⟩⟩))); (case aS => exact (below_size (by repeat (first | (with_reducible first | exact HB.out | apply below_alloc | apply pw_below_drewN | apply below_drew1 | refine below_set ?_ GE117.out) | exact HB.out)))); (case aL => have := LMc10.out; omega); intro v134 w23 ho hb hg hat; rw [← Ny133.out] at ho; have n0_ := Aside0.mk (blk_grown (g := gb117) (o := .cells #[.int .i64 ((rd_T122 l0 x4_1).f0), .int .i64 ((rd_T122 l0 x4_1).f1), .int .i64 ((rd_T122 l0 x4_1).f2), .bool true] 122 (0, 0)) (by (with_reducible repeat (first | refine blk_drewN ?_ _ | refine blk_drew ?_ | refine blk_alloc ?_ _)); exact BK117.out) hg (Kd.R_ne HO129.out BK117.out (by decide))); have n1_ := Aside0.mk (Kd.R_after (ok := (fun k_ => some k_ ≠ (.slice Ao20 t124.length co20 : Value).ownBlock ∧ some k_ ≠ (.slice Ao24 t130.length co24 : Value).ownBlock)) (by (with_reducible repeat (first | apply Kd.R_alloc | apply Kd.R_drewN | apply Kd.R_drew)); exact Kd.R_mono HO120.out (fun _ hk => ⟨⟨hk.1.1, hk.2⟩, hk.1.2⟩)) hg hat); have n2_ := Aside0.mk (Kd.R_after (ok := (fun k_ => some k_ ≠ (.slice Ao16 y118.length co16 : Value).ownBlock ∧ some k_ ≠ (.slice Ao24 t130.length co24 : Value).ownBlock)) (by (with_reducible repeat (first | apply Kd.R_alloc | apply Kd.R_drewN | apply Kd.R_drew)); exact Kd.R_mono HO126.out (fun _ hk => ⟨⟨hk.1.1, hk.2⟩, hk.1.2⟩)) hg hat); have n3_ := Aside0.mk (Kd.R_after (ok := (fun k_ => some k_ ≠ (.slice Ao16 y118.length co16 : Value).ownBlock ∧ some k_ ≠ (.slice Ao20 t124.length co20 : Value).ownBlock)) (by (with_reducible repeat (first | apply Kd.R_alloc | apply Kd.R_drewN | apply Kd.R_drew)); exact Kd.R_mono HO132.out (fun _ hk => ⟨⟨hk.1.1.2, hk.1.2⟩, hk.2⟩)) hg hat); have n4_ := Aside0.mk (hb); have n5_ := Aside0.mk (ho); clear BK117; clear HO120; clear HO126; clear HO132; clear HB; clear HO129; have BK117 := n0_; have HO120 := n1_; have HO126 := n2_; have HO132 := n3_; have HB := n4_; have HO135 := n5_; clear n0_ n1_ n2_ n3_ n4_ n5_; clear ho hb hg hat))
                  go_roundg k1
                  case measure => have := HK1.out; omega
                  case rel => exact ⟨(y133), (wrap64 (x4_1 + 1)), (by first | rfl | (simp; done) | (simp [*]; done)), H', ⟨by have := HK1.out; omega⟩, ⟨by (with_reducible repeat (first | apply Kd.R_alloc | apply Kd.R_drewN | apply Kd.R_drew)); exact Kd.R_mono HO135.out (fun _ hk => trivial)⟩, ⟨by repeat (first | (with_reducible first | exact HB.out | apply below_alloc | apply pw_below_drewN | apply below_drew1 | refine below_set ?_ GE117.out) | exact HB.out)⟩⟩
                · rw [if_neg c10] at H
                  exact absurd H (by simp)
              · rw [if_neg c8] at H
                exact absurd H (by simp)
            · rw [if_neg c6] at H
              exact absurd H (by simp)
          · replace c5 := Bool.eq_false_iff.mpr c5
            subst c5
            have H1 : ((serinetteref18_Number.f k1 ((rd_T122 l0 x4_1).f0) 8).bind fun t136 => (if x3_1.length + t136.length < 140737488355328 then ((some (x3_1 ++ t136 : List Int)).bind fun y139 => ((serinetteref18_Number.f k1 ((rd_T122 l0 x4_1).f1) 8).bind fun t142 => (if y139.length + t142.length < 140737488355328 then ((some (y139 ++ t142 : List Int)).bind fun y145 => ((serinetteref18_Number.f k1 ((rd_T122 l0 x4_1).f2) 2).bind fun t148 => (if y145.length + t148.length < 140737488355328 then (serinetteref18_SeekBody.l0 k1 l0 (y145 ++ t148) (wrap64 (x4_1 + 1))) else (none)))) else (none)))) else (none))) = some r := by rw [if_neg (show ¬ (false = true) by decide)] at H; exact H
            clear H
            have H := H1
            clear H1
            replace H := Option.bind_eq_some_iff.mp H
            obtain ⟨t136, A250, H⟩ := H
            replace H : (if x3_1.length + t136.length < 140737488355328 then ((some (x3_1 ++ t136 : List Int)).bind fun y139 => ((serinetteref18_Number.f k1 ((rd_T122 l0 x4_1).f1) 8).bind fun t142 => (if y139.length + t142.length < 140737488355328 then ((some (y139 ++ t142 : List Int)).bind fun y145 => ((serinetteref18_Number.f k1 ((rd_T122 l0 x4_1).f2) 2).bind fun t148 => (if y145.length + t148.length < 140737488355328 then (serinetteref18_SeekBody.l0 k1 l0 (y145 ++ t148) (wrap64 (x4_1 + 1))) else (none)))) else (none)))) else (none)) = some r := H
            have A25 := Aside0.mk A250
            clear A250
            by_cases c26 : x3_1.length + t136.length < 140737488355328
            · rw [if_pos c26] at H
              have LMc26 := Aside0.mk c26
              clear c26
              obtain ⟨y139, hy139⟩ : ∃ y_ : List Int, y_ = (x3_1 ++ t136) := ⟨_, rfl⟩
              replace H : ((serinetteref18_Number.f k1 ((rd_T122 l0 x4_1).f1) 8).bind fun t142 => (if y139.length + t142.length < 140737488355328 then ((some (y139 ++ t142 : List Int)).bind fun y145 => ((serinetteref18_Number.f k1 ((rd_T122 l0 x4_1).f2) 2).bind fun t148 => (if y145.length + t148.length < 140737488355328 then (serinetteref18_SeekBody.l0 k1 l0 (y145 ++ t148) (wrap64 (x4_1 + 1))) else (none)))) else (none))) = some r := by first | (rw [hy139]; with_reducible exact H) | (have H2_ := (Option.bind_some _ _).symm.trans H; rw [hy139]; with_reducible exact H2_) | (have H2_ := (Option.bind_some _ _).symm.trans H; with_reducible exact H2_) | with_reducible exact H | (rw [hy139]; exact H) | exact H
              have Ny139 := Aside0.mk hy139
              clear hy139
              replace H := Option.bind_eq_some_iff.mp H
              obtain ⟨t142, A270, H⟩ := H
              replace H : (if y139.length + t142.length < 140737488355328 then ((some (y139 ++ t142 : List Int)).bind fun y145 => ((serinetteref18_Number.f k1 ((rd_T122 l0 x4_1).f2) 2).bind fun t148 => (if y145.length + t148.length < 140737488355328 then (serinetteref18_SeekBody.l0 k1 l0 (y145 ++ t148) (wrap64 (x4_1 + 1))) else (none)))) else (none)) = some r := H
              have A27 := Aside0.mk A270
              clear A270
              by_cases c28 : y139.length + t142.length < 140737488355328
              · rw [if_pos c28] at H
                have LMc28 := Aside0.mk c28
                clear c28
                obtain ⟨y145, hy145⟩ : ∃ y_ : List Int, y_ = (y139 ++ t142) := ⟨_, rfl⟩
                replace H : ((serinetteref18_Number.f k1 ((rd_T122 l0 x4_1).f2) 2).bind fun t148 => (if y145.length + t148.length < 140737488355328 then (serinetteref18_SeekBody.l0 k1 l0 (y145 ++ t148) (wrap64 (x4_1 + 1))) else (none))) = some r := by first | (rw [hy145]; with_reducible exact H) | (have H2_ := (Option.bind_some _ _).symm.trans H; rw [hy145]; with_reducible exact H2_) | (have H2_ := (Option.bind_some _ _).symm.trans H; with_reducible exact H2_) | with_reducible exact H | (rw [hy145]; exact H) | exact H
                have Ny145 := Aside0.mk hy145
                clear hy145
                replace H := Option.bind_eq_some_iff.mp H
                obtain ⟨t148, A290, H⟩ := H
                replace H : (if y145.length + t148.length < 140737488355328 then (serinetteref18_SeekBody.l0 k1 l0 (y145 ++ t148) (wrap64 (x4_1 + 1))) else (none)) = some r := H
                have A29 := Aside0.mk A290
                clear A290
                by_cases c30 : y145.length + t148.length < 140737488355328
                · rw [if_pos c30] at H
                  have LMc30 := Aside0.mk c30
                  clear c30
                  obtain ⟨y151, hy151⟩ : ∃ y_ : List Int, y_ = (y145 ++ t148) := ⟨_, rfl⟩
                  replace H : (serinetteref18_SeekBody.l0 k1 l0 y151 (wrap64 (x4_1 + 1))) = some r := by first | (rw [hy151]; with_reducible exact H) | (have H2_ := (Option.bind_some _ _).symm.trans H; rw [hy151]; with_reducible exact H2_) | (have H2_ := (Option.bind_some _ _).symm.trans H; with_reducible exact H2_) | with_reducible exact H | (rw [hy151]; exact H) | exact H
                  have Ny151 := Aside0.mk hy151
                  clear hy151
                  have H' := Aside0.mk H
                  clear H
                  have p116 : 0 ≤ (x4_1 : Int) := of_decide_eq_true (by first | (with_reducible assumption) | assumption)
                  have q116 : x4_1 < (l0.length : Int) := of_decide_eq_true (by first | (with_reducible assumption) | assumption)
                  obtain ⟨ad116, e116, hx116_0, hx116_1, hx116_2, hx116_3⟩ := at_T122 HR0.out x4_1 p116 q116
                  (try rw [← Nbq4.out] at hx116_3)
                  cases e116
                  replace hx116_0 := (HB.out.cell (World.block_lt_of_cell? w _ hx116_0)).trans hx116_0
                  replace hx116_1 := (HB.out.cell (World.block_lt_of_cell? w _ hx116_1)).trans hx116_1
                  replace hx116_2 := (HB.out.cell (World.block_lt_of_cell? w _ hx116_2)).trans hx116_2
                  replace hx116_3 := (HB.out.cell (World.block_lt_of_cell? w _ hx116_3)).trans hx116_3
                  replace p116 := eq_true p116
                  replace q116 := eq_true q116
                  go_wp2_with (first | ((with_reducible refine gate_dst (N := 5) rfl ?_); refine box_event ?hg (N := 5) ?hd (cs := #[.int .i64 0, .int .i64 0, .int .i64 0, .bool false]) (t := 122) ?hr ?_; (case hd => rfl); (case hg => rfl); (case hr => first | (go_simp; done) | (go_simp; rfl)); intro gb117 hg w31 hbox hb; have n0_ := Aside0.mk (Kd.R_below (by (with_reducible repeat (first | apply Kd.R_alloc | apply Kd.R_drewN | apply Kd.R_drew)); exact HO_3.out) hb); have n1_ := Aside0.mk (below_step (by repeat (first | (with_reducible first | exact HB.out | apply below_alloc | apply pw_below_drewN | apply below_drew1) | exact HB.out)) hb); have n2_ := Aside0.mk (hbox); have n3_ := Aside0.mk ((by rw [hg]; exact (below_size (by repeat (first | (with_reducible first | exact HB.out | apply below_alloc | apply pw_below_drewN | apply below_drew1) | exact HB.out))) : w.heap.size ≤ gb117)); have n4_ := Aside0.mk ((by rw [hg]; exact (below_size (by repeat (first | (with_reducible first | exact HB.out | apply below_alloc | apply pw_below_drewN | apply below_drew1) | exact HB.out))) : w.heap.size ≤ gb117)); clear HO_3; clear HB; have HO_3 := n0_; have HB := n1_; have BK117 := n2_; have GW117 := n3_; have GE117 := n4_; clear n0_ n1_ n2_ n3_ n4_; clear hb hbox hg; have hcz32_0 : w31.cell? ⟨gb117, 0, none⟩ = some (.int .i64 0) := (blk_cell BK117.out 0).trans rfl; have hcz32_1 : w31.cell? ⟨gb117, 1, none⟩ = some (.int .i64 0) := (blk_cell BK117.out 1).trans rfl; have hcz32_2 : w31.cell? ⟨gb117, 2, none⟩ = some (.int .i64 0) := (blk_cell BK117.out 2).trans rfl; have hcz32_3 : w31.cell? ⟨gb117, 3, none⟩ = some (.bool false) := (blk_cell BK117.out 3).trans rfl; have hfz32_0 := blk_frozen BK117.out 0; have hfz32_1 := blk_frozen BK117.out 1; have hfz32_2 := blk_frozen BK117.out 2; have hfz32_3 := blk_frozen BK117.out 3) | ((with_reducible refine gate_callee (f := 73) rfl ?_); refine goesL_ (some 24) rfl rfl Try.func73 (by kernel_rfl) rfl #[.int .i64 ((rd_T122 l0 x4_1).f0), .int .i64 8] rfl (by (try simp only [List.map_toArray, List.map_cons, List.map_nil]); first | done | rfl | (simp only [List.length_drop, List.length_take]; rfl)) ?_; (with_reducible refine (serinetteref18_Number.calls k1 ((rd_T122 l0 x4_1).f0) 8 t136 _ A25.out).mono ?_); rintro e w33 ⟨v137, rfl, ho0, hb⟩; refine ⟨_, rfl, ?_⟩; have n0_ := Aside0.mk (Kd.R_elder' (by (with_reducible repeat (first | apply Kd.R_alloc | apply Kd.R_drewN | apply Kd.R_drew)); exact (Kd.R_mono (Kd.R_far (p := ⟨gb117, 3, none⟩) (Kd.R_far (p := ⟨gb117, 2, none⟩) (Kd.R_far (p := ⟨gb117, 1, none⟩) (Kd.R_far (p := ⟨gb117, 0, none⟩) (Kd.R_types HO_3.out BK117.out (by decide)) (fun _ hk => hk.2) (.int .i64 ((rd_T122 l0 x4_1).f0))) (fun _ hk => hk.2) (.int .i64 ((rd_T122 l0 x4_1).f1))) (fun _ hk => hk.2) (.int .i64 ((rd_T122 l0 x4_1).f2))) (fun _ hk => hk.2) (.bool false)) (fun _ h_ => h_.1))) (Kd.R_base ho0) hb); have n1_ := Aside0.mk (Kd.R_lower (Kd.R_new' ho0 (Kd.R_lt (by (with_reducible repeat (first | apply Kd.R_alloc | apply Kd.R_drewN | apply Kd.R_drew)); exact (Kd.R_mono (Kd.R_far (p := ⟨gb117, 3, none⟩) (Kd.R_far (p := ⟨gb117, 2, none⟩) (Kd.R_far (p := ⟨gb117, 1, none⟩) (Kd.R_far (p := ⟨gb117, 0, none⟩) (Kd.R_types HO_3.out BK117.out (by decide)) (fun _ hk => hk.2) (.int .i64 ((rd_T122 l0 x4_1).f0))) (fun _ hk => hk.2) (.int .i64 ((rd_T122 l0 x4_1).f1))) (fun _ hk => hk.2) (.int .i64 ((rd_T122 l0 x4_1).f2))) (fun _ hk => hk.2) (.bool false)) (fun _ h_ => h_.1))))) (below_size (by repeat (first | (with_reducible first | exact HB.out | apply below_alloc | apply pw_below_drewN | apply below_drew1 | refine below_set ?_ GE117.out) | exact HB.out)))); have n2_ := Aside0.mk (blk_below (g := gb117) (o := .cells #[.int .i64 ((rd_T122 l0 x4_1).f0), .int .i64 ((rd_T122 l0 x4_1).f1), .int .i64 ((rd_T122 l0 x4_1).f2), .bool false] 122 (0, 0)) (by (with_reducible repeat (first | refine blk_drewN ?_ _ | refine blk_drew ?_ | refine blk_alloc ?_ _)); refine blk_put (cs := #[.int .i64 ((rd_T122 l0 x4_1).f0), .int .i64 ((rd_T122 l0 x4_1).f1), .int .i64 ((rd_T122 l0 x4_1).f2), .bool false]) ?_ 3 _ rfl; (with_reducible repeat (first | refine blk_drewN ?_ _ | refine blk_drew ?_ | refine blk_alloc ?_ _)); refine blk_put (cs := #[.int .i64 ((rd_T122 l0 x4_1).f0), .int .i64 ((rd_T122 l0 x4_1).f1), .int .i64 0, .bool false]) ?_ 2 _ rfl; (with_reducible repeat (first | refine blk_drewN ?_ _ | refine blk_drew ?_ | refine blk_alloc ?_ _)); refine blk_put (cs := #[.int .i64 ((rd_T122 l0 x4_1).f0), .int .i64 0, .int .i64 0, .bool false]) ?_ 1 _ rfl; (with_reducible repeat (first | refine blk_drewN ?_ _ | refine blk_drew ?_ | refine blk_alloc ?_ _)); refine blk_put (cs := #[.int .i64 0, .int .i64 0, .int .i64 0, .bool false]) ?_ 0 _ rfl; (with_reducible repeat (first | refine blk_drewN ?_ _ | refine blk_drew ?_ | refine blk_alloc ?_ _)); exact BK117.out) hb); have n3_ := Aside0.mk (below_step (by repeat (first | (with_reducible first | exact HB.out | apply below_alloc | apply pw_below_drewN | apply below_drew1 | refine below_set ?_ GE117.out) | exact HB.out)) hb); clear HO_3; clear BK117; clear HB; have HO_3 := n0_; have HO138 := n1_; have BK117 := n2_; have HB := n3_; clear n0_ n1_ n2_ n3_; (try clear hb); (try clear hb2); (try clear hk); (try clear hi); (try clear ho0); obtain ⟨Ao35, co35, eo35⟩ := Kd.R_slice HO138.out; subst eo35) | ((with_reducible refine gate_builtin (b := .append) (xs := #[.tmp 21, .tmp 24]) rfl ?_); at_builtin; refine Kd.R_append_rows (Kd.int .u8) (w0 := w) w.heap.size rfl (.tmp 21) (.tmp 24) 22 5 (.int .u8 0) 1 rfl Try.underlying22 info5 rfl (by decide) (by omega) u3 x3_1 t136 _ _ _ (fun k_ => some k_ ≠ (.slice Ao35 t136.length co35 : Value).ownBlock) (fun _ => False) rfl rfl ?aO ?aR (fun _ _ h => h) (fun _ h => h.elim) ?aF ?aB ?aS ?aL ?_; (case aR => repeat (first | exact (Kd.R_reads' HO138.out).2.2 | (with_reducible refine Kd.C_alloc ?_ _) | (with_reducible refine Kd.C_drewN ?_ _) | (with_reducible refine Kd.C_drew ?_))); (case aB => exact (by repeat (first | (with_reducible first | exact HB.out | apply below_alloc | apply pw_below_drewN | apply below_drew1 | refine below_set ?_ GE117.out) | exact HB.out))); (case aF => exact (fun k_ hk => Kd.fresh' (Kd.R_lt (by (with_reducible repeat (first | apply Kd.R_alloc | apply Kd.R_drewN | apply Kd.R_drew)); exact HO138.out)) k_ hk)); (case aO => exact (by (with_reducible repeat (first | apply Kd.R_alloc | apply Kd.R_drewN | apply Kd.R_drew)); exact Kd.R_mono HO_3.out (fun _ hk => hk.2))); (case aS => exact (below_size (by repeat (first | (with_reducible first | exact HB.out | apply below_alloc | apply pw_below_drewN | apply below_drew1 | refine below_set ?_ GE117.out) | exact HB.out)))); (case aL => have := LMc26.out; omega); intro v140 w34 ho hb hg hat; rw [← Ny139.out] at ho; have n0_ := Aside0.mk (blk_grown (g := gb117) (o := .cells #[.int .i64 ((rd_T122 l0 x4_1).f0), .int .i64 ((rd_T122 l0 x4_1).f1), .int .i64 ((rd_T122 l0 x4_1).f2), .bool false] 122 (0, 0)) (by (with_reducible repeat (first | refine blk_drewN ?_ _ | refine blk_drew ?_ | refine blk_alloc ?_ _)); exact BK117.out) hg (Kd.R_ne HO_3.out BK117.out (by decide))); have n1_ := Aside0.mk (Kd.R_after (ok := (fun _ => True)) (by (with_reducible repeat (first | apply Kd.R_alloc | apply Kd.R_drewN | apply Kd.R_drew)); exact HO138.out) hg hat); have n2_ := Aside0.mk (hb); have n3_ := Aside0.mk (ho); clear BK117; clear HO138; clear HB; clear HO_3; have BK117 := n0_; have HO138 := n1_; have HB := n2_; have HO141 := n3_; clear n0_ n1_ n2_ n3_; clear ho hb hg hat; have hcz36_0 : w34.cell? ⟨gb117, 0, none⟩ = some (.int .i64 ((rd_T122 l0 x4_1).f0)) := (blk_cell BK117.out 0).trans rfl; have hcz36_1 : w34.cell? ⟨gb117, 1, none⟩ = some (.int .i64 ((rd_T122 l0 x4_1).f1)) := (blk_cell BK117.out 1).trans rfl; have hcz36_2 : w34.cell? ⟨gb117, 2, none⟩ = some (.int .i64 ((rd_T122 l0 x4_1).f2)) := (blk_cell BK117.out 2).trans rfl; have hcz36_3 : w34.cell? ⟨gb117, 3, none⟩ = some (.bool false) := (blk_cell BK117.out 3).trans rfl; have hfz36_0 := blk_frozen BK117.out 0; have hfz36_1 := blk_frozen BK117.out 1; have hfz36_2 := blk_frozen BK117.out 2; have hfz36_3 := blk_frozen BK117.out 3) | ((with_reducible refine gate_callee (f := 73) rfl ?_); refine goesL_ (some 29) rfl rfl Try.func73 (by kernel_rfl) rfl #[.int .i64 ((rd_T122 l0 x4_1).f1), .int .i64 8] rfl (by (try simp only [List.map_toArray, List.map_cons, List.map_nil]); first | done | rfl | (simp only [List.length_drop, List.length_take]; rfl)) ?_; (with_reducible refine (serinetteref18_Number.calls k1 ((rd_T122 l0 x4_1).f1) 8 t142 _ A27.out).mono ?_); rintro e w37 ⟨v143, rfl, ho0, hb⟩; refine ⟨_, rfl, ?_⟩; have n0_ := Aside0.mk (Kd.R_elder' (by (with_reducible repeat (first | apply Kd.R_alloc | apply Kd.R_drewN | apply Kd.R_drew)); exact HO138.out) (Kd.R_base ho0) hb); have n1_ := Aside0.mk (Kd.R_elder' (by (with_reducible repeat (first | apply Kd.R_alloc | apply Kd.R_drewN | apply Kd.R_drew)); exact HO141.out) (Kd.R_base ho0) hb); have n2_ := Aside0.mk (Kd.R_lower (Kd.R_new' (Kd.R_new' ho0 (Kd.R_lt (by (with_reducible repeat (first | apply Kd.R_alloc | apply Kd.R_drewN | apply Kd.R_drew)); exact HO138.out))) (Kd.R_lt (by (with_reducible repeat (first | apply Kd.R_alloc | apply Kd.R_drewN | apply Kd.R_drew)); exact HO141.out))) (below_size (by repeat (first | (with_reducible first | exact HB.out | apply below_alloc | apply pw_below_drewN | apply below_drew1 | refine below_set ?_ GE117.out) | exact HB.out)))); have n3_ := Aside0.mk (blk_below (g := gb117) (o := .cells #[.int .i64 ((rd_T122 l0 x4_1).f0), .int .i64 ((rd_T122 l0 x4_1).f1), .int .i64 ((rd_T122 l0 x4_1).f2), .bool false] 122 (0, 0)) (by (with_reducible repeat (first | refine blk_drewN ?_ _ | refine blk_drew ?_ | refine blk_alloc ?_ _)); exact BK117.out) hb); have n4_ := Aside0.mk (below_step (by repeat (first | (with_reducible first | exact HB.out | apply below_alloc | apply pw_below_drewN | apply below_drew1 | refine below_set ?_ GE117.out) | exact HB.out)) hb); clear HO138; clear HO141; clear BK117; clear HB; have HO138 := n0_; have HO141 := n1_; have HO144 := n2_; have BK117 := n3_; have HB := n4_; clear n0_ n1_ n2_ n3_ n4_; (try clear hb); (try clear hb2); (try clear hk); (try clear hi); (try clear ho0); obtain ⟨Ao39, co39, eo39⟩ := Kd.R_slice HO144.out; subst eo39) | ((with_reducible refine gate_builtin (b := .append) (xs := #[.tmp 26, .tmp 29]) rfl ?_); at_builtin; refine Kd.R_append_rows (Kd.int .u8) (w0 := w) w.heap.size rfl (.tmp 26) (.tmp 29) 22 5 (.int .u8 0) 1 rfl Try.underlying22 info5 rfl (by decide) (by omega) v140 y139 t142 _ _ _ (fun k_ => some k_ ≠ (.slice Ao35 t136.length co35 : Value).ownBlock ∧ some k_ ≠ (.slice Ao39 t142.length co39 : Value).ownBlock) (fun _ => False) rfl rfl ?aO ?aR (fun _ _ h => h) (fun _ h => h.elim) ?aF ?aB ?aS ?aL ?_; (case aR => repeat (first | exact (Kd.R_reads' HO144.out).2.2 | (with_reducible refine Kd.C_alloc ?_ _) | (with_reducible refine Kd.C_drewN ?_ _) | (with_reducible refine Kd.C_drew ?_))); (case aB => exact (by repeat (first | (with_reducible first | exact HB.out | apply below_alloc | apply pw_below_drewN | apply below_drew1 | refine below_set ?_ GE117.out) | exact HB.out))); (case aF => exact (fun k_ hk => ⟨Kd.fresh' (Kd.R_lt (by (with_reducible repeat (first | apply Kd.R_alloc | apply Kd.R_drewN | apply Kd.R_drew)); exact HO138.out)) k_ hk, Kd.fresh' (Kd.R_lt (by (with_reducible repeat (first | apply Kd.R_alloc | apply Kd.R_drewN | apply Kd.R_drew)); exact HO144.out)) k_ hk⟩)); (case aO => exact (by (with_reducible repeat (first | apply Kd.R_alloc | apply Kd.R_drewN | apply Kd.R_drew)); exact HO141.out)); (case aS => exact (below_size (by repeat (first | (with_reducible first | exact HB.out | apply below_alloc | apply pw_below_drewN | apply below_drew1 | refine below_set ?_ GE117.out) | exact HB.out)))); (case aL => have := LMc28.out; omega); intro v146 w38 ho hb hg hat; rw [← Ny145.out] at ho; have n0_ := Aside0.mk (blk_grown (g := gb117) (o := .cells #[.int .i64 ((rd_T122 l0 x4_1).f0), .int .i64 ((rd_T122 l0 x4_1).f1), .int .i64 ((rd_T122 l0 x4_1).f2), .bool false] 122 (0, 0)) (by (with_reducible repeat (first | refine blk_drewN ?_ _ | refine blk_drew ?_ | refine blk_alloc ?_ _)); exact BK117.out) hg (Kd.R_ne HO141.out BK117.out (by decide))); have n1_ := Aside0.mk (Kd.R_after (ok := (fun k_ => some k_ ≠ (.slice Ao39 t142.length co39 : Value).ownBlock)) (by (with_reducible repeat (first | apply Kd.R_alloc | apply Kd.R_drewN | apply Kd.R_drew)); exact Kd.R_mono HO138.out (fun _ hk => ⟨hk.2, hk.1.2⟩)) hg hat); have n2_ := Aside0.mk (Kd.R_after (ok := (fun k_ => some k_ ≠ (.slice Ao35 t136.length co35 : Value).ownBlock)) (by (with_reducible repeat (first | apply Kd.R_alloc | apply Kd.R_drewN | apply Kd.R_drew)); exact Kd.R_mono HO144.out (fun _ hk => ⟨hk.1.2, hk.2⟩)) hg hat); have n3_ := Aside0.mk (hb); have n4_ := Aside0.mk (ho); clear BK117; clear HO138; clear HO144; clear HB; clear HO141; have BK117 := n0_; have HO138 := n1_; have HO144 := n2_; have HB := n3_; have HO147 := n4_; clear n0_ n1_ n2_ n3_ n4_; clear ho hb hg hat; have hcz40_0 : w38.cell? ⟨gb117, 0, none⟩ = some (.int .i64 ((rd_T122 l0 x4_1).f0)) := (blk_cell BK117.out 0).trans rfl; have hcz40_1 : w38.cell? ⟨gb117, 1, none⟩ = some (.int .i64 ((rd_T122 l0 x4_1).f1)) := (blk_cell BK117.out 1).trans rfl; have hcz40_2 : w38.cell? ⟨gb117, 2, none⟩ = some (.int .i64 ((rd_T122 l0 x4_1).f2)) := (blk_cell BK117.out 2).trans rfl; have hcz40_3 : w38.cell? ⟨gb117, 3, none⟩ = some (.bool false) := (blk_cell BK117.out 3).trans rfl; have hfz40_0 := blk_frozen BK117.out 0; have hfz40_1 := blk_frozen BK117.out 1; have hfz40_2 := blk_frozen BK117.out 2; have hfz40_3 := blk_frozen BK117.out 3) | ((with_reducible refine gate_callee (f := 73) rfl ?_); refine goesL_ (some 34) rfl rfl Try.func73 (by kernel_rfl) rfl #[.int .i64 ((rd_T122 l0 x4_1).f2), .int .i64 2] rfl (by (try simp only [List.map_toArray, List.map_cons, List.map_nil]); first | done | rfl | (simp only [List.length_drop, List.length_take]; rfl)) ?_; (with_reducible refine (serinetteref18_Number.calls k1 ((rd_T122 l0 x4_1).f2) 2 t148 _ A29.out).mono ?_); rintro e w41 ⟨v149, rfl, ho0, hb⟩; refine ⟨_, rfl, ?_⟩; have n0_ := Aside0.mk (Kd.R_elder' (by (with_reducible repeat (first | apply Kd.R_alloc | apply Kd.R_drewN | apply Kd.R_drew)); exact HO138.out) (Kd.R_base ho0) hb); have n1_ := Aside0.mk (Kd.R_elder' (by (with_reducible repeat (first | apply Kd.R_alloc | apply Kd.R_drewN | apply Kd.R_drew)); exact HO144.out) (Kd.R_base ho0) hb); have n2_ := Aside0.mk (Kd.R_elder' (by (with_reducible repeat (first | apply Kd.R_alloc | apply Kd.R_drewN | apply Kd.R_drew)); exact HO147.out) (Kd.R_base ho0) hb); have n3_ := Aside0.mk (Kd.R_lower (Kd.R_new' (Kd.R_new' (Kd.R_new' ho0 (Kd.R_lt (by (with_reducible repeat (first | apply Kd.R_alloc | apply Kd.R_drewN | apply Kd.R_drew)); exact HO138.out))) (Kd.R_lt (by (with_reducible repeat (first | apply Kd.R_alloc | apply Kd.R_drewN | apply Kd.R_drew)); exact HO144.out))) (Kd.R_lt (by (with_reducible repeat (first | apply Kd.R_alloc | apply Kd.R_drewN | apply Kd.R_drew)); exact HO147.out))) (below_size (by repeat (first | (with_reducible first | exact HB.out | apply below_alloc | apply pw_below_drewN | apply below_drew1 | refine below_set ?_ GE117.out) | exact HB.out)))); have n4_ := Aside0.mk (blk_below (g := gb117) (o := .cells #[.int .i64 ((rd_T122 l0 x4_1).f0), .int .i64 ((rd_T122 l0 x4_1).f1), .int .i64 ((rd_T122 l0 x4_1).f2), .bool false] 122 (0, 0)) (by (with_reducible repeat (first | refine blk_drewN ?_ _ | refine blk_drew ?_ | refine blk_alloc ?_ _)); exact BK117.out) hb); have n5_ := Aside0.mk (below_step (by repeat (first | (with_reducible first | exact HB.out | apply below_alloc | apply pw_below_drewN | apply below_drew1 | refine below_set ?_ GE117.out) | exact HB.out)) hb); clear HO138; clear HO144; clear HO147; clear BK117; clear HB; have HO138 := n0_; have HO144 := n1_; have HO147 := n2_; have HO150 := n3_; have BK117 := n4_; have HB := n5_; clear n0_ n1_ n2_ n3_ n4_ n5_; (try clear hb); (try clear hb2); (try clear hk); (try clear hi); (try clear ho0); obtain ⟨Ao43, co43, eo43⟩ := Kd.R_slice HO150.out; subst eo43) | ((with_reducible refine gate_builtin (b := .append) (xs := #[.tmp 31, .tmp 34]) rfl ?_); at_builtin; refine Kd.R_append_rows (Kd.int .u8) (w0 := w) w.heap.size rfl (.tmp 31) (.tmp 34) 22 5 (.int .u8 0) 1 rfl Try.underlying22 info5 rfl (by decide) (by omega) v146 y145 t148 _ _ _ (fun k_ => some k_ ≠ (.slice Ao35 t136.length co35 : Value).ownBlock ∧ some k_ ≠ (.slice Ao39 t142.length co39 : Value).ownBlock ∧ some k_ ≠ (.slice Ao43 t148.length co43 : Value).ownBlock) (fun _ => False) rfl rfl ?aO ?aR (fun _ _ h => h) (fun _ h => h.elim) ?aF ?aB ?aS ?aL ?_; (case aR => repeat (first | exact (Kd.R_reads' HO150.out).2.2 | (with_reducible refine Kd.C_alloc ?_ _) | (with_reducible refine Kd.C_drewN ?_ _) | (with_reducible refine Kd.C_drew ?_))); (case aB => exact (by repeat (first | (with_reducible first | exact HB.out | apply below_alloc | apply pw_below_drewN | apply below_drew1 | refine below_set ?_ GE117.out) | exact HB.out))); (case aF => exact (fun k_ hk => ⟨Kd.fresh' (Kd.R_lt (by (with_reducible repeat (first | apply Kd.R_alloc | apply Kd.R_drewN | apply Kd.R_drew)); exact HO138.out)) k_ hk, Kd.fresh' (Kd.R_lt (by (with_reducible repeat (first | apply Kd.R_alloc | apply Kd.R_drewN | apply Kd.R_drew)); exact HO144.out)) k_ hk, Kd.fresh' (Kd.R_lt (by (with_reducible repeat (first | apply Kd.R_alloc | apply Kd.R_drewN | apply Kd.R_drew)); exact HO150.out)) k_ hk⟩)); (case aO => exact (by (with_reducible repeat (first | apply Kd.R_alloc | apply Kd.R_drewN | apply Kd.R_drew)); exact Kd.R_mono HO147.out (fun _ hk => ⟨hk.1.1, ⟨hk.1.2, hk.2⟩⟩))); (case aS => exact (below_size (by repeat (first | (with_reducible first | exact HB.out | apply below_alloc | apply pw_below_drewN | apply below_drew1 | refine below_set ?_ GE117.out) | exact HB.out)))); (case aL => have := LMc30.out; omega); intro v152 w42 ho hb hg hat; rw [← Ny151.out] at ho; have n0_ := Aside0.mk (blk_grown (g := gb117) (o := .cells #[.int .i64 ((rd_T122 l0 x4_1).f0), .int .i64 ((rd_T122 l0 x4_1).f1), .int .i64 ((rd_T122 l0 x4_1).f2), .bool false] 122 (0, 0)) (by (with_reducible repeat (first | refine blk_drewN ?_ _ | refine blk_drew ?_ | refine blk_alloc ?_ _)); exact BK117.out) hg (Kd.R_ne HO147.out BK117.out (by decide))); have n1_ := Aside0.mk (Kd.R_after (ok := (fun k_ => some k_ ≠ (.slice Ao39 t142.length co39 : Value).ownBlock ∧ some k_ ≠ (.slice Ao43 t148.length co43 : Value).ownBlock)) (by (with_reducible repeat (first | apply Kd.R_alloc | apply Kd.R_drewN | apply Kd.R_drew)); exact Kd.R_mono HO138.out (fun _ hk => ⟨⟨hk.1.1, hk.2⟩, hk.1.2⟩)) hg hat); have n2_ := Aside0.mk (Kd.R_after (ok := (fun k_ => some k_ ≠ (.slice Ao35 t136.length co35 : Value).ownBlock ∧ some k_ ≠ (.slice Ao43 t148.length co43 : Value).ownBlock)) (by (with_reducible repeat (first | apply Kd.R_alloc | apply Kd.R_drewN | apply Kd.R_drew)); exact Kd.R_mono HO144.out (fun _ hk => ⟨⟨hk.1.1, hk.2⟩, hk.1.2⟩)) hg hat); have n3_ := Aside0.mk (Kd.R_after (ok := (fun k_ => some k_ ≠ (.slice Ao35 t136.length co35 : Value).ownBlock ∧ some k_ ≠ (.slice Ao39 t142.length co39 : Value).ownBlock)) (by (with_reducible repeat (first | apply Kd.R_alloc | apply Kd.R_drewN | apply Kd.R_drew)); exact Kd.R_mono HO150.out (fun _ hk => ⟨⟨hk.1.1.2, hk.1.2⟩, hk.2⟩)) hg hat); have n4_ := Aside0.mk (hb); have n5_ := Aside0.mk (ho); clear BK117; clear HO138; clear HO144; clear HO150; clear HB; clear HO147; have BK117 := n0_; have HO138 := n1_; have HO144 := n2_; have HO150 := n3_; have HB := n4_; have HO153 := n5_; clear n0_ n1_ n2_ n3_ n4_ n5_; clear ho hb hg hat))
                  go_roundg k1
                  case measure => have := HK1.out; omega
                  case rel => exact ⟨(y151), (wrap64 (x4_1 + 1)), (by first | rfl | (simp; done) | (simp [*]; done)), H', ⟨by have := HK1.out; omega⟩, ⟨by (with_reducible repeat (first | apply Kd.R_alloc | apply Kd.R_drewN | apply Kd.R_drew)); exact Kd.R_mono HO153.out (fun _ hk => trivial)⟩, ⟨by repeat (first | (with_reducible first | exact HB.out | apply below_alloc | apply pw_below_drewN | apply below_drew1 | refine below_set ?_ GE117.out) | exact HB.out)⟩⟩
                · rw [if_neg c30] at H
                  exact absurd H (by simp)
              · rw [if_neg c28] at H
                exact absurd H (by simp)
            · rw [if_neg c26] at H
              exact absurd H (by simp)
        · rw [if_neg c3] at H
          exact absurd H (by simp)
      · rw [if_neg c2] at H
        have c2b0 : decide (x4_1 < (l0.length : Int)) = false := decide_eq_false c2
        clear c2
        obtain rfl := Option.some.inj H
        go_wp2
        go_ret
        exact ⟨_, by first | rfl | (simp [errW_none, errW_some] <;> rfl) | (simp [*, errW_none, errW_some] <;> rfl), by (with_reducible repeat (first | apply Kd.R_alloc | apply Kd.R_drewN | apply Kd.R_drew)); exact HO_3.out, by repeat (first | (with_reducible first | exact HB.out | apply below_alloc | apply pw_below_drewN | apply below_drew1) | exact HB.out)⟩

end Go.Proofs.Ytpeejdmbnlhjmaa.PMetaWrites
-- written by this session's program wip/reprint.sh (a turned copy of the kit's print): the session's own text
namespace Go.Proofs.Ytpeejdmbnlhjmaa.PMetaWrites
open Go.RowKit Go.Proofs.YtpeejdmbnlhjmaaW.PrintWords Go.Proofs.YtpeejdmbnlhjmaaW.PrintLast Go.Proofs.YtpeejdmbnlhjmaaW.PrintMore Go.Proofs.Ytpeejdmbnlhjmaa.H
attribute [local go_sem] max2_int min2_int max_two min_two max_three min_three max_four min_four   -- for this text's walks alone
set_option linter.unusedVariables false
set_option linter.unusedSimpArgs false

/-! ### serinetteref18_Rune: function 67 -/
mutual
def serinetteref18_Rune.j0 : Nat → List Int → Int → Int → Int → Int → Bool → Option (Int × Int)
  | 0, _, _, _, _, _, _ => none
  | k + 1, x0, x4, x5, x6, x7, x24 => if x24 = true then (serinetteref18_Rune.j1 k x0 x4 2 (wrap64 (x4 - 192)) 128) else (serinetteref18_Rune.j1 k x0 x4 x5 x6 x7)
def serinetteref18_Rune.j1 : Nat → List Int → Int → Int → Int → Int → Option (Int × Int)
  | 0, _, _, _, _, _ => none
  | k + 1, x0, x4, x5, x6, x7 => if x4 ≥ 224 then (serinetteref18_Rune.j2 k x0 x4 x5 x6 x7 (decide (x4 ≤ 239))) else (serinetteref18_Rune.j2 k x0 x4 x5 x6 x7 false)
def serinetteref18_Rune.j2 : Nat → List Int → Int → Int → Int → Int → Bool → Option (Int × Int)
  | 0, _, _, _, _, _, _ => none
  | k + 1, x0, x4, x5, x6, x7, x32 => if x32 = true then (serinetteref18_Rune.j3 k x0 x4 3 (wrap64 (x4 - 224)) 2048) else (serinetteref18_Rune.j3 k x0 x4 x5 x6 x7)
def serinetteref18_Rune.j3 : Nat → List Int → Int → Int → Int → Int → Option (Int × Int)
  | 0, _, _, _, _, _ => none
  | k + 1, x0, x4, x5, x6, x7 => if x4 ≥ 240 then (serinetteref18_Rune.j4 k x0 x4 x5 x6 x7 (decide (x4 ≤ 244))) else (serinetteref18_Rune.j4 k x0 x4 x5 x6 x7 false)
def serinetteref18_Rune.j4 : Nat → List Int → Int → Int → Int → Int → Bool → Option (Int × Int)
  | 0, _, _, _, _, _, _ => none
  | k + 1, x0, x4, x5, x6, x7, x40 => if x40 = true then (serinetteref18_Rune.j5 k x0 4 (wrap64 (x4 - 240)) 65536) else (serinetteref18_Rune.j5 k x0 x5 x6 x7)
def serinetteref18_Rune.j5 : Nat → List Int → Int → Int → Int → Option (Int × Int)
  | 0, _, _, _, _ => none
  | k + 1, x0, x5, x6, x7 => if x5 = 0 then (serinetteref18_Rune.j6 k x0 x5 x6 x7 true) else (serinetteref18_Rune.j6 k x0 x5 x6 x7 (decide ((x0.length : Int) < x5)))
def serinetteref18_Rune.j6 : Nat → List Int → Int → Int → Int → Bool → Option (Int × Int)
  | 0, _, _, _, _, _ => none
  | k + 1, x0, x5, x6, x7, x50 => if x50 = true then (some (0, 0)) else (serinetteref18_Rune.l0 k x0 x5 x6 x7 1)
def serinetteref18_Rune.l0 : Nat → List Int → Int → Int → Int → Int → Option (Int × Int)
  | 0, _, _, _, _, _ => none
  | k + 1, x0, x5, x6, x7, x8 => if x8 < x5 then (if 0 ≤ x8 then (if x8 < (x0.length : Int) then (if (rd x0 x8) < 128 then (some (0, 0)) else (if (rd x0 x8) > 191 then (some (0, 0)) else (serinetteref18_Rune.l0 k x0 x5 (wrap64 ((wrap64 ((wrap64 (64 * x6)) + (wrap64 (rd x0 x8)))) - 128)) x7 (wrap64 (x8 + 1))))) else (none)) else (none)) else (if x6 < x7 then (some (0, 0)) else (if x6 > 1114111 then (some (0, 0)) else (if x6 ≥ 55296 then (if x6 ≤ 57343 then (some (0, 0)) else (some (x6, x5))) else (some (x6, x5)))))
end
def serinetteref18_Rune.f (k : Nat) (l0 : List Int) : Option (Int × Int) := if (l0.length : Int) = 0 then (some (0, 0)) else (if 0 < (l0.length : Int) then (if (wrap64 (rd l0 0)) < 128 then (some (wrap64 (rd l0 0), 1)) else (if (wrap64 (rd l0 0)) ≥ 194 then (serinetteref18_Rune.j0 k l0 (wrap64 (rd l0 0)) 0 0 0 (decide ((wrap64 (rd l0 0)) ≤ 223))) else (serinetteref18_Rune.j0 k l0 (wrap64 (rd l0 0)) 0 0 0 false))) else (none))
theorem serinetteref18_Rune.mono_l : ∀ k, (∀ y0 y1 y2 y3 y4 y5, LeO (serinetteref18_Rune.j0 k y0 y1 y2 y3 y4 y5) (serinetteref18_Rune.j0 (k + 1) y0 y1 y2 y3 y4 y5)) ∧ (∀ y0 y1 y2 y3 y4, LeO (serinetteref18_Rune.j1 k y0 y1 y2 y3 y4) (serinetteref18_Rune.j1 (k + 1) y0 y1 y2 y3 y4)) ∧ (∀ y0 y1 y2 y3 y4 y5, LeO (serinetteref18_Rune.j2 k y0 y1 y2 y3 y4 y5) (serinetteref18_Rune.j2 (k + 1) y0 y1 y2 y3 y4 y5)) ∧ (∀ y0 y1 y2 y3 y4, LeO (serinetteref18_Rune.j3 k y0 y1 y2 y3 y4) (serinetteref18_Rune.j3 (k + 1) y0 y1 y2 y3 y4)) ∧ (∀ y0 y1 y2 y3 y4 y5, LeO (serinetteref18_Rune.j4 k y0 y1 y2 y3 y4 y5) (serinetteref18_Rune.j4 (k + 1) y0 y1 y2 y3 y4 y5)) ∧ (∀ y0 y1 y2 y3, LeO (serinetteref18_Rune.j5 k y0 y1 y2 y3) (serinetteref18_Rune.j5 (k + 1) y0 y1 y2 y3)) ∧ (∀ y0 y1 y2 y3 y4, LeO (serinetteref18_Rune.j6 k y0 y1 y2 y3 y4) (serinetteref18_Rune.j6 (k + 1) y0 y1 y2 y3 y4)) ∧ (∀ y0 y1 y2 y3 y4, LeO (serinetteref18_Rune.l0 k y0 y1 y2 y3 y4) (serinetteref18_Rune.l0 (k + 1) y0 y1 y2 y3 y4))
  | 0 => ⟨fun _ _ _ _ _ _ r h => by simp [serinetteref18_Rune.j0] at h, fun _ _ _ _ _ r h => by simp [serinetteref18_Rune.j1] at h, fun _ _ _ _ _ _ r h => by simp [serinetteref18_Rune.j2] at h, fun _ _ _ _ _ r h => by simp [serinetteref18_Rune.j3] at h, fun _ _ _ _ _ _ r h => by simp [serinetteref18_Rune.j4] at h, fun _ _ _ _ r h => by simp [serinetteref18_Rune.j5] at h, fun _ _ _ _ _ r h => by simp [serinetteref18_Rune.j6] at h, fun _ _ _ _ _ r h => by simp [serinetteref18_Rune.l0] at h⟩
  | k + 1 => by
    obtain ⟨ih0, ih1, ih2, ih3, ih4, ih5, ih6, ih7⟩ := serinetteref18_Rune.mono_l k
    refine ⟨?_, ?_, ?_, ?_, ?_, ?_, ?_, ?_⟩
    · intro y0 y1 y2 y3 y4 y5
      unfold serinetteref18_Rune.j0
      repeat' first
      | (with_reducible exact ih0 _ _ _ _ _ _)
      | (with_reducible exact ih1 _ _ _ _ _)
      | (with_reducible exact ih2 _ _ _ _ _ _)
      | (with_reducible exact ih3 _ _ _ _ _)
      | (with_reducible exact ih4 _ _ _ _ _ _)
      | (with_reducible exact ih5 _ _ _ _)
      | (with_reducible exact ih6 _ _ _ _ _)
      | (with_reducible exact ih7 _ _ _ _ _)
      | (with_reducible exact LeO.refl _)
      | (with_reducible exact LeO.none _)
      | (with_reducible refine LeO.ite ?_ ?_)
      | (with_reducible refine LeO.bind ?_ (fun _ => ?_))
      | exact ih0 _ _ _ _ _ _
      | exact ih1 _ _ _ _ _
      | exact ih2 _ _ _ _ _ _
      | exact ih3 _ _ _ _ _
      | exact ih4 _ _ _ _ _ _
      | exact ih5 _ _ _ _
      | exact ih6 _ _ _ _ _
      | exact ih7 _ _ _ _ _
      | exact LeO.none _
      | refine LeO.ite ?_ ?_
      | refine LeO.bind ?_ (fun _ => ?_)
    · intro y0 y1 y2 y3 y4
      unfold serinetteref18_Rune.j1
      repeat' first
      | (with_reducible exact ih0 _ _ _ _ _ _)
      | (with_reducible exact ih1 _ _ _ _ _)
      | (with_reducible exact ih2 _ _ _ _ _ _)
      | (with_reducible exact ih3 _ _ _ _ _)
      | (with_reducible exact ih4 _ _ _ _ _ _)
      | (with_reducible exact ih5 _ _ _ _)
      | (with_reducible exact ih6 _ _ _ _ _)
      | (with_reducible exact ih7 _ _ _ _ _)
      | (with_reducible exact LeO.refl _)
      | (with_reducible exact LeO.none _)
      | (with_reducible refine LeO.ite ?_ ?_)
      | (with_reducible refine LeO.bind ?_ (fun _ => ?_))
      | exact ih0 _ _ _ _ _ _
      | exact ih1 _ _ _ _ _
      | exact ih2 _ _ _ _ _ _
      | exact ih3 _ _ _ _ _
      | exact ih4 _ _ _ _ _ _
      | exact ih5 _ _ _ _
      | exact ih6 _ _ _ _ _
      | exact ih7 _ _ _ _ _
      | exact LeO.none _
      | refine LeO.ite ?_ ?_
      | refine LeO.bind ?_ (fun _ => ?_)
    · intro y0 y1 y2 y3 y4 y5
      unfold serinetteref18_Rune.j2
      repeat' first
      | (with_reducible exact ih0 _ _ _ _ _ _)
      | (with_reducible exact ih1 _ _ _ _ _)
      | (with_reducible exact ih2 _ _ _ _ _ _)
      | (with_reducible exact ih3 _ _ _ _ _)
      | (with_reducible exact ih4 _ _ _ _ _ _)
      | (with_reducible exact ih5 _ _ _ _)
      | (with_reducible exact ih6 _ _ _ _ _)
      | (with_reducible exact ih7 _ _ _ _ _)
      | (with_reducible exact LeO.refl _)
      | (with_reducible exact LeO.none _)
      | (with_reducible refine LeO.ite ?_ ?_)
      | (with_reducible refine LeO.bind ?_ (fun _ => ?_))
      | exact ih0 _ _ _ _ _ _
      | exact ih1 _ _ _ _ _
      | exact ih2 _ _ _ _ _ _
      | exact ih3 _ _ _ _ _
      | exact ih4 _ _ _ _ _ _
      | exact ih5 _ _ _ _
      | exact ih6 _ _ _ _ _
      | exact ih7 _ _ _ _ _
      | exact LeO.none _
      | refine LeO.ite ?_ ?_
      | refine LeO.bind ?_ (fun _ => ?_)
    · intro y0 y1 y2 y3 y4
      unfold serinetteref18_Rune.j3
      repeat' first
      | (with_reducible exact ih0 _ _ _ _ _ _)
      | (with_reducible exact ih1 _ _ _ _ _)
      | (with_reducible exact ih2 _ _ _ _ _ _)
      | (with_reducible exact ih3 _ _ _ _ _)
      | (with_reducible exact ih4 _ _ _ _ _ _)
      | (with_reducible exact ih5 _ _ _ _)
      | (with_reducible exact ih6 _ _ _ _ _)
      | (with_reducible exact ih7 _ _ _ _ _)
      | (with_reducible exact LeO.refl _)
      | (with_reducible exact LeO.none _)
      | (with_reducible refine LeO.ite ?_ ?_)
      | (with_reducible refine LeO.bind ?_ (fun _ => ?_))
      | exact ih0 _ _ _ _ _ _
      | exact ih1 _ _ _ _ _
      | exact ih2 _ _ _ _ _ _
      | exact ih3 _ _ _ _ _
      | exact ih4 _ _ _ _ _ _
      | exact ih5 _ _ _ _
      | exact ih6 _ _ _ _ _
      | exact ih7 _ _ _ _ _
      | exact LeO.none _
      | refine LeO.ite ?_ ?_
      | refine LeO.bind ?_ (fun _ => ?_)
    · intro y0 y1 y2 y3 y4 y5
      unfold serinetteref18_Rune.j4
      repeat' first
      | (with_reducible exact ih0 _ _ _ _ _ _)
      | (with_reducible exact ih1 _ _ _ _ _)
      | (with_reducible exact ih2 _ _ _ _ _ _)
      | (with_reducible exact ih3 _ _ _ _ _)
      | (with_reducible exact ih4 _ _ _ _ _ _)
      | (with_reducible exact ih5 _ _ _ _)
      | (with_reducible exact ih6 _ _ _ _ _)
      | (with_reducible exact ih7 _ _ _ _ _)
      | (with_reducible exact LeO.refl _)
      | (with_reducible exact LeO.none _)
      | (with_reducible refine LeO.ite ?_ ?_)
      | (with_reducible refine LeO.bind ?_ (fun _ => ?_))
      | exact ih0 _ _ _ _ _ _
      | exact ih1 _ _ _ _ _
      | exact ih2 _ _ _ _ _ _
      | exact ih3 _ _ _ _ _
      | exact ih4 _ _ _ _ _ _
      | exact ih5 _ _ _ _
      | exact ih6 _ _ _ _ _
      | exact ih7 _ _ _ _ _
      | exact LeO.none _
      | refine LeO.ite ?_ ?_
      | refine LeO.bind ?_ (fun _ => ?_)
    · intro y0 y1 y2 y3
      unfold serinetteref18_Rune.j5
      repeat' first
      | (with_reducible exact ih0 _ _ _ _ _ _)
      | (with_reducible exact ih1 _ _ _ _ _)
      | (with_reducible exact ih2 _ _ _ _ _ _)
      | (with_reducible exact ih3 _ _ _ _ _)
      | (with_reducible exact ih4 _ _ _ _ _ _)
      | (with_reducible exact ih5 _ _ _ _)
      | (with_reducible exact ih6 _ _ _ _ _)
      | (with_reducible exact ih7 _ _ _ _ _)
      | (with_reducible exact LeO.refl _)
      | (with_reducible exact LeO.none _)
      | (with_reducible refine LeO.ite ?_ ?_)
      | (with_reducible refine LeO.bind ?_ (fun _ => ?_))
      | exact ih0 _ _ _ _ _ _
      | exact ih1 _ _ _ _ _
      | exact ih2 _ _ _ _ _ _
      | exact ih3 _ _ _ _ _
      | exact ih4 _ _ _ _ _ _
      | exact ih5 _ _ _ _
      | exact ih6 _ _ _ _ _
      | exact ih7 _ _ _ _ _
      | exact LeO.none _
      | refine LeO.ite ?_ ?_
      | refine LeO.bind ?_ (fun _ => ?_)
    · intro y0 y1 y2 y3 y4
      unfold serinetteref18_Rune.j6
      repeat' first
      | (with_reducible exact ih0 _ _ _ _ _ _)
      | (with_reducible exact ih1 _ _ _ _ _)
      | (with_reducible exact ih2 _ _ _ _ _ _)
      | (with_reducible exact ih3 _ _ _ _ _)
      | (with_reducible exact ih4 _ _ _ _ _ _)
      | (with_reducible exact ih5 _ _ _ _)
      | (with_reducible exact ih6 _ _ _ _ _)
      | (with_reducible exact ih7 _ _ _ _ _)
      | (with_reducible exact LeO.refl _)
      | (with_reducible exact LeO.none _)
      | (with_reducible refine LeO.ite ?_ ?_)
      | (with_reducible refine LeO.bind ?_ (fun _ => ?_))
      | exact ih0 _ _ _ _ _ _
      | exact ih1 _ _ _ _ _
      | exact ih2 _ _ _ _ _ _
      | exact ih3 _ _ _ _ _
      | exact ih4 _ _ _ _ _ _
      | exact ih5 _ _ _ _
      | exact ih6 _ _ _ _ _
      | exact ih7 _ _ _ _ _
      | exact LeO.none _
      | refine LeO.ite ?_ ?_
      | refine LeO.bind ?_ (fun _ => ?_)
    · intro y0 y1 y2 y3 y4
      unfold serinetteref18_Rune.l0
      repeat' first
      | (with_reducible exact ih0 _ _ _ _ _ _)
      | (with_reducible exact ih1 _ _ _ _ _)
      | (with_reducible exact ih2 _ _ _ _ _ _)
      | (with_reducible exact ih3 _ _ _ _ _)
      | (with_reducible exact ih4 _ _ _ _ _ _)
      | (with_reducible exact ih5 _ _ _ _)
      | (with_reducible exact ih6 _ _ _ _ _)
      | (with_reducible exact ih7 _ _ _ _ _)
      | (with_reducible exact LeO.refl _)
      | (with_reducible exact LeO.none _)
      | (with_reducible refine LeO.ite ?_ ?_)
      | (with_reducible refine LeO.bind ?_ (fun _ => ?_))
      | exact ih0 _ _ _ _ _ _
      | exact ih1 _ _ _ _ _
      | exact ih2 _ _ _ _ _ _
      | exact ih3 _ _ _ _ _
      | exact ih4 _ _ _ _ _ _
      | exact ih5 _ _ _ _
      | exact ih6 _ _ _ _ _
      | exact ih7 _ _ _ _ _
      | exact LeO.none _
      | refine LeO.ite ?_ ?_
      | refine LeO.bind ?_ (fun _ => ?_)
theorem serinetteref18_Rune.mono : ∀ a0 k, LeO (serinetteref18_Rune.f k a0) (serinetteref18_Rune.f (k + 1) a0) := by
  intro a0 k
  obtain ⟨ih0, ih1, ih2, ih3, ih4, ih5, ih6, ih7⟩ := serinetteref18_Rune.mono_l k
  unfold serinetteref18_Rune.f
  repeat' first
      | (with_reducible exact ih0 _ _ _ _ _ _)
      | (with_reducible exact ih1 _ _ _ _ _)
      | (with_reducible exact ih2 _ _ _ _ _ _)
      | (with_reducible exact ih3 _ _ _ _ _)
      | (with_reducible exact ih4 _ _ _ _ _ _)
      | (with_reducible exact ih5 _ _ _ _)
      | (with_reducible exact ih6 _ _ _ _ _)
      | (with_reducible exact ih7 _ _ _ _ _)
      | (with_reducible exact LeO.refl _)
      | (with_reducible exact LeO.none _)
      | (with_reducible refine LeO.ite ?_ ?_)
      | (with_reducible refine LeO.bind ?_ (fun _ => ?_))
      | exact ih0 _ _ _ _ _ _
      | exact ih1 _ _ _ _ _
      | exact ih2 _ _ _ _ _ _
      | exact ih3 _ _ _ _ _
      | exact ih4 _ _ _ _ _ _
      | exact ih5 _ _ _ _
      | exact ih6 _ _ _ _ _
      | exact ih7 _ _ _ _ _
      | exact LeO.none _
      | refine LeO.ite ?_ ?_
      | refine LeO.bind ?_ (fun _ => ?_)
set_option maxHeartbeats 8000000 in
set_option maxRecDepth 100000 in
theorem serinetteref18_Rune.calls (k : Nat) (A0 : Option Addr) (c0 : Nat) (l0 : List Int) (r1 : Int) (r2 : Int) (w : World) (hr0 : Kd.C (Kd.int .u8) w A0 l0.length l0) (hc0 : l0.length ≤ c0) (h : serinetteref18_Rune.f k l0 = some (r1, r2)) :
    Calls Try.prog 67 #[.slice A0 l0.length c0] w fun e w' => e = .returned (.tuple #[.int .i64 r1, .int .i64 r2]) ∧ Drawn0 w w' := by
  have HR0 := Aside0.mk hr0
  have HC0 := Aside0.mk hc0
  clear hr0 hc0
  have H : (if (l0.length : Int) = 0 then (some (0, 0)) else (if 0 < (l0.length : Int) then (if (wrap64 (rd l0 0)) < 128 then (some (wrap64 (rd l0 0), 1)) else (if (wrap64 (rd l0 0)) ≥ 194 then (serinetteref18_Rune.j0 k l0 (wrap64 (rd l0 0)) 0 0 0 (decide ((wrap64 (rd l0 0)) ≤ 223))) else (serinetteref18_Rune.j0 k l0 (wrap64 (rd l0 0)) 0 0 0 false))) else (none))) = some (r1, r2) := h
  clear h
  by_cases c2 : (l0.length : Int) = 0
  · rw [if_pos c2] at H
    have c2b0 : ((l0.length : Int) == 0) = true := beq_iff_eq.mpr c2
    have c2b1 : ((l0.length : Int) != 0) = false := bne_eq_false_iff_eq.mpr c2
    clear c2
    simp only [Option.some.injEq, Prod.mk.injEq] at H
    obtain ⟨rfl, rfl⟩ := H
    go_enter Try.func67, Try.ntmps67
    go_wp2
    go_ret2
    exact ⟨by first | rfl | (simp; done) | (simp [*]; done), by repeat (first | exact Drawn0.refl _ | apply Drawn0.step)⟩
  · rw [if_neg c2] at H
    have c2b0 : ((l0.length : Int) == 0) = false := beq_eq_false_iff_ne.mpr c2
    have c2b1 : ((l0.length : Int) != 0) = true := bne_iff_ne.mpr c2
    have c2b2 : ¬ (l0 = []) := fun h_ => c2 (by rw [h_]; rfl)
    by_cases c3 : 0 < (l0.length : Int)
    · rw [if_pos c3] at H
      have c3b0 : decide (0 < (l0.length : Int)) = true := decide_eq_true c3
      have c3b1 : decide (0 < l0.length) = true := decide_eq_true (by omega)
      clear c3
      by_cases c4 : (wrap64 (rd l0 0)) < 128
      · rw [if_pos c4] at H
        have c4b0 : decide ((wrap64 (rd l0 0)) < 128) = true := decide_eq_true c4
        clear c4
        simp only [Option.some.injEq, Prod.mk.injEq] at H
        obtain ⟨rfl, rfl⟩ := H
        have p154 : 0 ≤ (0 : Int) := (by omega)
        have q154 : 0 < (l0.length : Int) := of_decide_eq_true (by first | (with_reducible assumption) | assumption)
        obtain ⟨ad154, e154, hx154_0⟩ := Kd.at_int HR0.out 0 p154 q154
        cases e154
        have qi154 : (0 < l0.length) = True := eq_true (by omega)
        (try rw [show ((0 : Int)).toNat = 0 from rfl] at hx154_0)
        (try rw [Addr.add_zero'] at hx154_0)
        replace p154 := eq_true p154
        replace q154 := eq_true q154
        go_enter Try.func67, Try.ntmps67
        go_wp2
        go_ret2
        exact ⟨by first | rfl | (simp; done) | (simp [*]; done), by repeat (first | exact Drawn0.refl _ | apply Drawn0.step)⟩
      · rw [if_neg c4] at H
        have c4b0 : decide ((wrap64 (rd l0 0)) < 128) = false := decide_eq_false c4
        clear c4
        have HC5 := Aside0.mk H
        clear H
        have p154 : 0 ≤ (0 : Int) := (by omega)
        have q154 : 0 < (l0.length : Int) := of_decide_eq_true (by first | (with_reducible assumption) | assumption)
        obtain ⟨ad154, e154, hx154_0⟩ := Kd.at_int HR0.out 0 p154 q154
        cases e154
        have qi154 : (0 < l0.length) = True := eq_true (by omega)
        (try rw [show ((0 : Int)).toNat = 0 from rfl] at hx154_0)
        (try rw [Addr.add_zero'] at hx154_0)
        replace p154 := eq_true p154
        replace q154 := eq_true q154
        go_enter Try.func67, Try.ntmps67
        go_upto_region 9 with (fail)
        go_cut [24] (fun v24 wc => ∃ (kq : Nat) (x24_4 : Bool), v24 = .bool x24_4 ∧ Aside0 (serinetteref18_Rune.j0 kq l0 (wrap64 (rd l0 0)) 0 0 0 x24_4 = some (r1, r2)) ∧ Aside0 (kq ≤ k) ∧ Drawn0 w wc)
        case first =>
          have H := HC5.out
          clear HC5
          by_cases c6 : (wrap64 (rd l0 0)) ≥ 194
          · rw [if_pos c6] at H
            have c6b0 : decide (194 ≤ (wrap64 (rd l0 0))) = true := decide_eq_true c6
            clear c6
            (first | rw [c6b0] | (simp only [i64_w, i32_w]; rw [c6b0]) | skip)
            have H' := Aside0.mk H
            clear H
            go_wp2
            go_meet
            case rel => exact ⟨_, (decide ((wrap64 (rd l0 0)) ≤ 223)), (by first | rfl | (simp; done) | (simp [*]; done)), H', ⟨by first | omega | exact Nat.le_refl _⟩, by repeat (first | exact Drawn0.refl _ | apply Drawn0.step)⟩
          · rw [if_neg c6] at H
            have c6b0 : decide (194 ≤ (wrap64 (rd l0 0))) = false := decide_eq_false c6
            clear c6
            (first | rw [c6b0] | (simp only [i64_w, i32_w]; rw [c6b0]) | skip)
            have H' := Aside0.mk H
            clear H
            go_wp2
            go_meet
            case rel => exact ⟨_, (false), (by first | rfl | (simp; done) | (simp [*]; done)), H', ⟨by first | omega | exact Nat.le_refl _⟩, by repeat (first | exact Drawn0.refl _ | apply Drawn0.step)⟩
        case rest =>
          clear HC5
          try clear p1
          try clear q1
          try clear hx1
          try clear qi1
          try clear c2
          try clear c2b0
          try clear c2b1
          try clear c2b2
          try clear p2
          try clear c3
          try clear c3b0
          try clear c3b1
          try clear c4
          try clear c4b0
          try clear c6
          try clear c6b0
          try clear p6
          try clear hx154_0
          try clear p154
          try clear q154
          obtain ⟨kq, x24_4, rfl, HA, HJ4, ⟨mc4, rfl⟩⟩ := hcut
          cases kq with
          | zero => exact absurd HA.out (by simp [serinetteref18_Rune.j0])
          | succ kj4 =>
            have H := HA.out
            clear HA
            simp only [serinetteref18_Rune.j0] at H
            have HC7 := Aside0.mk H
            clear H
            go_upto_if 24 with (fail)
            go_cut [5, 6, 7] (fun v5 v6 v7 wc => ∃ (kq : Nat) (x5_6 : Int) (x6_6 : Int) (x7_6 : Int), v5 = .int .i64 x5_6 ∧ v6 = .int .i64 x6_6 ∧ v7 = .int .i64 x7_6 ∧ Aside0 (serinetteref18_Rune.j1 kq l0 (wrap64 (rd l0 0)) x5_6 x6_6 x7_6 = some (r1, r2)) ∧ Aside0 (kq ≤ kj4) ∧ Drawn0 w wc)
            case first =>
              have H := HC7.out
              clear HC7
              by_cases c8 : x24_4 = true
              · subst c8
                have H1 : (serinetteref18_Rune.j1 kj4 l0 (wrap64 (rd l0 0)) 2 (wrap64 ((wrap64 (rd l0 0)) - 192)) 128) = some (r1, r2) := by rw [if_pos rfl] at H; exact H
                clear H
                have H := H1
                clear H1
                have H' := Aside0.mk H
                clear H
                go_wp2
                go_meet
                case rel => exact ⟨_, (2), (wrap64 ((wrap64 (rd l0 0)) - 192)), (128), (by first | rfl | (simp; done) | (simp [*]; done)), (by first | rfl | (simp; done) | (simp [*]; done)), (by first | rfl | (simp; done) | (simp [*]; done)), H', ⟨by have := HJ4.out; first | omega | exact Nat.le_refl _⟩, by repeat (first | exact Drawn0.refl _ | apply Drawn0.step)⟩
              · replace c8 := Bool.eq_false_iff.mpr c8
                subst c8
                have H1 : (serinetteref18_Rune.j1 kj4 l0 (wrap64 (rd l0 0)) 0 0 0) = some (r1, r2) := by rw [if_neg (show ¬ (false = true) by decide)] at H; exact H
                clear H
                have H := H1
                clear H1
                have H' := Aside0.mk H
                clear H
                go_wp2
                go_meet
                case rel => exact ⟨_, (0), (0), (0), (by first | rfl | (simp; done) | (simp [*]; done)), (by first | rfl | (simp; done) | (simp [*]; done)), (by first | rfl | (simp; done) | (simp [*]; done)), H', ⟨by have := HJ4.out; first | omega | exact Nat.le_refl _⟩, by repeat (first | exact Drawn0.refl _ | apply Drawn0.step)⟩
            case rest =>
              clear HC7
              try clear p1
              try clear q1
              try clear hx1
              try clear qi1
              try clear c2
              try clear c2b0
              try clear c2b1
              try clear c2b2
              try clear p2
              try clear c3
              try clear c3b0
              try clear c3b1
              try clear c4
              try clear c4b0
              try clear c6
              try clear c6b0
              try clear p6
              try clear c8
              try clear hx154_0
              try clear p1
              try clear p154
              try clear p2
              try clear p6
              try clear q1
              try clear q154
              obtain ⟨kq, x5_6, x6_6, x7_6, rfl, rfl, rfl, HA, HJ6, ⟨mc6, rfl⟩⟩ := hcut
              cases kq with
              | zero => exact absurd HA.out (by simp [serinetteref18_Rune.j1])
              | succ kj6 =>
                have H := HA.out
                clear HA
                simp only [serinetteref18_Rune.j1] at H
                have HC9 := Aside0.mk H
                clear H
                go_upto_region 13 with (fail)
                go_cut [32] (fun v32 wc => ∃ (kq : Nat) (x32_8 : Bool), v32 = .bool x32_8 ∧ Aside0 (serinetteref18_Rune.j2 kq l0 (wrap64 (rd l0 0)) x5_6 x6_6 x7_6 x32_8 = some (r1, r2)) ∧ Aside0 (kq ≤ kj6) ∧ Drawn0 w wc)
                case first =>
                  have H := HC9.out
                  clear HC9
                  by_cases c10 : (wrap64 (rd l0 0)) ≥ 224
                  · rw [if_pos c10] at H
                    have c10b0 : decide (224 ≤ (wrap64 (rd l0 0))) = true := decide_eq_true c10
                    clear c10
                    (first | rw [c10b0] | (simp only [i64_w, i32_w]; rw [c10b0]) | skip)
                    have H' := Aside0.mk H
                    clear H
                    go_wp2
                    go_meet
                    case rel => exact ⟨_, (decide ((wrap64 (rd l0 0)) ≤ 239)), (by first | rfl | (simp; done) | (simp [*]; done)), H', ⟨by have := HJ4.out; have := HJ6.out; first | omega | exact Nat.le_refl _⟩, by repeat (first | exact Drawn0.refl _ | apply Drawn0.step)⟩
                  · rw [if_neg c10] at H
                    have c10b0 : decide (224 ≤ (wrap64 (rd l0 0))) = false := decide_eq_false c10
                    clear c10
                    (first | rw [c10b0] | (simp only [i64_w, i32_w]; rw [c10b0]) | skip)
                    have H' := Aside0.mk H
                    clear H
                    go_wp2
                    go_meet
                    case rel => exact ⟨_, (false), (by first | rfl | (simp; done) | (simp [*]; done)), H', ⟨by have := HJ4.out; have := HJ6.out; first | omega | exact Nat.le_refl _⟩, by repeat (first | exact Drawn0.refl _ | apply Drawn0.step)⟩
                case rest =>
                  clear HC9
                  try clear c1
                  try clear p1
                  try clear q1
                  try clear hx1
                  try clear qi1
                  try clear c2
                  try clear c2b0
                  try clear c2b1
                  try clear c2b2
                  try clear p2
                  try clear c3
                  try clear c3b0
                  try clear c3b1
                  try clear c4
                  try clear c4b0
                  try clear c6
                  try clear c6b0
                  try clear p6
                  try clear c8
                  try clear c10
                  try clear c10b0
                  try clear hx154_0
                  try clear p1
                  try clear p154
                  try clear p2
                  try clear p6
                  try clear q1
                  try clear q154
                  obtain ⟨kq, x32_8, rfl, HA, HJ8, ⟨mc8, rfl⟩⟩ := hcut
                  cases kq with
                  | zero => exact absurd HA.out (by simp [serinetteref18_Rune.j2])
                  | succ kj8 =>
                    have H := HA.out
                    clear HA
                    simp only [serinetteref18_Rune.j2] at H
                    have HC11 := Aside0.mk H
                    clear H
                    go_upto_if 32 with (fail)
                    go_cut [5, 6, 7] (fun v5 v6 v7 wc => ∃ (kq : Nat) (x5_10 : Int) (x6_10 : Int) (x7_10 : Int), v5 = .int .i64 x5_10 ∧ v6 = .int .i64 x6_10 ∧ v7 = .int .i64 x7_10 ∧ Aside0 (serinetteref18_Rune.j3 kq l0 (wrap64 (rd l0 0)) x5_10 x6_10 x7_10 = some (r1, r2)) ∧ Aside0 (kq ≤ kj8) ∧ Drawn0 w wc)
                    case first =>
                      have H := HC11.out
                      clear HC11
                      by_cases c12 : x32_8 = true
                      · subst c12
                        have H1 : (serinetteref18_Rune.j3 kj8 l0 (wrap64 (rd l0 0)) 3 (wrap64 ((wrap64 (rd l0 0)) - 224)) 2048) = some (r1, r2) := by rw [if_pos rfl] at H; exact H
                        clear H
                        have H := H1
                        clear H1
                        have H' := Aside0.mk H
                        clear H
                        go_wp2
                        go_meet
                        case rel => exact ⟨_, (3), (wrap64 ((wrap64 (rd l0 0)) - 224)), (2048), (by first | rfl | (simp; done) | (simp [*]; done)), (by first | rfl | (simp; done) | (simp [*]; done)), (by first | rfl | (simp; done) | (simp [*]; done)), H', ⟨by have := HJ4.out; have := HJ6.out; have := HJ8.out; first | omega | exact Nat.le_refl _⟩, by repeat (first | exact Drawn0.refl _ | apply Drawn0.step)⟩
                      · replace c12 := Bool.eq_false_iff.mpr c12
                        subst c12
                        have H1 : (serinetteref18_Rune.j3 kj8 l0 (wrap64 (rd l0 0)) x5_6 x6_6 x7_6) = some (r1, r2) := by rw [if_neg (show ¬ (false = true) by decide)] at H; exact H
                        clear H
                        have H := H1
                        clear H1
                        have H' := Aside0.mk H
                        clear H
                        go_wp2
                        go_meet
                        case rel => exact ⟨_, (x5_6), (x6_6), (x7_6), (by first | rfl | (simp; done) | (simp [*]; done)), (by first | rfl | (simp; done) | (simp [*]; done)), (by first | rfl | (simp; done) | (simp [*]; done)), H', ⟨by have := HJ4.out; have := HJ6.out; have := HJ8.out; first | omega | exact Nat.le_refl _⟩, by repeat (first | exact Drawn0.refl _ | apply Drawn0.step)⟩
                    case rest =>
                      clear HC11
                      try clear c1
                      try clear p1
                      try clear q1
                      try clear hx1
                      try clear qi1
                      try clear c2
                      try clear c2b0
                      try clear c2b1
                      try clear c2b2
                      try clear p2
                      try clear c3
                      try clear c3b0
                      try clear c3b1
                      try clear c4
                      try clear c4b0
                      try clear c6
                      try clear c6b0
                      try clear p6
                      try clear c8
                      try clear c10
                      try clear c10b0
                      try clear c12
                      try clear hx154_0
                      try clear p1
                      try clear p154
                      try clear p2
                      try clear p6
                      try clear q1
                      try clear q154
                      obtain ⟨kq, x5_10, x6_10, x7_10, rfl, rfl, rfl, HA, HJ10, ⟨mc10, rfl⟩⟩ := hcut
                      cases kq with
                      | zero => exact absurd HA.out (by simp [serinetteref18_Rune.j3])
                      | succ kj10 =>
                        have H := HA.out
                        clear HA
                        simp only [serinetteref18_Rune.j3] at H
                        have HC13 := Aside0.mk H
                        clear H
                        go_upto_region 17 with (fail)
                        go_cut [40] (fun v40 wc => ∃ (kq : Nat) (x40_12 : Bool), v40 = .bool x40_12 ∧ Aside0 (serinetteref18_Rune.j4 kq l0 (wrap64 (rd l0 0)) x5_10 x6_10 x7_10 x40_12 = some (r1, r2)) ∧ Aside0 (kq ≤ kj10) ∧ Drawn0 w wc)
                        case first =>
                          have H := HC13.out
                          clear HC13
                          by_cases c14 : (wrap64 (rd l0 0)) ≥ 240
                          · rw [if_pos c14] at H
                            have c14b0 : decide (240 ≤ (wrap64 (rd l0 0))) = true := decide_eq_true c14
                            clear c14
                            (first | rw [c14b0] | (simp only [i64_w, i32_w]; rw [c14b0]) | skip)
                            have H' := Aside0.mk H
                            clear H
                            go_wp2
                            go_meet
                            case rel => exact ⟨_, (decide ((wrap64 (rd l0 0)) ≤ 244)), (by first | rfl | (simp; done) | (simp [*]; done)), H', ⟨by have := HJ4.out; have := HJ6.out; have := HJ8.out; have := HJ10.out; first | omega | exact Nat.le_refl _⟩, by repeat (first | exact Drawn0.refl _ | apply Drawn0.step)⟩
                          · rw [if_neg c14] at H
                            have c14b0 : decide (240 ≤ (wrap64 (rd l0 0))) = false := decide_eq_false c14
                            clear c14
                            (first | rw [c14b0] | (simp only [i64_w, i32_w]; rw [c14b0]) | skip)
                            have H' := Aside0.mk H
                            clear H
                            go_wp2
                            go_meet
                            case rel => exact ⟨_, (false), (by first | rfl | (simp; done) | (simp [*]; done)), H', ⟨by have := HJ4.out; have := HJ6.out; have := HJ8.out; have := HJ10.out; first | omega | exact Nat.le_refl _⟩, by repeat (first | exact Drawn0.refl _ | apply Drawn0.step)⟩
                        case rest =>
                          clear HC13
                          try clear c1
                          try clear p1
                          try clear q1
                          try clear hx1
                          try clear qi1
                          try clear c2
                          try clear c2b0
                          try clear c2b1
                          try clear c2b2
                          try clear p2
                          try clear c3
                          try clear c3b0
                          try clear c3b1
                          try clear c4
                          try clear c4b0
                          try clear c6
                          try clear c6b0
                          try clear p6
                          try clear c8
                          try clear c10
                          try clear c10b0
                          try clear c12
                          try clear c14
                          try clear c14b0
                          try clear hx154_0
                          try clear p1
                          try clear p154
                          try clear p2
                          try clear p6
                          try clear q1
                          try clear q154
                          obtain ⟨kq, x40_12, rfl, HA, HJ12, ⟨mc12, rfl⟩⟩ := hcut
                          cases kq with
                          | zero => exact absurd HA.out (by simp [serinetteref18_Rune.j4])
                          | succ kj12 =>
                            have H := HA.out
                            clear HA
                            simp only [serinetteref18_Rune.j4] at H
                            have HC15 := Aside0.mk H
                            clear H
                            go_upto_if 40 with (fail)
                            go_cut [5, 6, 7] (fun v5 v6 v7 wc => ∃ (kq : Nat) (x5_14 : Int) (x6_14 : Int) (x7_14 : Int), v5 = .int .i64 x5_14 ∧ v6 = .int .i64 x6_14 ∧ v7 = .int .i64 x7_14 ∧ Aside0 (serinetteref18_Rune.j5 kq l0 x5_14 x6_14 x7_14 = some (r1, r2)) ∧ Aside0 (kq ≤ kj12) ∧ Drawn0 w wc)
                            case first =>
                              have H := HC15.out
                              clear HC15
                              by_cases c16 : x40_12 = true
                              · subst c16
                                have H1 : (serinetteref18_Rune.j5 kj12 l0 4 (wrap64 ((wrap64 (rd l0 0)) - 240)) 65536) = some (r1, r2) := by rw [if_pos rfl] at H; exact H
                                clear H
                                have H := H1
                                clear H1
                                have H' := Aside0.mk H
                                clear H
                                go_wp2
                                go_meet
                                case rel => exact ⟨_, (4), (wrap64 ((wrap64 (rd l0 0)) - 240)), (65536), (by first | rfl | (simp; done) | (simp [*]; done)), (by first | rfl | (simp; done) | (simp [*]; done)), (by first | rfl | (simp; done) | (simp [*]; done)), H', ⟨by have := HJ4.out; have := HJ6.out; have := HJ8.out; have := HJ10.out; have := HJ12.out; first | omega | exact Nat.le_refl _⟩, by repeat (first | exact Drawn0.refl _ | apply Drawn0.step)⟩
                              · replace c16 := Bool.eq_false_iff.mpr c16
                                subst c16
                                have H1 : (serinetteref18_Rune.j5 kj12 l0 x5_10 x6_10 x7_10) = some (r1, r2) := by rw [if_neg (show ¬ (false = true) by decide)] at H; exact H
                                clear H
                                have H := H1
                                clear H1
                                have H' := Aside0.mk H
                                clear H
                                go_wp2
                                go_meet
                                case rel => exact ⟨_, (x5_10), (x6_10), (x7_10), (by first | rfl | (simp; done) | (simp [*]; done)), (by first | rfl | (simp; done) | (simp [*]; done)), (by first | rfl | (simp; done) | (simp [*]; done)), H', ⟨by have := HJ4.out; have := HJ6.out; have := HJ8.out; have := HJ10.out; have := HJ12.out; first | omega | exact Nat.le_refl _⟩, by repeat (first | exact Drawn0.refl _ | apply Drawn0.step)⟩
                            case rest =>
                              clear HC15
                              try clear c1
                              try clear p1
                              try clear q1
                              try clear hx1
                              try clear qi1
                              try clear c2
                              try clear c2b0
                              try clear c2b1
                              try clear c2b2
                              try clear p2
                              try clear c3
                              try clear c3b0
                              try clear c3b1
                              try clear c4
                              try clear c4b0
                              try clear c6
                              try clear c6b0
                              try clear p6
                              try clear c8
                              try clear c10
                              try clear c10b0
                              try clear c12
                              try clear c14
                              try clear c14b0
                              try clear p15
                              try clear q15
                              try clear hx15
                              try clear qi15
                              try clear c16
                              try clear hx154_0
                              try clear p1
                              try clear p154
                              try clear p2
                              try clear p6
                              try clear q1
                              try clear q154
                              obtain ⟨kq, x5_14, x6_14, x7_14, rfl, rfl, rfl, HA, HJ14, ⟨mc14, rfl⟩⟩ := hcut
                              cases kq with
                              | zero => exact absurd HA.out (by simp [serinetteref18_Rune.j5])
                              | succ kj14 =>
                                have H := HA.out
                                clear HA
                                simp only [serinetteref18_Rune.j5] at H
                                have HC17 := Aside0.mk H
                                clear H
                                go_upto_region 21 with (fail)
                                go_cut [50] (fun v50 wc => ∃ (kq : Nat) (x50_16 : Bool), v50 = .bool x50_16 ∧ Aside0 (serinetteref18_Rune.j6 kq l0 x5_14 x6_14 x7_14 x50_16 = some (r1, r2)) ∧ Aside0 (kq ≤ kj14) ∧ Drawn0 w wc)
                                case first =>
                                  have H := HC17.out
                                  clear HC17
                                  by_cases c18 : x5_14 = 0
                                  · rw [if_pos c18] at H
                                    have c18b0 : (x5_14 == 0) = true := beq_iff_eq.mpr c18
                                    have c18b1 : (x5_14 != 0) = false := bne_eq_false_iff_eq.mpr c18
                                    clear c18
                                    (first | rw [c18b0] | (simp only [i64_w, i32_w]; rw [c18b0]) | skip)
                                    have H' := Aside0.mk H
                                    clear H
                                    go_wp2
                                    go_meet
                                    case rel => exact ⟨_, (true), (by first | rfl | (simp; done) | (simp [*]; done)), H', ⟨by have := HJ4.out; have := HJ6.out; have := HJ8.out; have := HJ10.out; have := HJ12.out; have := HJ14.out; first | omega | exact Nat.le_refl _⟩, by repeat (first | exact Drawn0.refl _ | apply Drawn0.step)⟩
                                  · rw [if_neg c18] at H
                                    have c18b0 : (x5_14 == 0) = false := beq_eq_false_iff_ne.mpr c18
                                    have c18b1 : (x5_14 != 0) = true := bne_iff_ne.mpr c18
                                    (first | rw [c18b0] | (simp only [i64_w, i32_w]; rw [c18b0]) | skip)
                                    have H' := Aside0.mk H
                                    clear H
                                    go_wp2
                                    go_meet
                                    case rel => exact ⟨_, (decide ((l0.length : Int) < x5_14)), (by first | rfl | (simp; done) | (simp [*]; done)), H', ⟨by have := HJ4.out; have := HJ6.out; have := HJ8.out; have := HJ10.out; have := HJ12.out; have := HJ14.out; first | omega | exact Nat.le_refl _⟩, by repeat (first | exact Drawn0.refl _ | apply Drawn0.step)⟩
                                case rest =>
                                  clear HC17
                                  try clear c1
                                  try clear p1
                                  try clear q1
                                  try clear hx1
                                  try clear qi1
                                  try clear c2
                                  try clear c2b0
                                  try clear c2b1
                                  try clear c2b2
                                  try clear p2
                                  try clear c3
                                  try clear c3b0
                                  try clear c3b1
                                  try clear c4
                                  try clear c4b0
                                  try clear c6
                                  try clear c6b0
                                  try clear p6
                                  try clear c8
                                  try clear c10
                                  try clear c10b0
                                  try clear c12
                                  try clear c14
                                  try clear c14b0
                                  try clear p15
                                  try clear q15
                                  try clear hx15
                                  try clear qi15
                                  try clear c16
                                  try clear c18
                                  try clear c18b0
                                  try clear c18b1
                                  try clear hx154_0
                                  try clear p1
                                  try clear p15
                                  try clear p154
                                  try clear p2
                                  try clear p6
                                  try clear q1
                                  try clear q15
                                  try clear q154
                                  obtain ⟨kq, x50_16, rfl, HA, HJ16, ⟨mc16, rfl⟩⟩ := hcut
                                  cases kq with
                                  | zero => exact absurd HA.out (by simp [serinetteref18_Rune.j6])
                                  | succ kj16 =>
                                    have H := HA.out
                                    clear HA
                                    simp only [serinetteref18_Rune.j6] at H
                                    by_cases c19 : x50_16 = true
                                    · subst c19
                                      have H1 : (some (0, 0)) = some (r1, r2) := by rw [if_pos rfl] at H; exact H
                                      clear H
                                      have H := H1
                                      clear H1
                                      simp only [Option.some.injEq, Prod.mk.injEq] at H
                                      obtain ⟨rfl, rfl⟩ := H
                                      go_wp2
                                      go_ret2
                                      exact ⟨by first | rfl | (simp; done) | (simp [*]; done), by repeat (first | exact Drawn0.refl _ | apply Drawn0.step)⟩
                                    · replace c19 := Bool.eq_false_iff.mpr c19
                                      subst c19
                                      have H1 : (serinetteref18_Rune.l0 kj16 l0 x5_14 x6_14 x7_14 1) = some (r1, r2) := by rw [if_neg (show ¬ (false = true) by decide)] at H; exact H
                                      clear H
                                      have H := H1
                                      clear H1
                                      have H' := Aside0.mk H
                                      clear H
                                      go_wp2
                                      go_loopg [6, 8] kj16 (fun kq v6 v8 w' => ∃ (x6_8 : Int) (x8_8 : Int), v6 = .int .i64 x6_8 ∧ v8 = .int .i64 x8_8 ∧ Aside0 (serinetteref18_Rune.l0 kq l0 x5_14 x6_8 x7_14 x8_8 = some (r1, r2)) ∧ Aside0 (kq ≤ kj16) ∧ Drawn0 w w')
                                      case atStart => exact ⟨(x6_14), (1), (by first | rfl | (simp; done) | (simp [*]; done)), (by first | rfl | (simp; done) | (simp [*]; done)), H', ⟨Nat.le_refl _⟩, by repeat (first | exact Drawn0.refl _ | apply Drawn0.step)⟩
                                      case round =>
                                        clear H'
                                        try clear c1
                                        try clear p1
                                        try clear q1
                                        try clear hx1
                                        try clear qi1
                                        try clear c2
                                        try clear c2b0
                                        try clear c2b1
                                        try clear c2b2
                                        try clear p2
                                        try clear c3
                                        try clear c3b0
                                        try clear c3b1
                                        try clear c4
                                        try clear c4b0
                                        try clear c6
                                        try clear c6b0
                                        try clear p6
                                        try clear c8
                                        try clear c10
                                        try clear c10b0
                                        try clear c12
                                        try clear c14
                                        try clear c14b0
                                        try clear p15
                                        try clear q15
                                        try clear hx15
                                        try clear qi15
                                        try clear c16
                                        try clear c18
                                        try clear c18b0
                                        try clear c18b1
                                        try clear c19
                                        try clear hx154_0
                                        try clear p1
                                        try clear p15
                                        try clear p154
                                        try clear p2
                                        try clear p6
                                        try clear q1
                                        try clear q15
                                        try clear q154
                                        obtain ⟨x6_8, x8_8, rfl, rfl, HA, HK8, ⟨m8, rfl⟩⟩ := hrel
                                        cases gk with
                                        | zero => exact absurd HA.out (by simp [serinetteref18_Rune.l0])
                                        | succ k8 =>
                                          have H := HA.out
                                          clear HA
                                          simp only [serinetteref18_Rune.l0] at H
                                          by_cases c20 : x8_8 < x5_14
                                          · rw [if_pos c20] at H
                                            have c20b0 : decide (x8_8 < x5_14) = true := decide_eq_true c20
                                            clear c20
                                            by_cases c21 : 0 ≤ x8_8
                                            · rw [if_pos c21] at H
                                              have c21b0 : decide (0 ≤ x8_8) = true := decide_eq_true c21
                                              clear c21
                                              by_cases c22 : x8_8 < (l0.length : Int)
                                              · rw [if_pos c22] at H
                                                have c22b0 : decide (x8_8 < (l0.length : Int)) = true := decide_eq_true c22
                                                clear c22
                                                by_cases c23 : (rd l0 x8_8) < 128
                                                · rw [if_pos c23] at H
                                                  have c23b0 : decide ((rd l0 x8_8) < 128) = true := decide_eq_true c23
                                                  clear c23
                                                  simp only [Option.some.injEq, Prod.mk.injEq] at H
                                                  obtain ⟨rfl, rfl⟩ := H
                                                  have p155 : 0 ≤ (x8_8 : Int) := of_decide_eq_true (by first | (with_reducible assumption) | assumption)
                                                  have q155 : x8_8 < (l0.length : Int) := of_decide_eq_true (by first | (with_reducible assumption) | assumption)
                                                  obtain ⟨ad155, e155, hx155_0⟩ := Kd.at_int HR0.out x8_8 p155 q155
                                                  obtain rfl : ad154 = ad155 := (by injection e155)
                                                  replace p155 := eq_true p155
                                                  replace q155 := eq_true q155
                                                  go_wp2
                                                  go_ret2
                                                  exact ⟨by first | rfl | (simp; done) | (simp [*]; done), by repeat (first | exact Drawn0.refl _ | apply Drawn0.step)⟩
                                                · rw [if_neg c23] at H
                                                  have c23b0 : decide ((rd l0 x8_8) < 128) = false := decide_eq_false c23
                                                  clear c23
                                                  by_cases c24 : (rd l0 x8_8) > 191
                                                  · rw [if_pos c24] at H
                                                    have c24b0 : decide (191 < (rd l0 x8_8)) = true := decide_eq_true c24
                                                    clear c24
                                                    simp only [Option.some.injEq, Prod.mk.injEq] at H
                                                    obtain ⟨rfl, rfl⟩ := H
                                                    have p155 : 0 ≤ (x8_8 : Int) := of_decide_eq_true (by first | (with_reducible assumption) | assumption)
                                                    have q155 : x8_8 < (l0.length : Int) := of_decide_eq_true (by first | (with_reducible assumption) | assumption)
                                                    obtain ⟨ad155, e155, hx155_0⟩ := Kd.at_int HR0.out x8_8 p155 q155
                                                    obtain rfl : ad154 = ad155 := (by injection e155)
                                                    replace p155 := eq_true p155
                                                    replace q155 := eq_true q155
                                                    have p156 : 0 ≤ (x8_8 : Int) := of_decide_eq_true (by first | (with_reducible assumption) | assumption)
                                                    have q156 : x8_8 < (l0.length : Int) := of_decide_eq_true (by first | (with_reducible assumption) | assumption)
                                                    obtain ⟨ad156, e156, hx156_0⟩ := Kd.at_int HR0.out x8_8 p156 q156
                                                    obtain rfl : ad154 = ad156 := (by injection e156)
                                                    replace p156 := eq_true p156
                                                    replace q156 := eq_true q156
                                                    go_wp2
                                                    go_ret2
                                                    exact ⟨by first | rfl | (simp; done) | (simp [*]; done), by repeat (first | exact Drawn0.refl _ | apply Drawn0.step)⟩
                                                  · rw [if_neg c24] at H
                                                    have c24b0 : decide (191 < (rd l0 x8_8)) = false := decide_eq_false c24
                                                    clear c24
                                                    have H' := Aside0.mk H
                                                    clear H
                                                    have p155 : 0 ≤ (x8_8 : Int) := of_decide_eq_true (by first | (with_reducible assumption) | assumption)
                                                    have q155 : x8_8 < (l0.length : Int) := of_decide_eq_true (by first | (with_reducible assumption) | assumption)
                                                    obtain ⟨ad155, e155, hx155_0⟩ := Kd.at_int HR0.out x8_8 p155 q155
                                                    obtain rfl : ad154 = ad155 := (by injection e155)
                                                    replace p155 := eq_true p155
                                                    replace q155 := eq_true q155
                                                    have p156 : 0 ≤ (x8_8 : Int) := of_decide_eq_true (by first | (with_reducible assumption) | assumption)
                                                    have q156 : x8_8 < (l0.length : Int) := of_decide_eq_true (by first | (with_reducible assumption) | assumption)
                                                    obtain ⟨ad156, e156, hx156_0⟩ := Kd.at_int HR0.out x8_8 p156 q156
                                                    obtain rfl : ad154 = ad156 := (by injection e156)
                                                    replace p156 := eq_true p156
                                                    replace q156 := eq_true q156
                                                    have p157 : 0 ≤ (x8_8 : Int) := of_decide_eq_true (by first | (with_reducible assumption) | assumption)
                                                    have q157 : x8_8 < (l0.length : Int) := of_decide_eq_true (by first | (with_reducible assumption) | assumption)
                                                    obtain ⟨ad157, e157, hx157_0⟩ := Kd.at_int HR0.out x8_8 p157 q157
                                                    obtain rfl : ad154 = ad157 := (by injection e157)
                                                    replace p157 := eq_true p157
                                                    replace q157 := eq_true q157
                                                    go_wp2
                                                    go_roundg k8
                                                    case measure => have := HJ4.out; have := HJ6.out; have := HJ8.out; have := HJ10.out; have := HJ12.out; have := HJ14.out; have := HJ16.out; have := HK8.out; omega
                                                    case rel => exact ⟨(wrap64 ((wrap64 ((wrap64 (64 * x6_8)) + (wrap64 (rd l0 x8_8)))) - 128)), (wrap64 (x8_8 + 1)), (by first | rfl | (simp; done) | (simp [*]; done)), (by first | rfl | (simp; done) | (simp [*]; done)), H', ⟨by have := HJ4.out; have := HJ6.out; have := HJ8.out; have := HJ10.out; have := HJ12.out; have := HJ14.out; have := HJ16.out; have := HK8.out; omega⟩, by repeat (first | exact Drawn0.refl _ | apply Drawn0.step)⟩
                                              · rw [if_neg c22] at H
                                                exact absurd H (by simp)
                                            · rw [if_neg c21] at H
                                              exact absurd H (by simp)
                                          · rw [if_neg c20] at H
                                            have c20b0 : decide (x8_8 < x5_14) = false := decide_eq_false c20
                                            clear c20
                                            by_cases c25 : x6_8 < x7_14
                                            · rw [if_pos c25] at H
                                              have c25b0 : decide (x6_8 < x7_14) = true := decide_eq_true c25
                                              clear c25
                                              simp only [Option.some.injEq, Prod.mk.injEq] at H
                                              obtain ⟨rfl, rfl⟩ := H
                                              go_wp2
                                              go_ret2
                                              exact ⟨by first | rfl | (simp; done) | (simp [*]; done), by repeat (first | exact Drawn0.refl _ | apply Drawn0.step)⟩
                                            · rw [if_neg c25] at H
                                              have c25b0 : decide (x6_8 < x7_14) = false := decide_eq_false c25
                                              clear c25
                                              by_cases c26 : x6_8 > 1114111
                                              · rw [if_pos c26] at H
                                                have c26b0 : decide (1114111 < x6_8) = true := decide_eq_true c26
                                                clear c26
                                                simp only [Option.some.injEq, Prod.mk.injEq] at H
                                                obtain ⟨rfl, rfl⟩ := H
                                                go_wp2
                                                go_ret2
                                                exact ⟨by first | rfl | (simp; done) | (simp [*]; done), by repeat (first | exact Drawn0.refl _ | apply Drawn0.step)⟩
                                              · rw [if_neg c26] at H
                                                have c26b0 : decide (1114111 < x6_8) = false := decide_eq_false c26
                                                clear c26
                                                by_cases c27 : x6_8 ≥ 55296
                                                · rw [if_pos c27] at H
                                                  have c27b0 : decide (55296 ≤ x6_8) = true := decide_eq_true c27
                                                  clear c27
                                                  by_cases c28 : x6_8 ≤ 57343
                                                  · rw [if_pos c28] at H
                                                    have c28b0 : decide (x6_8 ≤ 57343) = true := decide_eq_true c28
                                                    clear c28
                                                    simp only [Option.some.injEq, Prod.mk.injEq] at H
                                                    obtain ⟨rfl, rfl⟩ := H
                                                    go_wp2
                                                    go_ret2
                                                    exact ⟨by first | rfl | (simp; done) | (simp [*]; done), by repeat (first | exact Drawn0.refl _ | apply Drawn0.step)⟩
                                                  · rw [if_neg c28] at H
                                                    have c28b0 : decide (x6_8 ≤ 57343) = false := decide_eq_false c28
                                                    clear c28
                                                    simp only [Option.some.injEq, Prod.mk.injEq] at H
                                                    obtain ⟨rfl, rfl⟩ := H
                                                    go_wp2
                                                    go_ret2
                                                    exact ⟨by first | rfl | (simp; done) | (simp [*]; done), by repeat (first | exact Drawn0.refl _ | apply Drawn0.step)⟩
                                                · rw [if_neg c27] at H
                                                  have c27b0 : decide (55296 ≤ x6_8) = false := decide_eq_false c27
                                                  clear c27
                                                  simp only [Option.some.injEq, Prod.mk.injEq] at H
                                                  obtain ⟨rfl, rfl⟩ := H
                                                  go_wp2
                                                  go_ret2
                                                  exact ⟨by first | rfl | (simp; done) | (simp [*]; done), by repeat (first | exact Drawn0.refl _ | apply Drawn0.step)⟩
    · rw [if_neg c3] at H
      exact absurd H (by simp)

end Go.Proofs.Ytpeejdmbnlhjmaa.PMetaWrites
-- written by this session's program wip/reprint.sh (a turned copy of the kit's print): the session's own text
namespace Go.Proofs.Ytpeejdmbnlhjmaa.PMetaWrites
open Go.RowKit Go.Proofs.YtpeejdmbnlhjmaaW.PrintWords Go.Proofs.YtpeejdmbnlhjmaaW.PrintLast Go.Proofs.YtpeejdmbnlhjmaaW.PrintMore Go.Proofs.Ytpeejdmbnlhjmaa.H
attribute [local go_sem] max2_int min2_int max_two min_two max_three min_three max_four min_four   -- for this text's walks alone
set_option linter.unusedVariables false
set_option linter.unusedSimpArgs false

/-! ### serinetteref18_Text: function 23 -/
def serinetteref18_Text.l0 : Nat → List Int → Option (Bool)
  | 0, _ => none
  | k + 1, x3 => if (x3.length : Int) > 0 then ((serinetteref18_Rune.f k x3).bind fun bt161 => (if bt161.2 = 0 then (some false) else (if 0 ≤ bt161.2 then (if bt161.2 ≤ (x3.length : Int) then (serinetteref18_Text.l0 k (x3.drop (bt161.2 : Int).toNat)) else (none)) else (none)))) else (some true)
def serinetteref18_Text.f (k : Nat) (a0 : ByteArray) : Option (Bool) := if a0.size ≤ 9223372036854775807 then (serinetteref18_Text.l0 k (bytesOf a0)) else (none)
theorem serinetteref18_Text.mono_l : ∀ k, (∀ y0, LeO (serinetteref18_Text.l0 k y0) (serinetteref18_Text.l0 (k + 1) y0))
  | 0 => fun _ r h => by simp [serinetteref18_Text.l0] at h
  | k + 1 => by
    have ih0 := serinetteref18_Text.mono_l k
    · intro y0
      unfold serinetteref18_Text.l0
      repeat' first
      | (with_reducible exact ih0 _)
      | (with_reducible exact serinetteref18_Rune.mono _ _)
      | (with_reducible exact LeO.refl _)
      | (with_reducible exact LeO.none _)
      | (with_reducible refine LeO.ite ?_ ?_)
      | (with_reducible refine LeO.bind ?_ (fun _ => ?_))
      | exact ih0 _
      | exact serinetteref18_Rune.mono _ _
      | exact LeO.none _
      | refine LeO.ite ?_ ?_
      | refine LeO.bind ?_ (fun _ => ?_)
theorem serinetteref18_Text.mono : ∀ a0 k, LeO (serinetteref18_Text.f k a0) (serinetteref18_Text.f (k + 1) a0) := by
  intro a0 k
  have ih0 := serinetteref18_Text.mono_l k
  unfold serinetteref18_Text.f
  repeat' first
      | (with_reducible exact ih0 _)
      | (with_reducible exact serinetteref18_Rune.mono _ _)
      | (with_reducible exact LeO.refl _)
      | (with_reducible exact LeO.none _)
      | (with_reducible refine LeO.ite ?_ ?_)
      | (with_reducible refine LeO.bind ?_ (fun _ => ?_))
      | exact ih0 _
      | exact serinetteref18_Rune.mono _ _
      | exact LeO.none _
      | refine LeO.ite ?_ ?_
      | refine LeO.bind ?_ (fun _ => ?_)
set_option maxHeartbeats 8000000 in
set_option maxRecDepth 100000 in
theorem serinetteref18_Text.calls (k : Nat) (a0 : ByteArray) (r : Bool) (w : World) (h : serinetteref18_Text.f k a0 = some r) :
    Calls Try.prog 23 #[.string a0] w fun e w' => e = .returned (.bool r) ∧ Below w.heap.size w w' := by
  have HB := Aside0.mk (Below.refl w.heap.size w)
  have H : (if a0.size ≤ 9223372036854775807 then (serinetteref18_Text.l0 k (bytesOf a0)) else (none)) = some r := h
  clear h
  by_cases c2 : a0.size ≤ 9223372036854775807
  · rw [if_pos c2] at H
    have c2b0 := eq_true c2
    have c2b1 : decide (a0.size ≤ 9223372036854775807) = true := decide_eq_true c2
    try have c2b2 : (9223372036854775807 < a0.size) = False := eq_false (Nat.not_lt.2 c2)
    clear c2
    obtain ⟨y158, hy158⟩ : ∃ y_ : List Int, y_ = (bytesOf a0) := ⟨_, rfl⟩
    replace H : (serinetteref18_Text.l0 k y158) = some r := by first | (rw [hy158]; with_reducible exact H) | (have H2_ := (Option.bind_some _ _).symm.trans H; rw [hy158]; with_reducible exact H2_) | (have H2_ := (Option.bind_some _ _).symm.trans H; with_reducible exact H2_) | with_reducible exact H | (rw [hy158]; exact H) | exact H
    have Ny158 := Aside0.mk hy158
    clear hy158
    have H' := Aside0.mk H
    clear H
    go_enter Try.func23, Try.ntmps23
    go_wp2_with (first | ((with_reducible refine gate_dst (N := 7) rfl ?_); refine V_conv _ 5 rfl (N := 7) rfl 9 22 _ rfl a0 (by first | rfl | (simp; done)) Try.underlying9 Try.underlying22 Try.underlying5 (of_decide_eq_true (by first | (with_reducible assumption) | assumption | (simp; done))) (Below.refl _ _) (Nat.le_refl _) ?_; intro v159 w3 ho4 hb hg_ hnew_; clear hg_ hnew_; (first | rw [← Ny158.out] at ho4 | (simp only [Int.reduceToNat] at ho4; rw [← Ny158.out] at ho4)); have n0_ := Aside0.mk (Kd.V_lower (Kd.V_mono (ok' := fun k_ => True) ho4 (fun k_ hk_ => trivial)) (below_size (by repeat (first | (with_reducible first | exact HB.out | apply below_alloc | apply pw_below_drewN | apply below_drew1) | exact HB.out)))); have n1_ := Aside0.mk (below_step (by repeat (first | (with_reducible first | exact HB.out | apply below_alloc | apply pw_below_drewN | apply below_drew1) | exact HB.out)) hb); clear HB; have HO160 := n0_; have HB := n1_; clear n0_ n1_; clear hb ho4))
    go_loopg [3] k (fun kq v3 w' => ∃ (x3_1 : List Int), Aside0 (serinetteref18_Text.l0 kq x3_1 = some r) ∧ Aside0 (kq ≤ k) ∧ Aside0 (Kd.V (Kd.int .u8) 5 w' w.heap.size (fun _ => True) v3 x3_1) ∧ Aside0 (Below w.heap.size w w'))
    case atStart => exact ⟨(y158), H', ⟨Nat.le_refl _⟩, ⟨by (with_reducible repeat (first | apply Kd.V_alloc | apply Kd.V_drewN | apply Kd.V_drew)); exact HO160.out⟩, ⟨by repeat (first | (with_reducible first | exact HB.out | apply below_alloc | apply pw_below_drewN | apply below_drew1) | exact HB.out)⟩⟩
    case round =>
      clear H'
      try clear c2
      try clear c2b0
      try clear c2b1
      try clear c2b2
      try clear p2
      obtain ⟨x3_1, HA, HK1, HO_3, HB⟩ := hrel
      cases gk with
      | zero => exact absurd HA.out (by simp [serinetteref18_Text.l0])
      | succ k1 =>
        have H := HA.out
        clear HA
        simp only [serinetteref18_Text.l0] at H
        by_cases c5 : (x3_1.length : Int) > 0
        · rw [if_pos c5] at H
          have c5b0 : decide (0 < (x3_1.length : Int)) = true := decide_eq_true c5
          have c5b1 : decide (0 < x3_1.length) = true := decide_eq_true (by omega)
          clear c5
          replace H := Option.bind_eq_some_iff.mp H
          obtain ⟨⟨t161, t162⟩, A60, H⟩ := H
          replace H : (if t162 = 0 then (some false) else (if 0 ≤ t162 then (if t162 ≤ (x3_1.length : Int) then (serinetteref18_Text.l0 k1 (x3_1.drop (t162 : Int).toNat)) else (none)) else (none))) = some r := H
          have A6 := Aside0.mk A60
          clear A60
          by_cases c7 : t162 = 0
          · rw [if_pos c7] at H
            have c7b0 : (t162 == 0) = true := beq_iff_eq.mpr c7
            have c7b1 : (t162 != 0) = false := bne_eq_false_iff_eq.mpr c7
            clear c7
            obtain rfl := Option.some.inj H
            obtain ⟨Ao8, co8, eo8⟩ := Kd.V_slice HO_3.out
            subst eo8
            go_wp2_with (first | ((with_reducible refine gate_callee (f := 67) rfl ?_); refine goesL_ (some 13) rfl rfl Try.func67 (by kernel_rfl) rfl #[.slice Ao8 x3_1.length co8] rfl (by (try simp only [List.map_toArray, List.map_cons, List.map_nil]); first | done | rfl | (simp only [List.length_drop, List.length_take]; rfl)) ?_; (with_reducible refine (serinetteref18_Rune.calls k1 _ _ x3_1 t161 t162 _ ?side1 ?side2 A6.out).mono ?_); (case side1 => repeat (first | exact (Kd.V_reads' HO_3.out).2.2 | (with_reducible refine Kd.C_alloc ?_ _) | (with_reducible refine Kd.C_drewN ?_ _) | (with_reducible refine Kd.C_drew ?_))); (case side2 => exact (Kd.V_reads' HO_3.out).2.1); rintro e w' ⟨rfl, ⟨nd, rfl⟩⟩; refine ⟨_, rfl, ?_⟩))
            go_ret
            exact ⟨by first | rfl | (simp [errW_none, errW_some] <;> rfl) | (simp [*, errW_none, errW_some] <;> rfl), by repeat (first | (with_reducible first | exact HB.out | apply below_alloc | apply pw_below_drewN | apply below_drew1) | exact HB.out)⟩
          · rw [if_neg c7] at H
            have c7b0 : (t162 == 0) = false := beq_eq_false_iff_ne.mpr c7
            have c7b1 : (t162 != 0) = true := bne_iff_ne.mpr c7
            by_cases c9 : 0 ≤ t162
            · rw [if_pos c9] at H
              have c9b0 := eq_true c9
              have c9b1 : decide (0 ≤ t162) = true := decide_eq_true c9
              clear c9
              by_cases c10 : t162 ≤ (x3_1.length : Int)
              · rw [if_pos c10] at H
                have c10b0 := eq_true c10
                have c10b1 : decide (t162 ≤ (x3_1.length : Int)) = true := decide_eq_true c10
                clear c10
                obtain ⟨y163, hy163⟩ : ∃ y_ : List Int, y_ = (x3_1.drop (t162 : Int).toNat) := ⟨_, rfl⟩
                replace H : (serinetteref18_Text.l0 k1 y163) = some r := by first | (rw [hy163]; with_reducible exact H) | (have H2_ := (Option.bind_some _ _).symm.trans H; rw [hy163]; with_reducible exact H2_) | (have H2_ := (Option.bind_some _ _).symm.trans H; with_reducible exact H2_) | with_reducible exact H | (rw [hy163]; exact H) | exact H
                have Ny163 := Aside0.mk hy163
                clear hy163
                have H' := Aside0.mk H
                clear H
                obtain ⟨Ao11, co11, eo11⟩ := Kd.V_slice HO_3.out
                subst eo11
                go_wp2_with (first | ((with_reducible refine gate_callee (f := 67) rfl ?_); refine goesL_ (some 13) rfl rfl Try.func67 (by kernel_rfl) rfl #[.slice Ao11 x3_1.length co11] rfl (by (try simp only [List.map_toArray, List.map_cons, List.map_nil]); first | done | rfl | (simp only [List.length_drop, List.length_take]; rfl)) ?_; (with_reducible refine (serinetteref18_Rune.calls k1 _ _ x3_1 t161 t162 _ ?side1 ?side2 A6.out).mono ?_); (case side1 => repeat (first | exact (Kd.V_reads' HO_3.out).2.2 | (with_reducible refine Kd.C_alloc ?_ _) | (with_reducible refine Kd.C_drewN ?_ _) | (with_reducible refine Kd.C_drew ?_))); (case side2 => exact (Kd.V_reads' HO_3.out).2.1); rintro e w' ⟨rfl, ⟨nd, rfl⟩⟩; refine ⟨_, rfl, ?_⟩; have q12 : (t162 : Int) ≤ ((x3_1.length : Int) : Int) := of_decide_eq_true (by first | (with_reducible assumption) | assumption); obtain ⟨i012, hi012, _, hsz12, _⟩ := info_parts info5; have hroom12 : x3_1.length ≤ co11 := (Kd.V_reads' HO_3.out).2.1; have hC12 : Kd.F (Kd.int .u8) _ _ Ao11 x3_1.length x3_1 := (Kd.V_at (base := w.heap.size) HO_3.out).2.2; have q012 : (0 : Int) ≤ (t162 : Int) := of_decide_eq_true (by first | (with_reducible assumption) | assumption); have hcut12 := cut_from (P := Try.prog) 22 5 .i64 Try.underlying22 hi012 1 hsz12 Ao11 x3_1.length co11 t162 q012 q12; have hr12 := Kd.F_cut (m := (t162 : Int).toNat) (c := co11) hC12 (by omega) hroom12; obtain ⟨A12, hA12⟩ : ∃ A1, A1 = (if co11 = (t162 : Int).toNat then Ao11 else (Ao11 : Option Addr).map (·.add ((t162 : Int).toNat * 1))) := ⟨_, rfl⟩; obtain ⟨c12, hc12⟩ : ∃ c1, c1 = co11 - (t162 : Int).toNat := ⟨_, rfl⟩; have hy12 : y163.length = x3_1.length - (t162 : Int).toNat := (by rw [Ny163.out, List.length_drop] <;> omega); rw [show (x3_1).drop (t162 : Int).toNat = y163 from Ny163.out.symm] at hr12; replace hr12 : Kd.F (Kd.int .u8) _ _ A12 y163.length y163 := (by rw [hA12]; exact hr12); rw [← hy12, ← hA12, ← hc12] at hcut12; have HO167 := Aside0.mk (show Kd.V (Kd.int .u8) 5 _ w.heap.size _ (.slice A12 y163.length c12) y163 from Kd.V_mk (by rw [hy12, hc12]; exact Nat.sub_le_sub_right hroom12 _) hr12); have HC167 := Aside0.mk (show y163.length ≤ c12 from by rw [hy12, hc12]; exact Nat.sub_le_sub_right hroom12 _); clear hr12 hC12 hroom12 hi012 hsz12 hc12; have KY12 := Aside0.mk hy12; have KA12 := Aside0.mk hA12; clear hy12 hA12; replace q12 := eq_true q12))
                go_roundg k1
                case measure => have := HK1.out; omega
                case rel => exact ⟨(y163), H', ⟨by have := HK1.out; omega⟩, ⟨by (with_reducible repeat (first | apply Kd.V_alloc | apply Kd.V_drewN | apply Kd.V_drew)); exact HO167.out⟩, ⟨by repeat (first | (with_reducible first | exact HB.out | apply below_alloc | apply pw_below_drewN | apply below_drew1) | exact HB.out)⟩⟩
              · rw [if_neg c10] at H
                exact absurd H (by simp)
            · rw [if_neg c9] at H
              exact absurd H (by simp)
        · rw [if_neg c5] at H
          have c5b0 : decide (0 < (x3_1.length : Int)) = false := decide_eq_false c5
          have c5b1 : decide (0 < x3_1.length) = false := decide_eq_false (by omega)
          clear c5
          obtain rfl := Option.some.inj H
          obtain ⟨Ao13, co13, eo13⟩ := Kd.V_slice HO_3.out
          subst eo13
          go_wp2
          go_ret
          exact ⟨by first | rfl | (simp [errW_none, errW_some] <;> rfl) | (simp [*, errW_none, errW_some] <;> rfl), by repeat (first | (with_reducible first | exact HB.out | apply below_alloc | apply pw_below_drewN | apply below_drew1) | exact HB.out)⟩
  · rw [if_neg c2] at H
    exact absurd H (by simp)

/-! ### serinetteref18_Field: function 25 -/
def serinetteref18_Field.l0 : Nat → ByteArray → Int → Option (Bool)
  | 0, _, _ => none
  | k + 1, x0, x4 => if x4 < (x0.size : Int) then (if 0 ≤ x4 then (if (bt x0 x4) = 61 then (some (decide (x4 > 0))) else (if (bt x0 x4) < 32 then (some false) else (if (bt x0 x4) > 125 then (some false) else (serinetteref18_Field.l0 k x0 (wrap64 (x4 + 1)))))) else (none)) else (some false)
def serinetteref18_Field.f (k : Nat) (a0 : ByteArray) : Option (Bool) := (serinetteref18_Text.f k a0).bind fun t168 => (if t168 = true then (serinetteref18_Field.l0 k a0 0) else (some false))
theorem serinetteref18_Field.mono_l : ∀ k, (∀ y0 y1, LeO (serinetteref18_Field.l0 k y0 y1) (serinetteref18_Field.l0 (k + 1) y0 y1))
  | 0 => fun _ _ r h => by simp [serinetteref18_Field.l0] at h
  | k + 1 => by
    have ih0 := serinetteref18_Field.mono_l k
    · intro y0 y1
      unfold serinetteref18_Field.l0
      repeat' first
      | (with_reducible exact ih0 _ _)
      | (with_reducible exact serinetteref18_Text.mono _ _)
      | (with_reducible exact LeO.refl _)
      | (with_reducible exact LeO.none _)
      | (with_reducible refine LeO.ite ?_ ?_)
      | (with_reducible refine LeO.bind ?_ (fun _ => ?_))
      | exact ih0 _ _
      | exact serinetteref18_Text.mono _ _
      | exact LeO.none _
      | refine LeO.ite ?_ ?_
      | refine LeO.bind ?_ (fun _ => ?_)
theorem serinetteref18_Field.mono : ∀ a0 k, LeO (serinetteref18_Field.f k a0) (serinetteref18_Field.f (k + 1) a0) := by
  intro a0 k
  have ih0 := serinetteref18_Field.mono_l k
  unfold serinetteref18_Field.f
  repeat' first
      | (with_reducible exact ih0 _ _)
      | (with_reducible exact serinetteref18_Text.mono _ _)
      | (with_reducible exact LeO.refl _)
      | (with_reducible exact LeO.none _)
      | (with_reducible refine LeO.ite ?_ ?_)
      | (with_reducible refine LeO.bind ?_ (fun _ => ?_))
      | exact ih0 _ _
      | exact serinetteref18_Text.mono _ _
      | exact LeO.none _
      | refine LeO.ite ?_ ?_
      | refine LeO.bind ?_ (fun _ => ?_)
set_option maxHeartbeats 8000000 in
set_option maxRecDepth 100000 in
theorem serinetteref18_Field.calls (k : Nat) (a0 : ByteArray) (r : Bool) (w : World) (h : serinetteref18_Field.f k a0 = some r) :
    Calls Try.prog 25 #[.string a0] w fun e w' => e = .returned (.bool r) ∧ Below w.heap.size w w' := by
  have HB := Aside0.mk (Below.refl w.heap.size w)
  have H : ((serinetteref18_Text.f k a0).bind fun t168 => (if t168 = true then (serinetteref18_Field.l0 k a0 0) else (some false))) = some r := h
  clear h
  replace H := Option.bind_eq_some_iff.mp H
  obtain ⟨t168, A20, H⟩ := H
  replace H : (if t168 = true then (serinetteref18_Field.l0 k a0 0) else (some false)) = some r := H
  have A2 := Aside0.mk A20
  clear A20
  by_cases c3 : t168 = true
  · subst c3
    have H1 : (serinetteref18_Field.l0 k a0 0) = some r := by rw [if_pos rfl] at H; exact H
    clear H
    have H := H1
    clear H1
    have H' := Aside0.mk H
    clear H
    go_enter Try.func25, Try.ntmps25
    go_wp2_with (first | ((with_reducible refine gate_callee (f := 23) rfl ?_); refine goesL_ (some 6) rfl rfl Try.func23 (by kernel_rfl) rfl #[.string a0] rfl (by (try simp only [List.map_toArray, List.map_cons, List.map_nil]); first | done | rfl | (simp only [List.length_drop, List.length_take]; rfl)) ?_; (with_reducible refine (serinetteref18_Text.calls k a0 true _ A2.out).mono ?_); rintro e w4 ⟨rfl, hb⟩; refine ⟨_, rfl, ?_⟩; have n0_ := Aside0.mk (below_step (by repeat (first | (with_reducible first | exact HB.out | apply below_alloc | apply pw_below_drewN | apply below_drew1) | exact HB.out)) hb); clear HB; have HB := n0_; clear n0_; (try clear hb); (try clear hb2); (try clear hk); (try clear hi)))
    go_loopg [4] k (fun kq v4 w' => ∃ (x4_1 : Int), v4 = .int .i64 x4_1 ∧ Aside0 (serinetteref18_Field.l0 kq a0 x4_1 = some r) ∧ Aside0 (kq ≤ k) ∧ Aside0 (Below w.heap.size w w'))
    case atStart => exact ⟨(0), (by first | rfl | (simp; done) | (simp [*]; done)), H', ⟨Nat.le_refl _⟩, ⟨by repeat (first | (with_reducible first | exact HB.out | apply below_alloc | apply pw_below_drewN | apply below_drew1) | exact HB.out)⟩⟩
    case round =>
      clear H'
      try clear c2
      try clear p2
      try clear c3
      obtain ⟨x4_1, rfl, HA, HK1, HB⟩ := hrel
      cases gk with
      | zero => exact absurd HA.out (by simp [serinetteref18_Field.l0])
      | succ k1 =>
        have H := HA.out
        clear HA
        simp only [serinetteref18_Field.l0] at H
        by_cases c5 : x4_1 < (a0.size : Int)
        · rw [if_pos c5] at H
          have c5b0 : decide (x4_1 < (a0.size : Int)) = true := decide_eq_true c5
          clear c5
          by_cases c6 : 0 ≤ x4_1
          · rw [if_pos c6] at H
            have c6b0 : decide (0 ≤ x4_1) = true := decide_eq_true c6
            clear c6
            by_cases c8 : (bt a0 x4_1) = 61
            · rw [if_pos c8] at H
              have c8b0 : ((bt a0 x4_1) == 61) = true := beq_iff_eq.mpr c8
              have c8b1 : ((bt a0 x4_1) != 61) = false := bne_eq_false_iff_eq.mpr c8
              clear c8
              obtain rfl := Option.some.inj H
              have p7 : 0 ≤ (x4_1 : Int) := of_decide_eq_true (by first | (with_reducible assumption) | assumption)
              have q7 : x4_1 < (a0.size : Int) := of_decide_eq_true (by first | (with_reducible assumption) | assumption)
              have hx7 := bt_at a0 x4_1
              replace p7 := eq_true p7
              replace q7 := eq_true q7
              go_wp2
              go_ret
              exact ⟨by first | rfl | (simp [errW_none, errW_some] <;> rfl) | (simp [*, errW_none, errW_some] <;> rfl), by repeat (first | (with_reducible first | exact HB.out | apply below_alloc | apply pw_below_drewN | apply below_drew1) | exact HB.out)⟩
            · rw [if_neg c8] at H
              have c8b0 : ((bt a0 x4_1) == 61) = false := beq_eq_false_iff_ne.mpr c8
              have c8b1 : ((bt a0 x4_1) != 61) = true := bne_iff_ne.mpr c8
              by_cases c10 : (bt a0 x4_1) < 32
              · rw [if_pos c10] at H
                have c10b0 : decide ((bt a0 x4_1) < 32) = true := decide_eq_true c10
                clear c10
                obtain rfl := Option.some.inj H
                have p7 : 0 ≤ (x4_1 : Int) := of_decide_eq_true (by first | (with_reducible assumption) | assumption)
                have q7 : x4_1 < (a0.size : Int) := of_decide_eq_true (by first | (with_reducible assumption) | assumption)
                have hx7 := bt_at a0 x4_1
                replace p7 := eq_true p7
                replace q7 := eq_true q7
                have p9 : 0 ≤ (x4_1 : Int) := of_decide_eq_true (by first | (with_reducible assumption) | assumption)
                have q9 : x4_1 < (a0.size : Int) := of_decide_eq_true (by first | (with_reducible assumption) | assumption)
                have hx9 := bt_at a0 x4_1
                replace p9 := eq_true p9
                replace q9 := eq_true q9
                go_wp2
                go_ret
                exact ⟨by first | rfl | (simp [errW_none, errW_some] <;> rfl) | (simp [*, errW_none, errW_some] <;> rfl), by repeat (first | (with_reducible first | exact HB.out | apply below_alloc | apply pw_below_drewN | apply below_drew1) | exact HB.out)⟩
              · rw [if_neg c10] at H
                have c10b0 : decide ((bt a0 x4_1) < 32) = false := decide_eq_false c10
                clear c10
                by_cases c12 : (bt a0 x4_1) > 125
                · rw [if_pos c12] at H
                  have c12b0 : decide (125 < (bt a0 x4_1)) = true := decide_eq_true c12
                  clear c12
                  obtain rfl := Option.some.inj H
                  have p7 : 0 ≤ (x4_1 : Int) := of_decide_eq_true (by first | (with_reducible assumption) | assumption)
                  have q7 : x4_1 < (a0.size : Int) := of_decide_eq_true (by first | (with_reducible assumption) | assumption)
                  have hx7 := bt_at a0 x4_1
                  replace p7 := eq_true p7
                  replace q7 := eq_true q7
                  have p9 : 0 ≤ (x4_1 : Int) := of_decide_eq_true (by first | (with_reducible assumption) | assumption)
                  have q9 : x4_1 < (a0.size : Int) := of_decide_eq_true (by first | (with_reducible assumption) | assumption)
                  have hx9 := bt_at a0 x4_1
                  replace p9 := eq_true p9
                  replace q9 := eq_true q9
                  have p11 : 0 ≤ (x4_1 : Int) := of_decide_eq_true (by first | (with_reducible assumption) | assumption)
                  have q11 : x4_1 < (a0.size : Int) := of_decide_eq_true (by first | (with_reducible assumption) | assumption)
                  have hx11 := bt_at a0 x4_1
                  replace p11 := eq_true p11
                  replace q11 := eq_true q11
                  go_wp2
                  go_ret
                  exact ⟨by first | rfl | (simp [errW_none, errW_some] <;> rfl) | (simp [*, errW_none, errW_some] <;> rfl), by repeat (first | (with_reducible first | exact HB.out | apply below_alloc | apply pw_below_drewN | apply below_drew1) | exact HB.out)⟩
                · rw [if_neg c12] at H
                  have c12b0 : decide (125 < (bt a0 x4_1)) = false := decide_eq_false c12
                  clear c12
                  have H' := Aside0.mk H
                  clear H
                  have p7 : 0 ≤ (x4_1 : Int) := of_decide_eq_true (by first | (with_reducible assumption) | assumption)
                  have q7 : x4_1 < (a0.size : Int) := of_decide_eq_true (by first | (with_reducible assumption) | assumption)
                  have hx7 := bt_at a0 x4_1
                  replace p7 := eq_true p7
                  replace q7 := eq_true q7
                  have p9 : 0 ≤ (x4_1 : Int) := of_decide_eq_true (by first | (with_reducible assumption) | assumption)
                  have q9 : x4_1 < (a0.size : Int) := of_decide_eq_true (by first | (with_reducible assumption) | assumption)
                  have hx9 := bt_at a0 x4_1
                  replace p9 := eq_true p9
                  replace q9 := eq_true q9
                  have p11 : 0 ≤ (x4_1 : Int) := of_decide_eq_true (by first | (with_reducible assumption) | assumption)
                  have q11 : x4_1 < (a0.size : Int) := of_decide_eq_true (by first | (with_reducible assumption) | assumption)
                  have hx11 := bt_at a0 x4_1
                  replace p11 := eq_true p11
                  replace q11 := eq_true q11
                  go_wp2
                  go_roundg k1
                  case measure => have := HK1.out; omega
                  case rel => exact ⟨(wrap64 (x4_1 + 1)), (by first | rfl | (simp; done) | (simp [*]; done)), H', ⟨by have := HK1.out; omega⟩, ⟨by repeat (first | (with_reducible first | exact HB.out | apply below_alloc | apply pw_below_drewN | apply below_drew1) | exact HB.out)⟩⟩
          · rw [if_neg c6] at H
            exact absurd H (by simp)
        · rw [if_neg c5] at H
          have c5b0 : decide (x4_1 < (a0.size : Int)) = false := decide_eq_false c5
          clear c5
          obtain rfl := Option.some.inj H
          go_wp2
          go_ret
          exact ⟨by first | rfl | (simp [errW_none, errW_some] <;> rfl) | (simp [*, errW_none, errW_some] <;> rfl), by repeat (first | (with_reducible first | exact HB.out | apply below_alloc | apply pw_below_drewN | apply below_drew1) | exact HB.out)⟩
  · replace c3 := Bool.eq_false_iff.mpr c3
    subst c3
    have H1 : (some false) = some r := by rw [if_neg (show ¬ (false = true) by decide)] at H; exact H
    clear H
    have H := H1
    clear H1
    obtain rfl := Option.some.inj H
    go_enter Try.func25, Try.ntmps25
    go_wp2_with (first | ((with_reducible refine gate_callee (f := 23) rfl ?_); refine goesL_ (some 6) rfl rfl Try.func23 (by kernel_rfl) rfl #[.string a0] rfl (by (try simp only [List.map_toArray, List.map_cons, List.map_nil]); first | done | rfl | (simp only [List.length_drop, List.length_take]; rfl)) ?_; (with_reducible refine (serinetteref18_Text.calls k a0 false _ A2.out).mono ?_); rintro e w13 ⟨rfl, hb⟩; refine ⟨_, rfl, ?_⟩; have n0_ := Aside0.mk (below_step (by repeat (first | (with_reducible first | exact HB.out | apply below_alloc | apply pw_below_drewN | apply below_drew1) | exact HB.out)) hb); clear HB; have HB := n0_; clear n0_; (try clear hb); (try clear hb2); (try clear hk); (try clear hi)))
    go_ret
    exact ⟨by first | rfl | (simp [errW_none, errW_some] <;> rfl) | (simp [*, errW_none, errW_some] <;> rfl), by repeat (first | (with_reducible first | exact HB.out | apply below_alloc | apply pw_below_drewN | apply below_drew1) | exact HB.out)⟩

/-! ### serinetteref18_CommentRight: function 35 -/
def serinetteref18_CommentRight.l0 : Nat → Int → Int → ByteArray → List ByteArray → Option (Bool)
  | 0, _, _, _, _ => none
  | k + 1, x4, x5, x170000, x170001 => if x5 < (x170001.length : Int) then (if 0 ≤ x5 then ((serinetteref18_Field.f k (rdOf ByteArray.empty x170001 x5)).bind fun t172 => (if t172 = true then (serinetteref18_CommentRight.l0 k (wrap64 ((wrap64 (x4 + 4)) + ((rdOf ByteArray.empty x170001 x5).size : Int))) (wrap64 (x5 + 1)) x170000 x170001) else (some false))) else (none)) else (some (decide (x4 ≤ 16777215)))
def serinetteref18_CommentRight.f (k : Nat) (a0_0 : ByteArray) (l0_1 : List ByteArray) : Option (Bool) := (serinetteref18_Text.f k a0_0).bind fun t170 => (if t170 = true then (serinetteref18_CommentRight.l0 k (wrap64 (8 + (a0_0.size : Int))) 0 a0_0 l0_1) else (some false))
theorem serinetteref18_CommentRight.mono_l : ∀ k, (∀ y0 y1 y2 y3, LeO (serinetteref18_CommentRight.l0 k y0 y1 y2 y3) (serinetteref18_CommentRight.l0 (k + 1) y0 y1 y2 y3))
  | 0 => fun _ _ _ _ r h => by simp [serinetteref18_CommentRight.l0] at h
  | k + 1 => by
    have ih0 := serinetteref18_CommentRight.mono_l k
    · intro y0 y1 y2 y3
      unfold serinetteref18_CommentRight.l0
      repeat' first
      | (with_reducible exact ih0 _ _ _ _)
      | (with_reducible exact serinetteref18_Field.mono _ _)
      | (with_reducible exact serinetteref18_Text.mono _ _)
      | (with_reducible exact LeO.refl _)
      | (with_reducible exact LeO.none _)
      | (with_reducible refine LeO.ite ?_ ?_)
      | (with_reducible refine LeO.bind ?_ (fun _ => ?_))
      | exact ih0 _ _ _ _
      | exact serinetteref18_Field.mono _ _
      | exact serinetteref18_Text.mono _ _
      | exact LeO.none _
      | refine LeO.ite ?_ ?_
      | refine LeO.bind ?_ (fun _ => ?_)
theorem serinetteref18_CommentRight.mono : ∀ a0 a1 k, LeO (serinetteref18_CommentRight.f k a0 a1) (serinetteref18_CommentRight.f (k + 1) a0 a1) := by
  intro a0 a1 k
  have ih0 := serinetteref18_CommentRight.mono_l k
  unfold serinetteref18_CommentRight.f
  repeat' first
      | (with_reducible exact ih0 _ _ _ _)
      | (with_reducible exact serinetteref18_Field.mono _ _)
      | (with_reducible exact serinetteref18_Text.mono _ _)
      | (with_reducible exact LeO.refl _)
      | (with_reducible exact LeO.none _)
      | (with_reducible refine LeO.ite ?_ ?_)
      | (with_reducible refine LeO.bind ?_ (fun _ => ?_))
      | exact ih0 _ _ _ _
      | exact serinetteref18_Field.mono _ _
      | exact serinetteref18_Text.mono _ _
      | exact LeO.none _
      | refine LeO.ite ?_ ?_
      | refine LeO.bind ?_ (fun _ => ?_)
set_option maxHeartbeats 8000000 in
set_option maxRecDepth 100000 in
theorem serinetteref18_CommentRight.calls (k : Nat) (a0_0 : ByteArray) (A0_1 : Option Addr) (c0_1 : Nat) (l0_1 : List ByteArray) (r : Bool) (w : World) (hr0_1 : Kd.C Kd.string w A0_1 l0_1.length l0_1) (hc0_1 : l0_1.length ≤ c0_1) (h : serinetteref18_CommentRight.f k a0_0 l0_1 = some r) :
    Calls Try.prog 35 #[.agg #[.string a0_0, .slice A0_1 l0_1.length c0_1]] w fun e w' => e = .returned (.bool r) ∧ Below w.heap.size w w' := by
  have hu36 := Try.underlying36
  have HR0_1 := Aside0.mk hr0_1
  have HC0_1 := Aside0.mk hc0_1
  clear hr0_1 hc0_1
  have HB := Aside0.mk (Below.refl w.heap.size w)
  have H : ((serinetteref18_Text.f k a0_0).bind fun t170 => (if t170 = true then (serinetteref18_CommentRight.l0 k (wrap64 (8 + (a0_0.size : Int))) 0 a0_0 l0_1) else (some false))) = some r := h
  clear h
  replace H := Option.bind_eq_some_iff.mp H
  obtain ⟨t170, A20, H⟩ := H
  replace H : (if t170 = true then (serinetteref18_CommentRight.l0 k (wrap64 (8 + (a0_0.size : Int))) 0 a0_0 l0_1) else (some false)) = some r := H
  have A2 := Aside0.mk A20
  clear A20
  by_cases c3 : t170 = true
  · subst c3
    have H1 : (serinetteref18_CommentRight.l0 k (wrap64 (8 + (a0_0.size : Int))) 0 a0_0 l0_1) = some r := by rw [if_pos rfl] at H; exact H
    clear H
    have H := H1
    clear H1
    have H' := Aside0.mk H
    clear H
    go_enter Try.func35, Try.ntmps35
    go_wp2_with (first | ((with_reducible refine gate_dst (N := 1) rfl ?_); refine box_event ?hg (N := 1) ?hd (cs := #[.string a0_0, .slice A0_1 l0_1.length c0_1]) (t := 36) ?hr ?_; (case hd => rfl); (case hg => rfl); (case hr => first | (go_simp; done) | (go_simp; rfl)); intro gb169 hg w4 hbox hb; have n0_ := Aside0.mk (below_step (by repeat (first | (with_reducible first | exact HB.out | apply below_alloc | apply pw_below_drewN | apply below_drew1) | exact HB.out)) hb); have n1_ := Aside0.mk (hbox); have n2_ := Aside0.mk ((by rw [hg]; exact (below_size (by repeat (first | (with_reducible first | exact HB.out | apply below_alloc | apply pw_below_drewN | apply below_drew1) | exact HB.out))) : w.heap.size ≤ gb169)); have n3_ := Aside0.mk ((by rw [hg]; exact (below_size (by repeat (first | (with_reducible first | exact HB.out | apply below_alloc | apply pw_below_drewN | apply below_drew1) | exact HB.out))) : w.heap.size ≤ gb169)); clear HB; have HB := n0_; have BK169 := n1_; have GW169 := n2_; have GE169 := n3_; clear n0_ n1_ n2_ n3_; clear hb hbox hg; have hcz5_0 : w4.cell? ⟨gb169, 0, none⟩ = some (.string a0_0) := (blk_cell BK169.out 0).trans rfl; have hcz5_1 : w4.cell? ⟨gb169, 1, none⟩ = some (.slice A0_1 l0_1.length c0_1) := (blk_cell BK169.out 1).trans rfl; have hfz5_0 := blk_frozen BK169.out 0; have hfz5_1 := blk_frozen BK169.out 1) | ((with_reducible refine gate_callee (f := 23) rfl ?_); refine goesL_ (some 9) rfl rfl Try.func23 (by kernel_rfl) rfl #[.string a0_0] rfl (by (try simp only [List.map_toArray, List.map_cons, List.map_nil]); first | done | rfl | (simp only [List.length_drop, List.length_take]; rfl)) ?_; (with_reducible refine (serinetteref18_Text.calls k a0_0 true _ A2.out).mono ?_); rintro e w6 ⟨rfl, hb⟩; refine ⟨_, rfl, ?_⟩; have n0_ := Aside0.mk (blk_below (g := gb169) (o := .cells #[.string a0_0, .slice A0_1 l0_1.length c0_1] 36 (0, 0)) (by (with_reducible repeat (first | refine blk_drewN ?_ _ | refine blk_drew ?_ | refine blk_alloc ?_ _)); exact BK169.out) hb); have n1_ := Aside0.mk (below_step (by repeat (first | (with_reducible first | exact HB.out | apply below_alloc | apply pw_below_drewN | apply below_drew1 | refine below_set ?_ GE169.out) | exact HB.out)) hb); clear BK169; clear HB; have BK169 := n0_; have HB := n1_; clear n0_ n1_; (try clear hb); (try clear hb2); (try clear hk); (try clear hi); have hcz7_0 : w6.cell? ⟨gb169, 0, none⟩ = some (.string a0_0) := (blk_cell BK169.out 0).trans rfl; have hcz7_1 : w6.cell? ⟨gb169, 1, none⟩ = some (.slice A0_1 l0_1.length c0_1) := (blk_cell BK169.out 1).trans rfl; have hfz7_0 := blk_frozen BK169.out 0; have hfz7_1 := blk_frozen BK169.out 1))
    go_loopg [4, 5] k (fun kq v4 v5 w' => ∃ (x4_1 : Int) (x5_1 : Int), v4 = .int .i64 x4_1 ∧ v5 = .int .i64 x5_1 ∧ Aside0 (serinetteref18_CommentRight.l0 kq x4_1 x5_1 a0_0 l0_1 = some r) ∧ Aside0 (kq ≤ k) ∧ Aside0 (w'.heap[gb169]? = some (.cells #[.string a0_0, (.slice A0_1 l0_1.length c0_1)] 36 (0, 0))) ∧ Aside0 (Below w.heap.size w w'))
    case atStart => exact ⟨(wrap64 (8 + (a0_0.size : Int))), (0), (by first | rfl | (simp; done) | (simp [*]; done)), (by first | rfl | (simp; done) | (simp [*]; done)), H', ⟨Nat.le_refl _⟩, ⟨by (with_reducible repeat (first | refine blk_drewN ?_ _ | refine blk_drew ?_ | refine blk_alloc ?_ _)); exact BK169.out⟩, ⟨by repeat (first | (with_reducible first | exact HB.out | apply below_alloc | apply pw_below_drewN | apply below_drew1 | refine below_set ?_ GE169.out) | exact HB.out)⟩⟩
    case round =>
      clear H'
      try clear c2
      try clear p2
      try clear c3
      try clear p6
      try clear hcz5_0
      try clear hcz5_1
      try clear hcz7_0
      try clear hcz7_1
      try clear hfz5_0
      try clear hfz5_1
      try clear hfz7_0
      try clear hfz7_1
      obtain ⟨x4_1, x5_1, rfl, rfl, HA, HK1, BK169, HB⟩ := hrel
      cases gk with
      | zero => exact absurd HA.out (by simp [serinetteref18_CommentRight.l0])
      | succ k1 =>
        have H := HA.out
        clear HA
        simp only [serinetteref18_CommentRight.l0] at H
        by_cases c8 : x5_1 < (l0_1.length : Int)
        · rw [if_pos c8] at H
          have c8b0 : decide (x5_1 < (l0_1.length : Int)) = true := decide_eq_true c8
          clear c8
          by_cases c9 : 0 ≤ x5_1
          · rw [if_pos c9] at H
            have c9b0 : decide (0 ≤ x5_1) = true := decide_eq_true c9
            clear c9
            replace H := Option.bind_eq_some_iff.mp H
            obtain ⟨t172, A100, H⟩ := H
            replace H : (if t172 = true then (serinetteref18_CommentRight.l0 k1 (wrap64 ((wrap64 (x4_1 + 4)) + ((rdOf ByteArray.empty l0_1 x5_1).size : Int))) (wrap64 (x5_1 + 1)) a0_0 l0_1) else (some false)) = some r := H
            have A10 := Aside0.mk A100
            clear A100
            by_cases c11 : t172 = true
            · subst c11
              have H1 : (serinetteref18_CommentRight.l0 k1 (wrap64 ((wrap64 (x4_1 + 4)) + ((rdOf ByteArray.empty l0_1 x5_1).size : Int))) (wrap64 (x5_1 + 1)) a0_0 l0_1) = some r := by rw [if_pos rfl] at H; exact H
              clear H
              have H := H1
              clear H1
              have H' := Aside0.mk H
              clear H
              have hcz12_0 : wr.cell? ⟨gb169, 0, none⟩ = some (.string a0_0) := (blk_cell BK169.out 0).trans rfl
              have hcz12_1 : wr.cell? ⟨gb169, 1, none⟩ = some (.slice A0_1 l0_1.length c0_1) := (blk_cell BK169.out 1).trans rfl
              have hfz12_0 := blk_frozen BK169.out 0
              have hfz12_1 := blk_frozen BK169.out 1
              have p171 : 0 ≤ (x5_1 : Int) := of_decide_eq_true (by first | (with_reducible assumption) | assumption)
              have q171 : x5_1 < (l0_1.length : Int) := of_decide_eq_true (by first | (with_reducible assumption) | assumption)
              obtain ⟨ad171, e171, hx171_0⟩ := Kd.at_string HR0_1.out x5_1 p171 q171
              cases e171
              replace hx171_0 := (HB.out.cell (World.block_lt_of_cell? w _ hx171_0)).trans hx171_0
              replace p171 := eq_true p171
              replace q171 := eq_true q171
              go_wp2_with (first | ((with_reducible refine gate_callee (f := 25) rfl ?_); refine goesL_ (some 28) rfl rfl Try.func25 (by kernel_rfl) rfl #[.string (rdOf ByteArray.empty l0_1 x5_1)] rfl (by (try simp only [List.map_toArray, List.map_cons, List.map_nil]); first | done | rfl | (simp only [List.length_drop, List.length_take]; rfl)) ?_; (with_reducible refine (serinetteref18_Field.calls k1 (rdOf ByteArray.empty l0_1 x5_1) true _ A10.out).mono ?_); rintro e w13 ⟨rfl, hb⟩; refine ⟨_, rfl, ?_⟩; have n0_ := Aside0.mk (blk_below (g := gb169) (o := .cells #[.string a0_0, .slice (some ad171) l0_1.length c0_1] 36 (0, 0)) (by (with_reducible repeat (first | refine blk_drewN ?_ _ | refine blk_drew ?_ | refine blk_alloc ?_ _)); exact BK169.out) hb); have n1_ := Aside0.mk (below_step (by repeat (first | (with_reducible first | exact HB.out | apply below_alloc | apply pw_below_drewN | apply below_drew1 | refine below_set ?_ GE169.out) | exact HB.out)) hb); clear BK169; clear HB; have BK169 := n0_; have HB := n1_; clear n0_ n1_; (try clear hb); (try clear hb2); (try clear hk); (try clear hi); have hcz14_0 : w13.cell? ⟨gb169, 0, none⟩ = some (.string a0_0) := (blk_cell BK169.out 0).trans rfl; have hcz14_1 : w13.cell? ⟨gb169, 1, none⟩ = some (.slice (some ad171) l0_1.length c0_1) := (blk_cell BK169.out 1).trans rfl; have hfz14_0 := blk_frozen BK169.out 0; have hfz14_1 := blk_frozen BK169.out 1; have p173 : 0 ≤ (x5_1 : Int) := of_decide_eq_true (by first | (with_reducible assumption) | assumption); have q173 : x5_1 < (l0_1.length : Int) := of_decide_eq_true (by first | (with_reducible assumption) | assumption); obtain ⟨ad173, e173, hx173_0⟩ := Kd.at_string HR0_1.out x5_1 p173 q173; obtain rfl : ad171 = ad173 := (by injection e173); replace hx173_0 := (HB.out.cell (World.block_lt_of_cell? w _ hx173_0)).trans hx173_0; replace p173 := eq_true p173; replace q173 := eq_true q173))
              go_roundg k1
              case measure => have := HK1.out; omega
              case rel => exact ⟨(wrap64 ((wrap64 (x4_1 + 4)) + ((rdOf ByteArray.empty l0_1 x5_1).size : Int))), (wrap64 (x5_1 + 1)), (by first | rfl | (simp; done) | (simp [*]; done)), (by first | rfl | (simp; done) | (simp [*]; done)), H', ⟨by have := HK1.out; omega⟩, ⟨by (with_reducible repeat (first | refine blk_drewN ?_ _ | refine blk_drew ?_ | refine blk_alloc ?_ _)); exact BK169.out⟩, ⟨by repeat (first | (with_reducible first | exact HB.out | apply below_alloc | apply pw_below_drewN | apply below_drew1 | refine below_set ?_ GE169.out) | exact HB.out)⟩⟩
            · replace c11 := Bool.eq_false_iff.mpr c11
              subst c11
              have H1 : (some false) = some r := by rw [if_neg (show ¬ (false = true) by decide)] at H; exact H
              clear H
              have H := H1
              clear H1
              obtain rfl := Option.some.inj H
              have hcz15_0 : wr.cell? ⟨gb169, 0, none⟩ = some (.string a0_0) := (blk_cell BK169.out 0).trans rfl
              have hcz15_1 : wr.cell? ⟨gb169, 1, none⟩ = some (.slice A0_1 l0_1.length c0_1) := (blk_cell BK169.out 1).trans rfl
              have hfz15_0 := blk_frozen BK169.out 0
              have hfz15_1 := blk_frozen BK169.out 1
              have p171 : 0 ≤ (x5_1 : Int) := of_decide_eq_true (by first | (with_reducible assumption) | assumption)
              have q171 : x5_1 < (l0_1.length : Int) := of_decide_eq_true (by first | (with_reducible assumption) | assumption)
              obtain ⟨ad171, e171, hx171_0⟩ := Kd.at_string HR0_1.out x5_1 p171 q171
              cases e171
              replace hx171_0 := (HB.out.cell (World.block_lt_of_cell? w _ hx171_0)).trans hx171_0
              replace p171 := eq_true p171
              replace q171 := eq_true q171
              go_wp2_with (first | ((with_reducible refine gate_callee (f := 25) rfl ?_); refine goesL_ (some 28) rfl rfl Try.func25 (by kernel_rfl) rfl #[.string (rdOf ByteArray.empty l0_1 x5_1)] rfl (by (try simp only [List.map_toArray, List.map_cons, List.map_nil]); first | done | rfl | (simp only [List.length_drop, List.length_take]; rfl)) ?_; (with_reducible refine (serinetteref18_Field.calls k1 (rdOf ByteArray.empty l0_1 x5_1) false _ A10.out).mono ?_); rintro e w16 ⟨rfl, hb⟩; refine ⟨_, rfl, ?_⟩; have n0_ := Aside0.mk (blk_below (g := gb169) (o := .cells #[.string a0_0, .slice (some ad171) l0_1.length c0_1] 36 (0, 0)) (by (with_reducible repeat (first | refine blk_drewN ?_ _ | refine blk_drew ?_ | refine blk_alloc ?_ _)); exact BK169.out) hb); have n1_ := Aside0.mk (below_step (by repeat (first | (with_reducible first | exact HB.out | apply below_alloc | apply pw_below_drewN | apply below_drew1 | refine below_set ?_ GE169.out) | exact HB.out)) hb); clear BK169; clear HB; have BK169 := n0_; have HB := n1_; clear n0_ n1_; (try clear hb); (try clear hb2); (try clear hk); (try clear hi)))
              go_ret
              exact ⟨by first | rfl | (simp [errW_none, errW_some] <;> rfl) | (simp [*, errW_none, errW_some] <;> rfl), by repeat (first | (with_reducible first | exact HB.out | apply below_alloc | apply pw_below_drewN | apply below_drew1 | refine below_set ?_ GE169.out) | exact HB.out)⟩
          · rw [if_neg c9] at H
            exact absurd H (by simp)
        · rw [if_neg c8] at H
          have c8b0 : decide (x5_1 < (l0_1.length : Int)) = false := decide_eq_false c8
          clear c8
          obtain rfl := Option.some.inj H
          have hcz17_0 : wr.cell? ⟨gb169, 0, none⟩ = some (.string a0_0) := (blk_cell BK169.out 0).trans rfl
          have hcz17_1 : wr.cell? ⟨gb169, 1, none⟩ = some (.slice A0_1 l0_1.length c0_1) := (blk_cell BK169.out 1).trans rfl
          have hfz17_0 := blk_frozen BK169.out 0
          have hfz17_1 := blk_frozen BK169.out 1
          go_wp2
          go_ret
          exact ⟨by first | rfl | (simp [errW_none, errW_some] <;> rfl) | (simp [*, errW_none, errW_some] <;> rfl), by repeat (first | (with_reducible first | exact HB.out | apply below_alloc | apply pw_below_drewN | apply below_drew1 | refine below_set ?_ GE169.out) | exact HB.out)⟩
  · replace c3 := Bool.eq_false_iff.mpr c3
    subst c3
    have H1 : (some false) = some r := by rw [if_neg (show ¬ (false = true) by decide)] at H; exact H
    clear H
    have H := H1
    clear H1
    obtain rfl := Option.some.inj H
    go_enter Try.func35, Try.ntmps35
    go_wp2_with (first | ((with_reducible refine gate_dst (N := 1) rfl ?_); refine box_event ?hg (N := 1) ?hd (cs := #[.string a0_0, .slice A0_1 l0_1.length c0_1]) (t := 36) ?hr ?_; (case hd => rfl); (case hg => rfl); (case hr => first | (go_simp; done) | (go_simp; rfl)); intro gb169 hg w18 hbox hb; have n0_ := Aside0.mk (below_step (by repeat (first | (with_reducible first | exact HB.out | apply below_alloc | apply pw_below_drewN | apply below_drew1) | exact HB.out)) hb); have n1_ := Aside0.mk (hbox); have n2_ := Aside0.mk ((by rw [hg]; exact (below_size (by repeat (first | (with_reducible first | exact HB.out | apply below_alloc | apply pw_below_drewN | apply below_drew1) | exact HB.out))) : w.heap.size ≤ gb169)); have n3_ := Aside0.mk ((by rw [hg]; exact (below_size (by repeat (first | (with_reducible first | exact HB.out | apply below_alloc | apply pw_below_drewN | apply below_drew1) | exact HB.out))) : w.heap.size ≤ gb169)); clear HB; have HB := n0_; have BK169 := n1_; have GW169 := n2_; have GE169 := n3_; clear n0_ n1_ n2_ n3_; clear hb hbox hg; have hcz19_0 : w18.cell? ⟨gb169, 0, none⟩ = some (.string a0_0) := (blk_cell BK169.out 0).trans rfl; have hcz19_1 : w18.cell? ⟨gb169, 1, none⟩ = some (.slice A0_1 l0_1.length c0_1) := (blk_cell BK169.out 1).trans rfl; have hfz19_0 := blk_frozen BK169.out 0; have hfz19_1 := blk_frozen BK169.out 1) | ((with_reducible refine gate_callee (f := 23) rfl ?_); refine goesL_ (some 9) rfl rfl Try.func23 (by kernel_rfl) rfl #[.string a0_0] rfl (by (try simp only [List.map_toArray, List.map_cons, List.map_nil]); first | done | rfl | (simp only [List.length_drop, List.length_take]; rfl)) ?_; (with_reducible refine (serinetteref18_Text.calls k a0_0 false _ A2.out).mono ?_); rintro e w20 ⟨rfl, hb⟩; refine ⟨_, rfl, ?_⟩; have n0_ := Aside0.mk (blk_below (g := gb169) (o := .cells #[.string a0_0, .slice A0_1 l0_1.length c0_1] 36 (0, 0)) (by (with_reducible repeat (first | refine blk_drewN ?_ _ | refine blk_drew ?_ | refine blk_alloc ?_ _)); exact BK169.out) hb); have n1_ := Aside0.mk (below_step (by repeat (first | (with_reducible first | exact HB.out | apply below_alloc | apply pw_below_drewN | apply below_drew1 | refine below_set ?_ GE169.out) | exact HB.out)) hb); clear BK169; clear HB; have BK169 := n0_; have HB := n1_; clear n0_ n1_; (try clear hb); (try clear hb2); (try clear hk); (try clear hi)))
    go_ret
    exact ⟨by first | rfl | (simp [errW_none, errW_some] <;> rfl) | (simp [*, errW_none, errW_some] <;> rfl), by repeat (first | (with_reducible first | exact HB.out | apply below_alloc | apply pw_below_drewN | apply below_drew1 | refine below_set ?_ GE169.out) | exact HB.out)⟩

/-! ### serinetteref18_Odd: function 38 -/
def serinetteref18_Odd.j0 : Nat → Bool → Int → List Int → Option (Int)
  | 0, _, _, _ => none
  | k + 1, x10, x175000, x175001 => if x10 = true then (some 8) else (if (x175001.length : Int) > 16777215 then (some 7) else (some 0))
def serinetteref18_Odd.f (k : Nat) (a0_0 : Int) (l0_1 : List Int) : Option (Int) := if a0_0 < 0 then (serinetteref18_Odd.j0 k true a0_0 l0_1) else (serinetteref18_Odd.j0 k (decide (a0_0 > 126)) a0_0 l0_1)
theorem serinetteref18_Odd.mono_l : ∀ k, (∀ y0 y1 y2, LeO (serinetteref18_Odd.j0 k y0 y1 y2) (serinetteref18_Odd.j0 (k + 1) y0 y1 y2))
  | 0 => fun _ _ _ r h => by simp [serinetteref18_Odd.j0] at h
  | k + 1 => by
    have ih0 := serinetteref18_Odd.mono_l k
    · intro y0 y1 y2
      unfold serinetteref18_Odd.j0
      repeat' first
      | (with_reducible exact ih0 _ _ _)
      | (with_reducible exact LeO.refl _)
      | (with_reducible exact LeO.none _)
      | (with_reducible refine LeO.ite ?_ ?_)
      | (with_reducible refine LeO.bind ?_ (fun _ => ?_))
      | exact ih0 _ _ _
      | exact LeO.none _
      | refine LeO.ite ?_ ?_
      | refine LeO.bind ?_ (fun _ => ?_)
theorem serinetteref18_Odd.mono : ∀ a0 a1 k, LeO (serinetteref18_Odd.f k a0 a1) (serinetteref18_Odd.f (k + 1) a0 a1) := by
  intro a0 a1 k
  have ih0 := serinetteref18_Odd.mono_l k
  unfold serinetteref18_Odd.f
  repeat' first
      | (with_reducible exact ih0 _ _ _)
      | (with_reducible exact LeO.refl _)
      | (with_reducible exact LeO.none _)
      | (with_reducible refine LeO.ite ?_ ?_)
      | (with_reducible refine LeO.bind ?_ (fun _ => ?_))
      | exact ih0 _ _ _
      | exact LeO.none _
      | refine LeO.ite ?_ ?_
      | refine LeO.bind ?_ (fun _ => ?_)
set_option maxHeartbeats 8000000 in
set_option maxRecDepth 100000 in
theorem serinetteref18_Odd.calls (k : Nat) (a0_0 : Int) (A0_1 : Option Addr) (c0_1 : Nat) (l0_1 : List Int) (r : Int) (w : World) (hr0_1 : Kd.C (Kd.int .u8) w A0_1 l0_1.length l0_1) (hc0_1 : l0_1.length ≤ c0_1) (h : serinetteref18_Odd.f k a0_0 l0_1 = some r) :
    Calls Try.prog 38 #[.agg #[.int .i64 a0_0, .slice A0_1 l0_1.length c0_1]] w fun e w' => e = .returned (.int .i64 r) ∧ Below w.heap.size w w' := by
  have hu24 := Try.underlying24
  have HR0_1 := Aside0.mk hr0_1
  have HC0_1 := Aside0.mk hc0_1
  clear hr0_1 hc0_1
  have HB := Aside0.mk (Below.refl w.heap.size w)
  have H : (if a0_0 < 0 then (serinetteref18_Odd.j0 k true a0_0 l0_1) else (serinetteref18_Odd.j0 k (decide (a0_0 > 126)) a0_0 l0_1)) = some r := h
  clear h
  have HC2 := Aside0.mk H
  clear H
  go_enter Try.func38, Try.ntmps38
  go_upto_region 1 with (first | ((with_reducible refine gate_dst (N := 1) rfl ?_); refine box_event ?hg (N := 1) ?hd (cs := #[.int .i64 a0_0, .slice A0_1 l0_1.length c0_1]) (t := 24) ?hr ?_; (case hd => rfl); (case hg => rfl); (case hr => first | (go_simp; done) | (go_simp; rfl)); intro gb174 hg w3 hbox hb; have n0_ := Aside0.mk (below_step (by repeat (first | (with_reducible first | exact HB.out | apply below_alloc | apply pw_below_drewN | apply below_drew1) | exact HB.out)) hb); have n1_ := Aside0.mk (hbox); have n2_ := Aside0.mk ((by rw [hg]; exact (below_size (by repeat (first | (with_reducible first | exact HB.out | apply below_alloc | apply pw_below_drewN | apply below_drew1) | exact HB.out))) : w.heap.size ≤ gb174)); have n3_ := Aside0.mk ((by rw [hg]; exact (below_size (by repeat (first | (with_reducible first | exact HB.out | apply below_alloc | apply pw_below_drewN | apply below_drew1) | exact HB.out))) : w.heap.size ≤ gb174)); clear HB; have HB := n0_; have BK174 := n1_; have GW174 := n2_; have GE174 := n3_; clear n0_ n1_ n2_ n3_; clear hb hbox hg))
  (try simp only [Act.put, List.setIfInBounds_toArray, List.set_cons_zero, List.set_cons_succ])
  go_cut [10] (fun v10 wc => ∃ (kq : Nat) (x10_1 : Bool), v10 = .bool x10_1 ∧ Aside0 (serinetteref18_Odd.j0 kq x10_1 a0_0 l0_1 = some r) ∧ Aside0 (kq ≤ k) ∧ Aside0 (wc.heap[gb174]? = some (.cells #[.int .i64 a0_0, (.slice A0_1 l0_1.length c0_1)] 24 (0, 0))) ∧ Aside0 (Below w.heap.size w wc))
  case first =>
    have H := HC2.out
    clear HC2
    by_cases c4 : a0_0 < 0
    · rw [if_pos c4] at H
      have c4b0 : decide (a0_0 < 0) = true := decide_eq_true c4
      clear c4
      (first | rw [c4b0] | (simp only [i64_w, i32_w]; rw [c4b0]) | skip)
      have H' := Aside0.mk H
      clear H
      have hcz5_0 : w3.cell? ⟨gb174, 0, none⟩ = some (.int .i64 a0_0) := (blk_cell BK174.out 0).trans rfl
      have hcz5_1 : w3.cell? ⟨gb174, 1, none⟩ = some (.slice A0_1 l0_1.length c0_1) := (blk_cell BK174.out 1).trans rfl
      have hfz5_0 := blk_frozen BK174.out 0
      have hfz5_1 := blk_frozen BK174.out 1
      go_wp2
      go_meet
      case rel => exact ⟨_, (true), (by first | rfl | (simp; done) | (simp [*]; done)), H', ⟨by first | omega | exact Nat.le_refl _⟩, ⟨by (with_reducible repeat (first | refine blk_drewN ?_ _ | refine blk_drew ?_ | refine blk_alloc ?_ _)); exact BK174.out⟩, ⟨by repeat (first | (with_reducible first | exact HB.out | apply below_alloc | apply pw_below_drewN | apply below_drew1 | refine below_set ?_ GE174.out) | exact HB.out)⟩⟩
    · rw [if_neg c4] at H
      have c4b0 : decide (a0_0 < 0) = false := decide_eq_false c4
      clear c4
      (first | rw [c4b0] | (simp only [i64_w, i32_w]; rw [c4b0]) | skip)
      have H' := Aside0.mk H
      clear H
      have hcz6_0 : w3.cell? ⟨gb174, 0, none⟩ = some (.int .i64 a0_0) := (blk_cell BK174.out 0).trans rfl
      have hcz6_1 : w3.cell? ⟨gb174, 1, none⟩ = some (.slice A0_1 l0_1.length c0_1) := (blk_cell BK174.out 1).trans rfl
      have hfz6_0 := blk_frozen BK174.out 0
      have hfz6_1 := blk_frozen BK174.out 1
      go_wp2
      go_meet
      case rel => exact ⟨_, (decide (a0_0 > 126)), (by first | rfl | (simp; done) | (simp [*]; done)), H', ⟨by first | omega | exact Nat.le_refl _⟩, ⟨by (with_reducible repeat (first | refine blk_drewN ?_ _ | refine blk_drew ?_ | refine blk_alloc ?_ _)); exact BK174.out⟩, ⟨by repeat (first | (with_reducible first | exact HB.out | apply below_alloc | apply pw_below_drewN | apply below_drew1 | refine below_set ?_ GE174.out) | exact HB.out)⟩⟩
  case rest =>
    clear HC2
    try clear p2
    try clear c3
    try clear c4
    try clear c4b0
    try clear hcz5_0
    try clear hcz5_1
    try clear hcz6_0
    try clear hcz6_1
    try clear hfz5_0
    try clear hfz5_1
    try clear hfz6_0
    try clear hfz6_1
    obtain ⟨kq, x10_1, rfl, HA, HJ1, BK174, HB⟩ := hcut
    cases kq with
    | zero => exact absurd HA.out (by simp [serinetteref18_Odd.j0])
    | succ kj1 =>
      have H := HA.out
      clear HA
      simp only [serinetteref18_Odd.j0] at H
      by_cases c7 : x10_1 = true
      · subst c7
        have H1 : (some 8) = some r := by rw [if_pos rfl] at H; exact H
        clear H
        have H := H1
        clear H1
        obtain rfl := Option.some.inj H
        go_wp2
        go_ret
        exact ⟨by first | rfl | (simp [errW_none, errW_some] <;> rfl) | (simp [*, errW_none, errW_some] <;> rfl), by repeat (first | (with_reducible first | exact HB.out | apply below_alloc | apply pw_below_drewN | apply below_drew1 | refine below_set ?_ GE174.out) | exact HB.out)⟩
      · replace c7 := Bool.eq_false_iff.mpr c7
        subst c7
        have H1 : (if (l0_1.length : Int) > 16777215 then (some 7) else (some 0)) = some r := by rw [if_neg (show ¬ (false = true) by decide)] at H; exact H
        clear H
        have H := H1
        clear H1
        by_cases c8 : (l0_1.length : Int) > 16777215
        · rw [if_pos c8] at H
          have c8b0 : decide (16777215 < (l0_1.length : Int)) = true := decide_eq_true c8
          have c8b1 : decide (16777215 < l0_1.length) = true := decide_eq_true (by omega)
          clear c8
          obtain rfl := Option.some.inj H
          have hcz9_0 : wc.cell? ⟨gb174, 0, none⟩ = some (.int .i64 a0_0) := (blk_cell BK174.out 0).trans rfl
          have hcz9_1 : wc.cell? ⟨gb174, 1, none⟩ = some (.slice A0_1 l0_1.length c0_1) := (blk_cell BK174.out 1).trans rfl
          have hfz9_0 := blk_frozen BK174.out 0
          have hfz9_1 := blk_frozen BK174.out 1
          go_wp2
          go_ret
          exact ⟨by first | rfl | (simp [errW_none, errW_some] <;> rfl) | (simp [*, errW_none, errW_some] <;> rfl), by repeat (first | (with_reducible first | exact HB.out | apply below_alloc | apply pw_below_drewN | apply below_drew1 | refine below_set ?_ GE174.out) | exact HB.out)⟩
        · rw [if_neg c8] at H
          have c8b0 : decide (16777215 < (l0_1.length : Int)) = false := decide_eq_false c8
          have c8b1 : decide (16777215 < l0_1.length) = false := decide_eq_false (by omega)
          clear c8
          obtain rfl := Option.some.inj H
          have hcz10_0 : wc.cell? ⟨gb174, 0, none⟩ = some (.int .i64 a0_0) := (blk_cell BK174.out 0).trans rfl
          have hcz10_1 : wc.cell? ⟨gb174, 1, none⟩ = some (.slice A0_1 l0_1.length c0_1) := (blk_cell BK174.out 1).trans rfl
          have hfz10_0 := blk_frozen BK174.out 0
          have hfz10_1 := blk_frozen BK174.out 1
          go_wp2
          go_ret
          exact ⟨by first | rfl | (simp [errW_none, errW_some] <;> rfl) | (simp [*, errW_none, errW_some] <;> rfl), by repeat (first | (with_reducible first | exact HB.out | apply below_alloc | apply pw_below_drewN | apply below_drew1 | refine below_set ?_ GE174.out) | exact HB.out)⟩

end Go.Proofs.Ytpeejdmbnlhjmaa.PMetaWrites
