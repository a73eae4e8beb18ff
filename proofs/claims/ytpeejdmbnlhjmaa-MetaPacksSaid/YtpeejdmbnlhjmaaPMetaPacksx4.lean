-- written by this session's program wip/reprint.sh (a turned copy of the kit's print): the session's own text
import Derived.Test.YtpeejdmbnlhjmaaPMetaPacksx0
import Derived.Test.YtpeejdmbnlhjmaaPMetaPacksx1
namespace Go.Proofs.Ytpeejdmbnlhjmaa.PMetaPacks
open Go.RowKit Go.Proofs.YtpeejdmbnlhjmaaW.PrintWords Go.Proofs.YtpeejdmbnlhjmaaW.PrintLast Go.Proofs.YtpeejdmbnlhjmaaW.PrintMore Go.Proofs.Ytpeejdmbnlhjmaa.H
attribute [local go_sem] max2_int min2_int max_two min_two max_three min_three max_four min_four   -- for this text's walks alone
set_option linter.unusedVariables false
set_option linter.unusedSimpArgs false

/-! ### serinetteref18_Unpack: function 43 -/
mutual
def serinetteref18_Unpack.l0 : Nat → List Int → List (S24) → Int → Option ((List (S24)) × Int × Int)
  | 0, _, _, _ => none
  | k + 1, x0, x5, x6 => if (wrap64 ((x0.length : Int) - x6)) < 4 then (some (([] : List (S24)), 0, 2)) else (if 0 ≤ x6 then (if x6 < (x0.length : Int) then (if 0 ≤ (wrap64 (x6 + 1)) then (if (wrap64 (x6 + 1)) < (x0.length : Int) then (if 0 ≤ (wrap64 (x6 + 2)) then (if (wrap64 (x6 + 2)) < (x0.length : Int) then (if 0 ≤ (wrap64 (x6 + 3)) then (if (wrap64 (x6 + 3)) < (x0.length : Int) then (if (Int.tmod (wrap64 (rd x0 x6)) 128) = 127 then (some (([] : List (S24)), 0, 8)) else (if (Int.tmod (wrap64 (rd x0 x6)) 128) = 0 then (if (x5.length : Int) > 0 then (serinetteref18_Unpack.j1 k x0 x5 x6 (Int.tmod (wrap64 (rd x0 x6)) 128) (wrap64 ((wrap64 ((wrap64 (65536 * (wrap64 (rd x0 (wrap64 (x6 + 1)))))) + (wrap64 (256 * (wrap64 (rd x0 (wrap64 (x6 + 2)))))))) + (wrap64 (rd x0 (wrap64 (x6 + 3)))))) true) else (serinetteref18_Unpack.j1 k x0 x5 x6 (Int.tmod (wrap64 (rd x0 x6)) 128) (wrap64 ((wrap64 ((wrap64 (65536 * (wrap64 (rd x0 (wrap64 (x6 + 1)))))) + (wrap64 (256 * (wrap64 (rd x0 (wrap64 (x6 + 2)))))))) + (wrap64 (rd x0 (wrap64 (x6 + 3)))))) false)) else (serinetteref18_Unpack.j1 k x0 x5 x6 (Int.tmod (wrap64 (rd x0 x6)) 128) (wrap64 ((wrap64 ((wrap64 (65536 * (wrap64 (rd x0 (wrap64 (x6 + 1)))))) + (wrap64 (256 * (wrap64 (rd x0 (wrap64 (x6 + 2)))))))) + (wrap64 (rd x0 (wrap64 (x6 + 3)))))) ((x5.length : Int) == 0)))) else (none)) else (none)) else (none)) else (none)) else (none)) else (none)) else (none)) else (none))
def serinetteref18_Unpack.j1 : Nat → List Int → List (S24) → Int → Int → Int → Bool → Option ((List (S24)) × Int × Int)
  | 0, _, _, _, _, _, _ => none
  | k + 1, x0, x5, x6, x7, x8, x67 => if x67 = true then (some (([] : List (S24)), 0, 5)) else (if (wrap64 ((wrap64 ((x0.length : Int) - x6)) - 4)) < x8 then (some (([] : List (S24)), 0, 2)) else (if 0 ≤ (wrap64 (x6 + 4)) then (if (wrap64 (x6 + 4)) ≤ (wrap64 ((wrap64 (x6 + 4)) + x8)) then (if (wrap64 ((wrap64 (x6 + 4)) + x8)) ≤ (x0.length : Int) then (if x5.length < 4398046511104 then ((some (x5 ++ [(⟨x7, ((x0.take ((wrap64 ((wrap64 (x6 + 4)) + x8)) : Int).toNat).drop ((wrap64 (x6 + 4)) : Int).toNat)⟩ : S24)] : List (S24))).bind fun y207 => (if 0 ≤ x6 then (if x6 < (x0.length : Int) then (if (rd x0 x6) ≥ 128 then (some (y207, wrap64 ((wrap64 (x6 + 4)) + x8), 0)) else (serinetteref18_Unpack.l0 k x0 y207 (wrap64 ((wrap64 (x6 + 4)) + x8)))) else (none)) else (none))) else (none)) else (none)) else (none)) else (none)))
end
def serinetteref18_Unpack.f (k : Nat) (l0 : List Int) : Option ((List (S24)) × Int × Int) := if (l0.length : Int) < 4 then (some (([] : List (S24)), 0, 2)) else (if 4 ≤ (l0.length : Int) then (if (strOfNums (l0.take 4)).toList = ([102, 76, 97, 67] : List UInt8) then (serinetteref18_Unpack.l0 k l0 ([] : List (S24)) 4) else (some (([] : List (S24)), 0, 9))) else (none))
theorem serinetteref18_Unpack.mono_l : ∀ k, (∀ y0 y1 y2, LeO (serinetteref18_Unpack.l0 k y0 y1 y2) (serinetteref18_Unpack.l0 (k + 1) y0 y1 y2)) ∧ (∀ y0 y1 y2 y3 y4 y5, LeO (serinetteref18_Unpack.j1 k y0 y1 y2 y3 y4 y5) (serinetteref18_Unpack.j1 (k + 1) y0 y1 y2 y3 y4 y5))
  | 0 => ⟨fun _ _ _ r h => by simp [serinetteref18_Unpack.l0] at h, fun _ _ _ _ _ _ r h => by simp [serinetteref18_Unpack.j1] at h⟩
  | k + 1 => by
    obtain ⟨ih0, ih1⟩ := serinetteref18_Unpack.mono_l k
    refine ⟨?_, ?_⟩
    · intro y0 y1 y2
      unfold serinetteref18_Unpack.l0
      repeat' first
      | (with_reducible exact ih0 _ _ _)
      | (with_reducible exact ih1 _ _ _ _ _ _)
      | (with_reducible exact LeO.refl _)
      | (with_reducible exact LeO.none _)
      | (with_reducible refine LeO.ite ?_ ?_)
      | (with_reducible refine LeO.bind ?_ (fun _ => ?_))
      | exact ih0 _ _ _
      | exact ih1 _ _ _ _ _ _
      | exact LeO.none _
      | refine LeO.ite ?_ ?_
      | refine LeO.bind ?_ (fun _ => ?_)
    · intro y0 y1 y2 y3 y4 y5
      unfold serinetteref18_Unpack.j1
      repeat' first
      | (with_reducible exact ih0 _ _ _)
      | (with_reducible exact ih1 _ _ _ _ _ _)
      | (with_reducible exact LeO.refl _)
      | (with_reducible exact LeO.none _)
      | (with_reducible refine LeO.ite ?_ ?_)
      | (with_reducible refine LeO.bind ?_ (fun _ => ?_))
      | exact ih0 _ _ _
      | exact ih1 _ _ _ _ _ _
      | exact LeO.none _
      | refine LeO.ite ?_ ?_
      | refine LeO.bind ?_ (fun _ => ?_)
theorem serinetteref18_Unpack.mono : ∀ a0 k, LeO (serinetteref18_Unpack.f k a0) (serinetteref18_Unpack.f (k + 1) a0) := by
  intro a0 k
  obtain ⟨ih0, ih1⟩ := serinetteref18_Unpack.mono_l k
  unfold serinetteref18_Unpack.f
  repeat' first
      | (with_reducible exact ih0 _ _ _)
      | (with_reducible exact ih1 _ _ _ _ _ _)
      | (with_reducible exact LeO.refl _)
      | (with_reducible exact LeO.none _)
      | (with_reducible refine LeO.ite ?_ ?_)
      | (with_reducible refine LeO.bind ?_ (fun _ => ?_))
      | exact ih0 _ _ _
      | exact ih1 _ _ _ _ _ _
      | exact LeO.none _
      | refine LeO.ite ?_ ?_
      | refine LeO.bind ?_ (fun _ => ?_)
set_option maxHeartbeats 8000000 in
set_option maxRecDepth 100000 in
theorem serinetteref18_Unpack.calls (k : Nat) (P0_ : Nat → Prop) (A0 : Option Addr) (c0 : Nat) (l0 : List Int) (r1 : List (S24)) (r2 : Int) (r3 : Int) (w : World) (hs0 : Kd.V (Kd.int .u8) 5 w w.heap.size (fun k_ => P0_ k_) (.slice A0 l0.length c0) l0) (h : serinetteref18_Unpack.f k l0 = some (r1, r2, r3)) :
    Calls Try.prog 43 #[.slice A0 l0.length c0] w fun e w' => ∃ v0_ : Value, e = .returned (.tuple #[v0_, .int .i64 r2, .int .i64 r3]) ∧ Kd.N k24 24 w' w.heap.size (fun k_ => (P0_ k_ ∨ w.heap.size ≤ k_)) v0_ r1 ∧ Below w.heap.size w w' := by
  have hu24 := Try.underlying24
  have HO0 := Aside0.mk (show Kd.V (Kd.int .u8) 5 w w.heap.size (fun k_ => (P0_ k_ ∨ w.heap.size ≤ k_)) (.slice A0 l0.length c0) l0 from Kd.V_mono hs0 (fun k_ hk => .inl hk))
  have HB := Aside0.mk (Below.refl w.heap.size w)
  have H : (if (l0.length : Int) < 4 then (some (([] : List (S24)), 0, 2)) else (if 4 ≤ (l0.length : Int) then (if (strOfNums (l0.take 4)).toList = ([102, 76, 97, 67] : List UInt8) then (serinetteref18_Unpack.l0 k l0 ([] : List (S24)) 4) else (some (([] : List (S24)), 0, 9))) else (none))) = some (r1, r2, r3) := h
  clear h
  by_cases c2 : (l0.length : Int) < 4
  · rw [if_pos c2] at H
    have c2b0 : decide ((l0.length : Int) < 4) = true := decide_eq_true c2
    have c2b1 : decide (l0.length < 4) = true := decide_eq_true (by omega)
    clear c2
    simp only [Option.some.injEq, Prod.mk.injEq] at H
    obtain ⟨rfl, rfl, rfl⟩ := H
    go_enter Try.func43, Try.ntmps43
    go_wp2
    repeat (go_quiet (fail); try go_wp2)
    go_ret3
    exact ⟨_, by first | rfl | (simp [errW_none, errW_some] <;> rfl) | (simp [*, errW_none, errW_some] <;> rfl), by first | exact Kd.S_nil _ _ _ _ _ | exact Kd.N_nil _ _ _ _ _ | exact Kd.V_nil _ _ _ _ _ | exact Kd.Q_nil _ _ _ _ _ | exact Kd.R_nil _ _ _ _ _, by repeat (first | (with_reducible first | exact HB.out | apply below_alloc | apply pw_below_drewN | apply below_drew1) | exact HB.out)⟩
  · rw [if_neg c2] at H
    have c2b0 : decide ((l0.length : Int) < 4) = false := decide_eq_false c2
    have c2b1 : decide (l0.length < 4) = false := decide_eq_false (by omega)
    clear c2
    by_cases c3 : 4 ≤ (l0.length : Int)
    · rw [if_pos c3] at H
      have c3b0 := eq_true c3
      have c3b1 : decide (4 ≤ (l0.length : Int)) = true := decide_eq_true c3
      clear c3
      obtain ⟨y193, hy193⟩ : ∃ y_ : List Int, y_ = (l0.take 4) := ⟨_, rfl⟩
      replace H : (if (strOfNums y193).toList = ([102, 76, 97, 67] : List UInt8) then (serinetteref18_Unpack.l0 k l0 ([] : List (S24)) 4) else (some (([] : List (S24)), 0, 9))) = some (r1, r2, r3) := by first | (rw [hy193]; with_reducible exact H) | (have H2_ := (Option.bind_some _ _).symm.trans H; rw [hy193]; with_reducible exact H2_) | (have H2_ := (Option.bind_some _ _).symm.trans H; with_reducible exact H2_) | with_reducible exact H | (rw [hy193]; exact H) | exact H
      have Ny193 := Aside0.mk hy193
      clear hy193
      by_cases c4 : (strOfNums y193).toList = ([102, 76, 97, 67] : List UInt8)
      · rw [if_pos c4] at H
        have c4b0 : ((strOfNums y193).toList == ([102, 76, 97, 67] : List UInt8)) = true := beq_iff_eq.mpr c4
        have c4b1 : ((strOfNums y193).toList != ([102, 76, 97, 67] : List UInt8)) = false := bne_eq_false_iff_eq.mpr c4
        clear c4
        have H' := Aside0.mk H
        clear H
        have q5 : (4 : Int) ≤ ((l0.length : Int) : Int) := of_decide_eq_true (by first | (with_reducible assumption) | assumption)
        obtain ⟨i05, hi05, _, hsz5, _⟩ := info_parts info5
        have hroom5 : l0.length ≤ c0 := (Kd.V_reads' HO0.out).2.1
        have hC5 : Kd.F (Kd.int .u8) _ _ A0 l0.length l0 := (Kd.V_at (base := w.heap.size) HO0.out).2.2
        have hcut5 := cut_to (P := Try.prog) 22 5 .i64 Try.underlying22 hi05 A0 l0.length c0 4 (by omega) q5 hroom5
        have hr5 := Kd.F_take (m := 4) hC5 (by omega)
        have hy5 : y193.length = (4 : Int).toNat := (by rw [Ny193.out, List.length_take]; omega)
        rw [← Ny193.out] at hr5
        rw [← hy5] at hcut5
        have HO197 := Aside0.mk (show Kd.V (Kd.int .u8) 5 _ w.heap.size _ (.slice A0 y193.length c0) y193 from Kd.V_mk (by omega) hr5)
        have HC197 := Aside0.mk (show y193.length ≤ c0 from by omega)
        clear hr5 hC5 hroom5 hi05 hsz5
        have KY5 := Aside0.mk hy5
        clear hy5
        replace q5 := eq_true q5
        have hcv6 := V_string (P := Try.prog) Try.underlying22 Try.underlying5 Try.underlying9 (id HO197.out)
        go_enter Try.func43, Try.ntmps43
        go_wp2
        repeat (go_quiet (fail); try go_wp2)
        go_loopg [5, 6] k (fun kq v5 v6 w' => ∃ (x5_1 : List (S24)) (x6_1 : Int), v6 = .int .i64 x6_1 ∧ Aside0 (serinetteref18_Unpack.l0 kq l0 x5_1 x6_1 = some (r1, r2, r3)) ∧ Aside0 (kq ≤ k) ∧ Aside0 (Kd.V (Kd.int .u8) 5 w' w.heap.size (fun k_ => (P0_ k_ ∨ w.heap.size ≤ k_) ∧ some k_ ≠ (v5 : Value).ownBlock) (.slice A0 l0.length c0) l0) ∧ Aside0 (Kd.N k24 24 w' w.heap.size (fun k_ => (P0_ k_ ∨ w.heap.size ≤ k_)) v5 x5_1) ∧ Aside0 (Below w.heap.size w w'))
        case atStart => exact ⟨(([] : List (S24))), (4), (by first | rfl | (simp; done) | (simp [*]; done)), H', ⟨Nat.le_refl _⟩, ⟨by (with_reducible repeat (first | apply Kd.V_alloc | apply Kd.V_drewN | apply Kd.V_drew)); exact Kd.V_mono HO0.out (fun _ hk => ⟨hk, (by simp [Value.ownBlock])⟩)⟩, ⟨by first | exact Kd.S_nil _ _ _ _ _ | exact Kd.N_nil _ _ _ _ _ | exact Kd.V_nil _ _ _ _ _ | exact Kd.Q_nil _ _ _ _ _ | exact Kd.R_nil _ _ _ _ _⟩, ⟨by repeat (first | (with_reducible first | exact HB.out | apply below_alloc | apply pw_below_drewN | apply below_drew1) | exact HB.out)⟩⟩
        case round =>
          clear H'
          try clear c2
          try clear c2b0
          try clear c2b1
          try clear p2
          try clear c3
          try clear c3b0
          try clear c3b1
          try clear c4
          try clear c4b0
          try clear c4b1
          try clear q5
          try clear hcv6
          try clear q5
          obtain ⟨x5_1, x6_1, rfl, HA, HK1, HO_0, HO_5, HB⟩ := hrel
          cases gk with
          | zero => exact absurd HA.out (by simp [serinetteref18_Unpack.l0])
          | succ k1 =>
            have H := HA.out
            clear HA
            simp only [serinetteref18_Unpack.l0] at H
            by_cases c7 : (wrap64 ((l0.length : Int) - x6_1)) < 4
            · rw [if_pos c7] at H
              have c7b0 : decide ((wrap64 ((l0.length : Int) - x6_1)) < 4) = true := decide_eq_true c7
              clear c7
              simp only [Option.some.injEq, Prod.mk.injEq] at H
              obtain ⟨rfl, rfl, rfl⟩ := H
              go_wp2
              repeat (go_quiet (fail); try go_wp2)
              go_ret3
              exact ⟨_, by first | rfl | (simp [errW_none, errW_some] <;> rfl) | (simp [*, errW_none, errW_some] <;> rfl), by first | exact Kd.S_nil _ _ _ _ _ | exact Kd.N_nil _ _ _ _ _ | exact Kd.V_nil _ _ _ _ _ | exact Kd.Q_nil _ _ _ _ _ | exact Kd.R_nil _ _ _ _ _, by repeat (first | (with_reducible first | exact HB.out | apply below_alloc | apply pw_below_drewN | apply below_drew1) | exact HB.out)⟩
            · rw [if_neg c7] at H
              have c7b0 : decide ((wrap64 ((l0.length : Int) - x6_1)) < 4) = false := decide_eq_false c7
              clear c7
              by_cases c8 : 0 ≤ x6_1
              · rw [if_pos c8] at H
                have c8b0 : decide (0 ≤ x6_1) = true := decide_eq_true c8
                clear c8
                by_cases c9 : x6_1 < (l0.length : Int)
                · rw [if_pos c9] at H
                  have c9b0 : decide (x6_1 < (l0.length : Int)) = true := decide_eq_true c9
                  clear c9
                  obtain ⟨ji10, hji10⟩ : ∃ j_ : Int, (wrap64 (x6_1 + 1)) = j_ := ⟨_, rfl⟩
                  replace H : (if 0 ≤ (ji10) then (if (ji10) < (l0.length : Int) then (if 0 ≤ (wrap64 (x6_1 + 2)) then (if (wrap64 (x6_1 + 2)) < (l0.length : Int) then (if 0 ≤ (wrap64 (x6_1 + 3)) then (if (wrap64 (x6_1 + 3)) < (l0.length : Int) then (if (Int.tmod (wrap64 (rd l0 x6_1)) 128) = 127 then (some (([] : List (S24)), 0, 8)) else (if (Int.tmod (wrap64 (rd l0 x6_1)) 128) = 0 then (if (x5_1.length : Int) > 0 then (serinetteref18_Unpack.j1 k1 l0 x5_1 x6_1 (Int.tmod (wrap64 (rd l0 x6_1)) 128) (wrap64 ((wrap64 ((wrap64 (65536 * (wrap64 (rd l0 (ji10))))) + (wrap64 (256 * (wrap64 (rd l0 (wrap64 (x6_1 + 2)))))))) + (wrap64 (rd l0 (wrap64 (x6_1 + 3)))))) true) else (serinetteref18_Unpack.j1 k1 l0 x5_1 x6_1 (Int.tmod (wrap64 (rd l0 x6_1)) 128) (wrap64 ((wrap64 ((wrap64 (65536 * (wrap64 (rd l0 (ji10))))) + (wrap64 (256 * (wrap64 (rd l0 (wrap64 (x6_1 + 2)))))))) + (wrap64 (rd l0 (wrap64 (x6_1 + 3)))))) false)) else (serinetteref18_Unpack.j1 k1 l0 x5_1 x6_1 (Int.tmod (wrap64 (rd l0 x6_1)) 128) (wrap64 ((wrap64 ((wrap64 (65536 * (wrap64 (rd l0 (ji10))))) + (wrap64 (256 * (wrap64 (rd l0 (wrap64 (x6_1 + 2)))))))) + (wrap64 (rd l0 (wrap64 (x6_1 + 3)))))) ((x5_1.length : Int) == 0)))) else (none)) else (none)) else (none)) else (none)) else (none)) else (none)) = some (r1, r2, r3) := by first | (rw [hji10] at H; exact H) | (simp only [hji10] at H ⊢; exact H)
                  have hji10w : (IntKind.i64.wrap (x6_1 + 1)) = ji10 := (i64_w _).trans hji10
                  by_cases c11 : 0 ≤ (ji10)
                  · rw [if_pos c11] at H
                    have c11b0 : decide (0 ≤ (ji10)) = true := decide_eq_true c11
                    clear c11
                    by_cases c12 : (ji10) < (l0.length : Int)
                    · rw [if_pos c12] at H
                      have c12b0 : decide ((ji10) < (l0.length : Int)) = true := decide_eq_true c12
                      clear c12
                      obtain ⟨ji13, hji13⟩ : ∃ j_ : Int, (wrap64 (x6_1 + 2)) = j_ := ⟨_, rfl⟩
                      replace H : (if 0 ≤ (ji13) then (if (ji13) < (l0.length : Int) then (if 0 ≤ (wrap64 (x6_1 + 3)) then (if (wrap64 (x6_1 + 3)) < (l0.length : Int) then (if (Int.tmod (wrap64 (rd l0 x6_1)) 128) = 127 then (some (([] : List (S24)), 0, 8)) else (if (Int.tmod (wrap64 (rd l0 x6_1)) 128) = 0 then (if (x5_1.length : Int) > 0 then (serinetteref18_Unpack.j1 k1 l0 x5_1 x6_1 (Int.tmod (wrap64 (rd l0 x6_1)) 128) (wrap64 ((wrap64 ((wrap64 (65536 * (wrap64 (rd l0 (ji10))))) + (wrap64 (256 * (wrap64 (rd l0 (ji13))))))) + (wrap64 (rd l0 (wrap64 (x6_1 + 3)))))) true) else (serinetteref18_Unpack.j1 k1 l0 x5_1 x6_1 (Int.tmod (wrap64 (rd l0 x6_1)) 128) (wrap64 ((wrap64 ((wrap64 (65536 * (wrap64 (rd l0 (ji10))))) + (wrap64 (256 * (wrap64 (rd l0 (ji13))))))) + (wrap64 (rd l0 (wrap64 (x6_1 + 3)))))) false)) else (serinetteref18_Unpack.j1 k1 l0 x5_1 x6_1 (Int.tmod (wrap64 (rd l0 x6_1)) 128) (wrap64 ((wrap64 ((wrap64 (65536 * (wrap64 (rd l0 (ji10))))) + (wrap64 (256 * (wrap64 (rd l0 (ji13))))))) + (wrap64 (rd l0 (wrap64 (x6_1 + 3)))))) ((x5_1.length : Int) == 0)))) else (none)) else (none)) else (none)) else (none)) = some (r1, r2, r3) := by first | (rw [hji13] at H; exact H) | (simp only [hji13] at H ⊢; exact H)
                      have hji13w : (IntKind.i64.wrap (x6_1 + 2)) = ji13 := (i64_w _).trans hji13
                      by_cases c14 : 0 ≤ (ji13)
                      · rw [if_pos c14] at H
                        have c14b0 : decide (0 ≤ (ji13)) = true := decide_eq_true c14
                        clear c14
                        by_cases c15 : (ji13) < (l0.length : Int)
                        · rw [if_pos c15] at H
                          have c15b0 : decide ((ji13) < (l0.length : Int)) = true := decide_eq_true c15
                          clear c15
                          obtain ⟨ji16, hji16⟩ : ∃ j_ : Int, (wrap64 (x6_1 + 3)) = j_ := ⟨_, rfl⟩
                          replace H : (if 0 ≤ (ji16) then (if (ji16) < (l0.length : Int) then (if (Int.tmod (wrap64 (rd l0 x6_1)) 128) = 127 then (some (([] : List (S24)), 0, 8)) else (if (Int.tmod (wrap64 (rd l0 x6_1)) 128) = 0 then (if (x5_1.length : Int) > 0 then (serinetteref18_Unpack.j1 k1 l0 x5_1 x6_1 (Int.tmod (wrap64 (rd l0 x6_1)) 128) (wrap64 ((wrap64 ((wrap64 (65536 * (wrap64 (rd l0 (ji10))))) + (wrap64 (256 * (wrap64 (rd l0 (ji13))))))) + (wrap64 (rd l0 (ji16))))) true) else (serinetteref18_Unpack.j1 k1 l0 x5_1 x6_1 (Int.tmod (wrap64 (rd l0 x6_1)) 128) (wrap64 ((wrap64 ((wrap64 (65536 * (wrap64 (rd l0 (ji10))))) + (wrap64 (256 * (wrap64 (rd l0 (ji13))))))) + (wrap64 (rd l0 (ji16))))) false)) else (serinetteref18_Unpack.j1 k1 l0 x5_1 x6_1 (Int.tmod (wrap64 (rd l0 x6_1)) 128) (wrap64 ((wrap64 ((wrap64 (65536 * (wrap64 (rd l0 (ji10))))) + (wrap64 (256 * (wrap64 (rd l0 (ji13))))))) + (wrap64 (rd l0 (ji16))))) ((x5_1.length : Int) == 0)))) else (none)) else (none)) = some (r1, r2, r3) := by first | (rw [hji16] at H; exact H) | (simp only [hji16] at H ⊢; exact H)
                          have hji16w : (IntKind.i64.wrap (x6_1 + 3)) = ji16 := (i64_w _).trans hji16
                          by_cases c17 : 0 ≤ (ji16)
                          · rw [if_pos c17] at H
                            have c17b0 : decide (0 ≤ (ji16)) = true := decide_eq_true c17
                            clear c17
                            by_cases c18 : (ji16) < (l0.length : Int)
                            · rw [if_pos c18] at H
                              have c18b0 : decide ((ji16) < (l0.length : Int)) = true := decide_eq_true c18
                              clear c18
                              by_cases c19 : (Int.tmod (wrap64 (rd l0 x6_1)) 128) = 127
                              · rw [if_pos c19] at H
                                have c19b0 : ((Int.tmod (wrap64 (rd l0 x6_1)) 128) == 127) = true := beq_iff_eq.mpr c19
                                have c19b1 : ((Int.tmod (wrap64 (rd l0 x6_1)) 128) != 127) = false := bne_eq_false_iff_eq.mpr c19
                                clear c19
                                simp only [Option.some.injEq, Prod.mk.injEq] at H
                                obtain ⟨rfl, rfl, rfl⟩ := H
                                have p198 : 0 ≤ (x6_1 : Int) := of_decide_eq_true (by first | (with_reducible assumption) | assumption)
                                have q198 : x6_1 < (l0.length : Int) := of_decide_eq_true (by first | (with_reducible assumption) | assumption)
                                obtain ⟨ad198, e198, hx198_0⟩ := Kd.at_int (Kd.V_reads' HO_0.out).2.2 x6_1 p198 q198
                                cases e198
                                replace p198 := eq_true p198
                                replace q198 := eq_true q198
                                have p199 : 0 ≤ ((ji10) : Int) := of_decide_eq_true (by first | (with_reducible assumption) | assumption)
                                have q199 : (ji10) < (l0.length : Int) := of_decide_eq_true (by first | (with_reducible assumption) | assumption)
                                obtain ⟨ad199, e199, hx199_0⟩ := Kd.at_int (Kd.V_reads' HO_0.out).2.2 (ji10) p199 q199
                                obtain rfl : ad198 = ad199 := (by injection e199)
                                replace p199 := eq_true p199
                                replace q199 := eq_true q199
                                have p200 : 0 ≤ ((ji13) : Int) := of_decide_eq_true (by first | (with_reducible assumption) | assumption)
                                have q200 : (ji13) < (l0.length : Int) := of_decide_eq_true (by first | (with_reducible assumption) | assumption)
                                obtain ⟨ad200, e200, hx200_0⟩ := Kd.at_int (Kd.V_reads' HO_0.out).2.2 (ji13) p200 q200
                                obtain rfl : ad198 = ad200 := (by injection e200)
                                replace p200 := eq_true p200
                                replace q200 := eq_true q200
                                have p201 : 0 ≤ ((ji16) : Int) := of_decide_eq_true (by first | (with_reducible assumption) | assumption)
                                have q201 : (ji16) < (l0.length : Int) := of_decide_eq_true (by first | (with_reducible assumption) | assumption)
                                obtain ⟨ad201, e201, hx201_0⟩ := Kd.at_int (Kd.V_reads' HO_0.out).2.2 (ji16) p201 q201
                                obtain rfl : ad198 = ad201 := (by injection e201)
                                replace p201 := eq_true p201
                                replace q201 := eq_true q201
                                go_wp2
                                repeat (go_quiet (fail); try go_wp2)
                                go_ret3
                                exact ⟨_, by first | rfl | (simp [errW_none, errW_some] <;> rfl) | (simp only [← hji10, ← hji13, ← hji16]; first | rfl | (simp [errW_none, errW_some] <;> rfl)) | (simp [*, errW_none, errW_some] <;> rfl), by first | exact Kd.S_nil _ _ _ _ _ | exact Kd.N_nil _ _ _ _ _ | exact Kd.V_nil _ _ _ _ _ | exact Kd.Q_nil _ _ _ _ _ | exact Kd.R_nil _ _ _ _ _, by repeat (first | (with_reducible first | exact HB.out | apply below_alloc | apply pw_below_drewN | apply below_drew1) | exact HB.out)⟩
                              · rw [if_neg c19] at H
                                have c19b0 : ((Int.tmod (wrap64 (rd l0 x6_1)) 128) == 127) = false := beq_eq_false_iff_ne.mpr c19
                                have c19b1 : ((Int.tmod (wrap64 (rd l0 x6_1)) 128) != 127) = true := bne_iff_ne.mpr c19
                                have HC20 := Aside0.mk H
                                clear H
                                have p198 : 0 ≤ (x6_1 : Int) := of_decide_eq_true (by first | (with_reducible assumption) | assumption)
                                have q198 : x6_1 < (l0.length : Int) := of_decide_eq_true (by first | (with_reducible assumption) | assumption)
                                obtain ⟨ad198, e198, hx198_0⟩ := Kd.at_int (Kd.V_reads' HO_0.out).2.2 x6_1 p198 q198
                                cases e198
                                replace p198 := eq_true p198
                                replace q198 := eq_true q198
                                have p199 : 0 ≤ ((ji10) : Int) := of_decide_eq_true (by first | (with_reducible assumption) | assumption)
                                have q199 : (ji10) < (l0.length : Int) := of_decide_eq_true (by first | (with_reducible assumption) | assumption)
                                obtain ⟨ad199, e199, hx199_0⟩ := Kd.at_int (Kd.V_reads' HO_0.out).2.2 (ji10) p199 q199
                                obtain rfl : ad198 = ad199 := (by injection e199)
                                replace p199 := eq_true p199
                                replace q199 := eq_true q199
                                have p200 : 0 ≤ ((ji13) : Int) := of_decide_eq_true (by first | (with_reducible assumption) | assumption)
                                have q200 : (ji13) < (l0.length : Int) := of_decide_eq_true (by first | (with_reducible assumption) | assumption)
                                obtain ⟨ad200, e200, hx200_0⟩ := Kd.at_int (Kd.V_reads' HO_0.out).2.2 (ji13) p200 q200
                                obtain rfl : ad198 = ad200 := (by injection e200)
                                replace p200 := eq_true p200
                                replace q200 := eq_true q200
                                have p201 : 0 ≤ ((ji16) : Int) := of_decide_eq_true (by first | (with_reducible assumption) | assumption)
                                have q201 : (ji16) < (l0.length : Int) := of_decide_eq_true (by first | (with_reducible assumption) | assumption)
                                obtain ⟨ad201, e201, hx201_0⟩ := Kd.at_int (Kd.V_reads' HO_0.out).2.2 (ji16) p201 q201
                                obtain rfl : ad198 = ad201 := (by injection e201)
                                replace p201 := eq_true p201
                                replace q201 := eq_true q201
                                go_upto_region 13 with (fail)
                                repeat (go_quiet (fail); go_upto_region 13 with (fail))
                                go_cut [67] (fun v67 wc => ∃ (kq : Nat) (x67_19 : Bool), v67 = .bool x67_19 ∧ Aside0 (serinetteref18_Unpack.j1 kq l0 x5_1 x6_1 (Int.tmod (wrap64 (rd l0 x6_1)) 128) (wrap64 ((wrap64 ((wrap64 (65536 * (wrap64 (rd l0 (ji10))))) + (wrap64 (256 * (wrap64 (rd l0 (ji13))))))) + (wrap64 (rd l0 (ji16))))) x67_19 = some (r1, r2, r3)) ∧ Aside0 (kq ≤ k1) ∧ Aside0 (Kd.V (Kd.int .u8) 5 wc w.heap.size (fun k_ => (P0_ k_ ∨ w.heap.size ≤ k_) ∧ some k_ ≠ (u5 : Value).ownBlock) (.slice (some ad198) l0.length c0) l0) ∧ Aside0 (Kd.N k24 24 wc w.heap.size (fun k_ => (P0_ k_ ∨ w.heap.size ≤ k_)) u5 x5_1) ∧ Aside0 (Below w.heap.size w wc))
                                case first =>
                                  have H := HC20.out
                                  clear HC20
                                  by_cases c21 : (Int.tmod (wrap64 (rd l0 x6_1)) 128) = 0
                                  · rw [if_pos c21] at H
                                    have c21b0 : ((Int.tmod (wrap64 (rd l0 x6_1)) 128) == 0) = true := beq_iff_eq.mpr c21
                                    have c21b1 : ((Int.tmod (wrap64 (rd l0 x6_1)) 128) != 0) = false := bne_eq_false_iff_eq.mpr c21
                                    clear c21
                                    (first | rw [c21b0] | (simp only [i64_w, i32_w]; rw [c21b0]) | skip)
                                    by_cases c22 : (x5_1.length : Int) > 0
                                    · rw [if_pos c22] at H
                                      have c22b0 : decide (0 < (x5_1.length : Int)) = true := decide_eq_true c22
                                      have c22b1 : decide (0 < x5_1.length) = true := decide_eq_true (by omega)
                                      clear c22
                                      have H' := Aside0.mk H
                                      clear H
                                      obtain ⟨Ao23, co23, eo23⟩ := Kd.N_slice HO_5.out
                                      subst eo23
                                      go_wp2
                                      repeat (go_quiet (fail); try go_wp2)
                                      go_meet
                                      case rel => exact ⟨_, (true), (by first | rfl | (simp; done) | (simp [*]; done)), H', ⟨by have := HK1.out; first | omega | exact Nat.le_refl _⟩, ⟨by (with_reducible repeat (first | apply Kd.V_alloc | apply Kd.V_drewN | apply Kd.V_drew)); exact HO_0.out⟩, ⟨by (with_reducible repeat (first | apply Kd.N_alloc | apply Kd.N_drewN | apply Kd.N_drew)); exact HO_5.out⟩, ⟨by repeat (first | (with_reducible first | exact HB.out | apply below_alloc | apply pw_below_drewN | apply below_drew1) | exact HB.out)⟩⟩
                                    · rw [if_neg c22] at H
                                      have c22b0 : decide (0 < (x5_1.length : Int)) = false := decide_eq_false c22
                                      have c22b1 : decide (0 < x5_1.length) = false := decide_eq_false (by omega)
                                      clear c22
                                      have H' := Aside0.mk H
                                      clear H
                                      obtain ⟨Ao24, co24, eo24⟩ := Kd.N_slice HO_5.out
                                      subst eo24
                                      go_wp2
                                      repeat (go_quiet (fail); try go_wp2)
                                      go_meet
                                      case rel => exact ⟨_, (false), (by first | rfl | (simp; done) | (simp [*]; done)), H', ⟨by have := HK1.out; first | omega | exact Nat.le_refl _⟩, ⟨by (with_reducible repeat (first | apply Kd.V_alloc | apply Kd.V_drewN | apply Kd.V_drew)); exact HO_0.out⟩, ⟨by (with_reducible repeat (first | apply Kd.N_alloc | apply Kd.N_drewN | apply Kd.N_drew)); exact HO_5.out⟩, ⟨by repeat (first | (with_reducible first | exact HB.out | apply below_alloc | apply pw_below_drewN | apply below_drew1) | exact HB.out)⟩⟩
                                  · rw [if_neg c21] at H
                                    have c21b0 : ((Int.tmod (wrap64 (rd l0 x6_1)) 128) == 0) = false := beq_eq_false_iff_ne.mpr c21
                                    have c21b1 : ((Int.tmod (wrap64 (rd l0 x6_1)) 128) != 0) = true := bne_iff_ne.mpr c21
                                    (first | rw [c21b0] | (simp only [i64_w, i32_w]; rw [c21b0]) | skip)
                                    have H' := Aside0.mk H
                                    clear H
                                    obtain ⟨Ao25, co25, eo25⟩ := Kd.N_slice HO_5.out
                                    subst eo25
                                    go_wp2
                                    repeat (go_quiet (fail); try go_wp2)
                                    go_meet
                                    case rel => exact ⟨_, (((x5_1.length : Int) == 0)), (by first | rfl | (simp; done) | (simp [*]; done)), H', ⟨by have := HK1.out; first | omega | exact Nat.le_refl _⟩, ⟨by (with_reducible repeat (first | apply Kd.V_alloc | apply Kd.V_drewN | apply Kd.V_drew)); exact HO_0.out⟩, ⟨by (with_reducible repeat (first | apply Kd.N_alloc | apply Kd.N_drewN | apply Kd.N_drew)); exact HO_5.out⟩, ⟨by repeat (first | (with_reducible first | exact HB.out | apply below_alloc | apply pw_below_drewN | apply below_drew1) | exact HB.out)⟩⟩
                                case rest =>
                                  clear HC20
                                  try clear c1
                                  try clear p1
                                  try clear q1
                                  try clear hx1
                                  try clear c2
                                  try clear c2b0
                                  try clear c2b1
                                  try clear p2
                                  try clear q2
                                  try clear hx2
                                  try clear c3
                                  try clear c3b0
                                  try clear c3b1
                                  try clear c4
                                  try clear c4b0
                                  try clear c4b1
                                  try clear q5
                                  try clear p6
                                  try clear hcv6
                                  try clear c7
                                  try clear c7b0
                                  try clear c8
                                  try clear c8b0
                                  try clear c9
                                  try clear c9b0
                                  try clear c11
                                  try clear c11b0
                                  try clear c12
                                  try clear c12b0
                                  try clear c14
                                  try clear c14b0
                                  try clear c15
                                  try clear c15b0
                                  try clear c17
                                  try clear c17b0
                                  try clear c18
                                  try clear c18b0
                                  try clear c19
                                  try clear c19b0
                                  try clear c19b1
                                  try clear p19
                                  try clear q19
                                  try clear hx19
                                  try clear p20
                                  try clear q20
                                  try clear hx20
                                  try clear c21
                                  try clear c21b0
                                  try clear c21b1
                                  try clear c22
                                  try clear c22b0
                                  try clear c22b1
                                  try clear hx198_0
                                  try clear hx199_0
                                  try clear hx200_0
                                  try clear hx201_0
                                  try clear p198
                                  try clear p199
                                  try clear p2
                                  try clear p200
                                  try clear p201
                                  try clear q198
                                  try clear q199
                                  try clear q200
                                  try clear q201
                                  try clear q5
                                  obtain ⟨kq, x67_19, rfl, HA, HJ19, HO_0, HO_5, HB⟩ := hcut
                                  cases kq with
                                  | zero => exact absurd HA.out (by simp [serinetteref18_Unpack.j1])
                                  | succ kj19 =>
                                    have H := HA.out
                                    clear HA
                                    simp only [serinetteref18_Unpack.j1] at H
                                    by_cases c26 : x67_19 = true
                                    · subst c26
                                      have H1 : (some (([] : List (S24)), 0, 5)) = some (r1, r2, r3) := by rw [if_pos rfl] at H; exact H
                                      clear H
                                      have H := H1
                                      clear H1
                                      simp only [Option.some.injEq, Prod.mk.injEq] at H
                                      obtain ⟨rfl, rfl, rfl⟩ := H
                                      go_wp2
                                      repeat (go_quiet (fail); try go_wp2)
                                      go_ret3
                                      exact ⟨_, by first | rfl | (simp [errW_none, errW_some] <;> rfl) | (simp only [← hji10, ← hji13, ← hji16]; first | rfl | (simp [errW_none, errW_some] <;> rfl)) | (simp [*, errW_none, errW_some] <;> rfl), by first | exact Kd.S_nil _ _ _ _ _ | exact Kd.N_nil _ _ _ _ _ | exact Kd.V_nil _ _ _ _ _ | exact Kd.Q_nil _ _ _ _ _ | exact Kd.R_nil _ _ _ _ _, by repeat (first | (with_reducible first | exact HB.out | apply below_alloc | apply pw_below_drewN | apply below_drew1) | exact HB.out)⟩
                                    · replace c26 := Bool.eq_false_iff.mpr c26
                                      subst c26
                                      have H1 : (if (wrap64 ((wrap64 ((l0.length : Int) - x6_1)) - 4)) < (wrap64 ((wrap64 ((wrap64 (65536 * (wrap64 (rd l0 (ji10))))) + (wrap64 (256 * (wrap64 (rd l0 (ji13))))))) + (wrap64 (rd l0 (ji16))))) then (some (([] : List (S24)), 0, 2)) else (if 0 ≤ (wrap64 (x6_1 + 4)) then (if (wrap64 (x6_1 + 4)) ≤ (wrap64 ((wrap64 (x6_1 + 4)) + (wrap64 ((wrap64 ((wrap64 (65536 * (wrap64 (rd l0 (ji10))))) + (wrap64 (256 * (wrap64 (rd l0 (ji13))))))) + (wrap64 (rd l0 (ji16))))))) then (if (wrap64 ((wrap64 (x6_1 + 4)) + (wrap64 ((wrap64 ((wrap64 (65536 * (wrap64 (rd l0 (ji10))))) + (wrap64 (256 * (wrap64 (rd l0 (ji13))))))) + (wrap64 (rd l0 (ji16))))))) ≤ (l0.length : Int) then (if x5_1.length < 4398046511104 then ((some (x5_1 ++ [(⟨(Int.tmod (wrap64 (rd l0 x6_1)) 128), ((l0.take ((wrap64 ((wrap64 (x6_1 + 4)) + (wrap64 ((wrap64 ((wrap64 (65536 * (wrap64 (rd l0 (ji10))))) + (wrap64 (256 * (wrap64 (rd l0 (ji13))))))) + (wrap64 (rd l0 (ji16))))))) : Int).toNat).drop ((wrap64 (x6_1 + 4)) : Int).toNat)⟩ : S24)] : List (S24))).bind fun y207 => (if 0 ≤ x6_1 then (if x6_1 < (l0.length : Int) then (if (rd l0 x6_1) ≥ 128 then (some (y207, wrap64 ((wrap64 (x6_1 + 4)) + (wrap64 ((wrap64 ((wrap64 (65536 * (wrap64 (rd l0 (ji10))))) + (wrap64 (256 * (wrap64 (rd l0 (ji13))))))) + (wrap64 (rd l0 (ji16)))))), 0)) else (serinetteref18_Unpack.l0 kj19 l0 y207 (wrap64 ((wrap64 (x6_1 + 4)) + (wrap64 ((wrap64 ((wrap64 (65536 * (wrap64 (rd l0 (ji10))))) + (wrap64 (256 * (wrap64 (rd l0 (ji13))))))) + (wrap64 (rd l0 (ji16))))))))) else (none)) else (none))) else (none)) else (none)) else (none)) else (none))) = some (r1, r2, r3) := by rw [if_neg (show ¬ (false = true) by decide)] at H; exact H
                                      clear H
                                      have H := H1
                                      clear H1
                                      by_cases c27 : (wrap64 ((wrap64 ((l0.length : Int) - x6_1)) - 4)) < (wrap64 ((wrap64 ((wrap64 (65536 * (wrap64 (rd l0 (ji10))))) + (wrap64 (256 * (wrap64 (rd l0 (ji13))))))) + (wrap64 (rd l0 (ji16)))))
                                      · rw [if_pos c27] at H
                                        have c27b0 : decide ((wrap64 ((wrap64 ((l0.length : Int) - x6_1)) - 4)) < (wrap64 ((wrap64 ((wrap64 (65536 * (wrap64 (rd l0 (ji10))))) + (wrap64 (256 * (wrap64 (rd l0 (ji13))))))) + (wrap64 (rd l0 (ji16)))))) = true := decide_eq_true c27
                                        clear c27
                                        simp only [Option.some.injEq, Prod.mk.injEq] at H
                                        obtain ⟨rfl, rfl, rfl⟩ := H
                                        go_wp2
                                        repeat (go_quiet (fail); try go_wp2)
                                        go_ret3
                                        exact ⟨_, by first | rfl | (simp [errW_none, errW_some] <;> rfl) | (simp only [← hji10, ← hji13, ← hji16]; first | rfl | (simp [errW_none, errW_some] <;> rfl)) | (simp [*, errW_none, errW_some] <;> rfl), by first | exact Kd.S_nil _ _ _ _ _ | exact Kd.N_nil _ _ _ _ _ | exact Kd.V_nil _ _ _ _ _ | exact Kd.Q_nil _ _ _ _ _ | exact Kd.R_nil _ _ _ _ _, by repeat (first | (with_reducible first | exact HB.out | apply below_alloc | apply pw_below_drewN | apply below_drew1) | exact HB.out)⟩
                                      · rw [if_neg c27] at H
                                        have c27b0 : decide ((wrap64 ((wrap64 ((l0.length : Int) - x6_1)) - 4)) < (wrap64 ((wrap64 ((wrap64 (65536 * (wrap64 (rd l0 (ji10))))) + (wrap64 (256 * (wrap64 (rd l0 (ji13))))))) + (wrap64 (rd l0 (ji16)))))) = false := decide_eq_false c27
                                        clear c27
                                        obtain ⟨ji28, hji28⟩ : ∃ j_ : Int, (wrap64 (x6_1 + 4)) = j_ := ⟨_, rfl⟩
                                        replace H : (if 0 ≤ (ji28) then (if (ji28) ≤ (wrap64 ((ji28) + (wrap64 ((wrap64 ((wrap64 (65536 * (wrap64 (rd l0 (ji10))))) + (wrap64 (256 * (wrap64 (rd l0 (ji13))))))) + (wrap64 (rd l0 (ji16))))))) then (if (wrap64 ((ji28) + (wrap64 ((wrap64 ((wrap64 (65536 * (wrap64 (rd l0 (ji10))))) + (wrap64 (256 * (wrap64 (rd l0 (ji13))))))) + (wrap64 (rd l0 (ji16))))))) ≤ (l0.length : Int) then (if x5_1.length < 4398046511104 then ((some (x5_1 ++ [(⟨(Int.tmod (wrap64 (rd l0 x6_1)) 128), ((l0.take ((wrap64 ((ji28) + (wrap64 ((wrap64 ((wrap64 (65536 * (wrap64 (rd l0 (ji10))))) + (wrap64 (256 * (wrap64 (rd l0 (ji13))))))) + (wrap64 (rd l0 (ji16))))))) : Int).toNat).drop ((ji28) : Int).toNat)⟩ : S24)] : List (S24))).bind fun y207 => (if 0 ≤ x6_1 then (if x6_1 < (l0.length : Int) then (if (rd l0 x6_1) ≥ 128 then (some (y207, wrap64 ((ji28) + (wrap64 ((wrap64 ((wrap64 (65536 * (wrap64 (rd l0 (ji10))))) + (wrap64 (256 * (wrap64 (rd l0 (ji13))))))) + (wrap64 (rd l0 (ji16)))))), 0)) else (serinetteref18_Unpack.l0 kj19 l0 y207 (wrap64 ((ji28) + (wrap64 ((wrap64 ((wrap64 (65536 * (wrap64 (rd l0 (ji10))))) + (wrap64 (256 * (wrap64 (rd l0 (ji13))))))) + (wrap64 (rd l0 (ji16))))))))) else (none)) else (none))) else (none)) else (none)) else (none)) else (none)) = some (r1, r2, r3) := by first | (rw [hji28] at H; exact H) | (simp only [hji28] at H ⊢; exact H)
                                        have hji28w : (IntKind.i64.wrap (x6_1 + 4)) = ji28 := (i64_w _).trans hji28
                                        by_cases c29 : 0 ≤ (ji28)
                                        · rw [if_pos c29] at H
                                          have c29b0 := eq_true c29
                                          have c29b1 : decide (0 ≤ (ji28)) = true := decide_eq_true c29
                                          clear c29
                                          by_cases c30 : (ji28) ≤ (wrap64 ((ji28) + (wrap64 ((wrap64 ((wrap64 (65536 * (wrap64 (rd l0 (ji10))))) + (wrap64 (256 * (wrap64 (rd l0 (ji13))))))) + (wrap64 (rd l0 (ji16)))))))
                                          · rw [if_pos c30] at H
                                            have c30b0 := eq_true c30
                                            have c30b1 : decide ((ji28) ≤ (wrap64 ((ji28) + (wrap64 ((wrap64 ((wrap64 (65536 * (wrap64 (rd l0 (ji10))))) + (wrap64 (256 * (wrap64 (rd l0 (ji13))))))) + (wrap64 (rd l0 (ji16)))))))) = true := decide_eq_true c30
                                            by_cases c31 : (wrap64 ((ji28) + (wrap64 ((wrap64 ((wrap64 (65536 * (wrap64 (rd l0 (ji10))))) + (wrap64 (256 * (wrap64 (rd l0 (ji13))))))) + (wrap64 (rd l0 (ji16))))))) ≤ (l0.length : Int)
                                            · rw [if_pos c31] at H
                                              have c31b0 := eq_true c31
                                              have c31b1 : decide ((wrap64 ((ji28) + (wrap64 ((wrap64 ((wrap64 (65536 * (wrap64 (rd l0 (ji10))))) + (wrap64 (256 * (wrap64 (rd l0 (ji13))))))) + (wrap64 (rd l0 (ji16))))))) ≤ (l0.length : Int)) = true := decide_eq_true c31
                                              obtain ⟨y202, hy202⟩ : ∃ y_ : List Int, y_ = ((l0.take ((wrap64 ((ji28) + (wrap64 ((wrap64 ((wrap64 (65536 * (wrap64 (rd l0 (ji10))))) + (wrap64 (256 * (wrap64 (rd l0 (ji13))))))) + (wrap64 (rd l0 (ji16))))))) : Int).toNat).drop ((ji28) : Int).toNat) := ⟨_, rfl⟩
                                              replace H : (if x5_1.length < 4398046511104 then ((some (x5_1 ++ [(⟨(Int.tmod (wrap64 (rd l0 x6_1)) 128), y202⟩ : S24)] : List (S24))).bind fun y207 => (if 0 ≤ x6_1 then (if x6_1 < (l0.length : Int) then (if (rd l0 x6_1) ≥ 128 then (some (y207, wrap64 ((ji28) + (wrap64 ((wrap64 ((wrap64 (65536 * (wrap64 (rd l0 (ji10))))) + (wrap64 (256 * (wrap64 (rd l0 (ji13))))))) + (wrap64 (rd l0 (ji16)))))), 0)) else (serinetteref18_Unpack.l0 kj19 l0 y207 (wrap64 ((ji28) + (wrap64 ((wrap64 ((wrap64 (65536 * (wrap64 (rd l0 (ji10))))) + (wrap64 (256 * (wrap64 (rd l0 (ji13))))))) + (wrap64 (rd l0 (ji16))))))))) else (none)) else (none))) else (none)) = some (r1, r2, r3) := by first | (rw [hy202]; with_reducible exact H) | (have H2_ := (Option.bind_some _ _).symm.trans H; rw [hy202]; with_reducible exact H2_) | (have H2_ := (Option.bind_some _ _).symm.trans H; with_reducible exact H2_) | with_reducible exact H | (rw [hy202]; exact H) | exact H
                                              have Ny202 := Aside0.mk hy202
                                              clear hy202
                                              by_cases c32 : x5_1.length < 4398046511104
                                              · rw [if_pos c32] at H
                                                have LMc32 := Aside0.mk c32
                                                clear c32
                                                obtain ⟨y207, hy207⟩ : ∃ y_ : List (S24), y_ = (x5_1 ++ [(⟨(Int.tmod (wrap64 (rd l0 x6_1)) 128), y202⟩ : S24)]) := ⟨_, rfl⟩
                                                replace H : (if 0 ≤ x6_1 then (if x6_1 < (l0.length : Int) then (if (rd l0 x6_1) ≥ 128 then (some (y207, wrap64 ((ji28) + (wrap64 ((wrap64 ((wrap64 (65536 * (wrap64 (rd l0 (ji10))))) + (wrap64 (256 * (wrap64 (rd l0 (ji13))))))) + (wrap64 (rd l0 (ji16)))))), 0)) else (serinetteref18_Unpack.l0 kj19 l0 y207 (wrap64 ((ji28) + (wrap64 ((wrap64 ((wrap64 (65536 * (wrap64 (rd l0 (ji10))))) + (wrap64 (256 * (wrap64 (rd l0 (ji13))))))) + (wrap64 (rd l0 (ji16))))))))) else (none)) else (none)) = some (r1, r2, r3) := by first | (rw [hy207]; with_reducible exact H) | (have H2_ := (Option.bind_some _ _).symm.trans H; rw [hy207]; with_reducible exact H2_) | (have H2_ := (Option.bind_some _ _).symm.trans H; with_reducible exact H2_) | with_reducible exact H | (rw [hy207]; exact H) | exact H
                                                have Ny207 := Aside0.mk hy207
                                                clear hy207
                                                by_cases c33 : 0 ≤ x6_1
                                                · rw [if_pos c33] at H
                                                  have c33b0 : decide (0 ≤ x6_1) = true := decide_eq_true c33
                                                  clear c33
                                                  by_cases c34 : x6_1 < (l0.length : Int)
                                                  · rw [if_pos c34] at H
                                                    have c34b0 : decide (x6_1 < (l0.length : Int)) = true := decide_eq_true c34
                                                    clear c34
                                                    by_cases c35 : (rd l0 x6_1) ≥ 128
                                                    · rw [if_pos c35] at H
                                                      have c35b0 : decide (128 ≤ (rd l0 x6_1)) = true := decide_eq_true c35
                                                      clear c35
                                                      simp only [Option.some.injEq, Prod.mk.injEq] at H
                                                      obtain ⟨rfl, rfl, rfl⟩ := H
                                                      have q36 : ((wrap64 ((ji28) + (wrap64 ((wrap64 ((wrap64 (65536 * (wrap64 (rd l0 (ji10))))) + (wrap64 (256 * (wrap64 (rd l0 (ji13))))))) + (wrap64 (rd l0 (ji16))))))) : Int) ≤ ((l0.length : Int) : Int) := of_decide_eq_true (by first | (with_reducible assumption) | assumption)
                                                      obtain ⟨i036, hi036, _, hsz36, _⟩ := info_parts info5
                                                      have hroom36 : l0.length ≤ c0 := (Kd.V_reads' HO_0.out).2.1
                                                      have hC36 : Kd.F (Kd.int .u8) _ _ (some ad198) l0.length l0 := (Kd.V_at (base := w.heap.size) HO_0.out).2.2
                                                      have ql36 : ((ji28) : Int) ≤ ((wrap64 ((ji28) + (wrap64 ((wrap64 ((wrap64 (65536 * (wrap64 (rd l0 (ji10))))) + (wrap64 (256 * (wrap64 (rd l0 (ji13))))))) + (wrap64 (rd l0 (ji16))))))) : Int) := of_decide_eq_true (by first | (with_reducible assumption) | assumption)
                                                      have q036 : (0 : Int) ≤ ((ji28) : Int) := of_decide_eq_true (by first | (with_reducible assumption) | assumption)
                                                      have hcut36 := cut_mid (P := Try.prog) 22 5 .i64 .i64 Try.underlying22 hi036 1 hsz36 (some ad198) l0.length c0 (ji28) (wrap64 ((ji28) + (wrap64 ((wrap64 ((wrap64 (65536 * (wrap64 (rd l0 (ji10))))) + (wrap64 (256 * (wrap64 (rd l0 (ji13))))))) + (wrap64 (rd l0 (ji16))))))) q036 ql36 q36 hroom36
                                                      have hr36 := Kd.F_mid (lo := ((ji28) : Int).toNat) (hi := ((wrap64 ((ji28) + (wrap64 ((wrap64 ((wrap64 (65536 * (wrap64 (rd l0 (ji10))))) + (wrap64 (256 * (wrap64 (rd l0 (ji13))))))) + (wrap64 (rd l0 (ji16))))))) : Int).toNat) (c := c0) hC36 (by omega) (by omega) hroom36
                                                      obtain ⟨A36, hA36⟩ : ∃ A1, A1 = (if c0 = ((ji28) : Int).toNat then (some ad198) else ((some ad198) : Option Addr).map (·.add (((ji28) : Int).toNat * 1))) := ⟨_, rfl⟩
                                                      obtain ⟨c36, hc36⟩ : ∃ c1, c1 = c0 - ((ji28) : Int).toNat := ⟨_, rfl⟩
                                                      have hy36 : y202.length = ((wrap64 ((ji28) + (wrap64 ((wrap64 ((wrap64 (65536 * (wrap64 (rd l0 (ji10))))) + (wrap64 (256 * (wrap64 (rd l0 (ji13))))))) + (wrap64 (rd l0 (ji16))))))) : Int).toNat - ((ji28) : Int).toNat := (by rw [Ny202.out, List.length_drop, List.length_take] <;> omega)
                                                      rw [show ((l0).take ((wrap64 ((ji28) + (wrap64 ((wrap64 ((wrap64 (65536 * (wrap64 (rd l0 (ji10))))) + (wrap64 (256 * (wrap64 (rd l0 (ji13))))))) + (wrap64 (rd l0 (ji16))))))) : Int).toNat).drop ((ji28) : Int).toNat = y202 from Ny202.out.symm] at hr36
                                                      replace hr36 : Kd.F (Kd.int .u8) _ _ A36 y202.length y202 := (by rw [hA36]; exact hr36)
                                                      rw [← hy36, ← hA36, ← hc36] at hcut36
                                                      have HO206 := Aside0.mk (show Kd.V (Kd.int .u8) 5 _ w.heap.size _ (.slice A36 y202.length c36) y202 from Kd.V_mk (by rw [hy36, hc36]; exact Nat.sub_le_sub_right (Nat.le_trans (by omega) hroom36) _) hr36)
                                                      have HC206 := Aside0.mk (show y202.length ≤ c36 from by rw [hy36, hc36]; exact Nat.sub_le_sub_right (Nat.le_trans (by omega) hroom36) _)
                                                      clear hr36 hC36 hroom36 hi036 hsz36 hc36
                                                      have KY36 := Aside0.mk hy36
                                                      have KA36 := Aside0.mk hA36
                                                      clear hy36 hA36
                                                      replace q36 := eq_true q36
                                                      go_wp2_with (first | ((with_reducible refine gate_builtin (b := .append) (xs := #[.tmp 75, .tmp 86]) rfl ?_); (try (refine gate_guard (by rfl) ?_; dsimp only)); at_builtin; refine Kd.N_append k24 (w0 := w) w.heap.size rfl (.tmp 75) (.tmp 86) 67 24 (.agg #[(.int .i64 0), (.slice none 0 0)]) 32 rfl Try.underlying67 info24 rfl (by decide) (by omega) u5 x5_1 (⟨(Int.tmod (wrap64 (rd l0 x6_1)) 128), y202⟩ : S24) [.int .i64 (Int.tmod (wrap64 (rd l0 x6_1)) 128), .slice A36 y202.length c36] (fun k_ => (P0_ k_ ∨ w.heap.size ≤ k_)) (fun k_ => ((fun k_ => (P0_ k_ ∨ w.heap.size ≤ k_))) k_ ∧ some k_ ≠ (u5 : Value).ownBlock) rfl rfl ?aP (fun _ hk => hk) ?aF ?aO ?aB ?aS ?aL ?_; (case aP => exact (k24_mkF _ _ (⟨(Int.tmod (wrap64 (rd l0 x6_1)) 128), y202⟩ : S24) (Kd.V_reads' (Kd.V_mono (ok' := (fun k_ => ((fun k_ => (P0_ k_ ∨ w.heap.size ≤ k_))) k_ ∧ some k_ ≠ (u5 : Value).ownBlock)) (HO206.out) (fun k_ hk => ⟨hk.1, hk.2⟩))).2.1 (Kd.V_F (Kd.V_mono (ok' := (fun k_ => ((fun k_ => (P0_ k_ ∨ w.heap.size ≤ k_))) k_ ∧ some k_ ≠ (u5 : Value).ownBlock)) (HO206.out) (fun k_ hk => ⟨hk.1, hk.2⟩))))); (case aB => exact (by repeat (first | (with_reducible first | exact HB.out | apply below_alloc | apply pw_below_drewN | apply below_drew1) | exact HB.out))); (case aF => exact (fun k_ hk => (.inr (Nat.le_trans (below_size (by repeat (first | (with_reducible first | exact HB.out | apply below_alloc | apply pw_below_drewN | apply below_drew1) | exact HB.out))) hk)))); (case aO => exact (by (with_reducible repeat (first | apply Kd.N_alloc | apply Kd.N_drewN | apply Kd.N_drew)); exact HO_5.out)); (case aS => exact (below_size (by repeat (first | (with_reducible first | exact HB.out | apply below_alloc | apply pw_below_drewN | apply below_drew1) | exact HB.out)))); (case aL => have := LMc32.out; omega); intro v208 w37 ho hb hg hat; rw [← Ny207.out] at ho; have n0_ := Aside0.mk (Kd.V_afterv (ok := (fun k_ => (P0_ k_ ∨ w.heap.size ≤ k_))) (by (with_reducible repeat (first | apply Kd.V_alloc | apply Kd.V_drewN | apply Kd.V_drew)); exact HO_0.out) hg hat); have n1_ := Aside0.mk (Kd.V_afterv (ok := (fun k_ => (P0_ k_ ∨ w.heap.size ≤ k_))) (by (with_reducible repeat (first | apply Kd.V_alloc | apply Kd.V_drewN | apply Kd.V_drew)); exact HO206.out) hg hat); have n2_ := Aside0.mk (hb); have n3_ := Aside0.mk (ho); clear HO_0; clear HO206; clear HB; clear HO_5; have HO_0 := n0_; have HO206 := n1_; have HB := n2_; have HO209 := n3_; clear n0_ n1_ n2_ n3_; clear ho hb hg hat; have p210 : 0 ≤ (x6_1 : Int) := of_decide_eq_true (by first | (with_reducible assumption) | assumption); have q210 : x6_1 < (l0.length : Int) := of_decide_eq_true (by first | (with_reducible assumption) | assumption); obtain ⟨ad210, e210, hx210_0⟩ := Kd.at_int (Kd.V_reads' HO_0.out).2.2 x6_1 p210 q210; obtain rfl : ad198 = ad210 := (by injection e210); replace p210 := eq_true p210; replace q210 := eq_true q210))
                                                      repeat (go_quiet (first | ((with_reducible refine gate_builtin (b := .append) (xs := #[.tmp 75, .tmp 86]) rfl ?_); (try (refine gate_guard (by rfl) ?_; dsimp only)); at_builtin; refine Kd.N_append k24 (w0 := w) w.heap.size rfl (.tmp 75) (.tmp 86) 67 24 (.agg #[(.int .i64 0), (.slice none 0 0)]) 32 rfl Try.underlying67 info24 rfl (by decide) (by omega) u5 x5_1 (⟨(Int.tmod (wrap64 (rd l0 x6_1)) 128), y202⟩ : S24) [.int .i64 (Int.tmod (wrap64 (rd l0 x6_1)) 128), .slice A36 y202.length c36] (fun k_ => (P0_ k_ ∨ w.heap.size ≤ k_)) (fun k_ => ((fun k_ => (P0_ k_ ∨ w.heap.size ≤ k_))) k_ ∧ some k_ ≠ (u5 : Value).ownBlock) rfl rfl ?aP (fun _ hk => hk) ?aF ?aO ?aB ?aS ?aL ?_; (case aP => exact (k24_mkF _ _ (⟨(Int.tmod (wrap64 (rd l0 x6_1)) 128), y202⟩ : S24) (Kd.V_reads' (Kd.V_mono (ok' := (fun k_ => ((fun k_ => (P0_ k_ ∨ w.heap.size ≤ k_))) k_ ∧ some k_ ≠ (u5 : Value).ownBlock)) (HO206.out) (fun k_ hk => ⟨hk.1, hk.2⟩))).2.1 (Kd.V_F (Kd.V_mono (ok' := (fun k_ => ((fun k_ => (P0_ k_ ∨ w.heap.size ≤ k_))) k_ ∧ some k_ ≠ (u5 : Value).ownBlock)) (HO206.out) (fun k_ hk => ⟨hk.1, hk.2⟩))))); (case aB => exact (by repeat (first | (with_reducible first | exact HB.out | apply below_alloc | apply pw_below_drewN | apply below_drew1) | exact HB.out))); (case aF => exact (fun k_ hk => (.inr (Nat.le_trans (below_size (by repeat (first | (with_reducible first | exact HB.out | apply below_alloc | apply pw_below_drewN | apply below_drew1) | exact HB.out))) hk)))); (case aO => exact (by (with_reducible repeat (first | apply Kd.N_alloc | apply Kd.N_drewN | apply Kd.N_drew)); exact HO_5.out)); (case aS => exact (below_size (by repeat (first | (with_reducible first | exact HB.out | apply below_alloc | apply pw_below_drewN | apply below_drew1) | exact HB.out)))); (case aL => have := LMc32.out; omega); intro v208 w37 ho hb hg hat; rw [← Ny207.out] at ho; have n0_ := Aside0.mk (Kd.V_afterv (ok := (fun k_ => (P0_ k_ ∨ w.heap.size ≤ k_))) (by (with_reducible repeat (first | apply Kd.V_alloc | apply Kd.V_drewN | apply Kd.V_drew)); exact HO_0.out) hg hat); have n1_ := Aside0.mk (Kd.V_afterv (ok := (fun k_ => (P0_ k_ ∨ w.heap.size ≤ k_))) (by (with_reducible repeat (first | apply Kd.V_alloc | apply Kd.V_drewN | apply Kd.V_drew)); exact HO206.out) hg hat); have n2_ := Aside0.mk (hb); have n3_ := Aside0.mk (ho); clear HO_0; clear HO206; clear HB; clear HO_5; have HO_0 := n0_; have HO206 := n1_; have HB := n2_; have HO209 := n3_; clear n0_ n1_ n2_ n3_; clear ho hb hg hat; have p210 : 0 ≤ (x6_1 : Int) := of_decide_eq_true (by first | (with_reducible assumption) | assumption); have q210 : x6_1 < (l0.length : Int) := of_decide_eq_true (by first | (with_reducible assumption) | assumption); obtain ⟨ad210, e210, hx210_0⟩ := Kd.at_int (Kd.V_reads' HO_0.out).2.2 x6_1 p210 q210; obtain rfl : ad198 = ad210 := (by injection e210); replace p210 := eq_true p210; replace q210 := eq_true q210)); try go_wp2_with (first | ((with_reducible refine gate_builtin (b := .append) (xs := #[.tmp 75, .tmp 86]) rfl ?_); (try (refine gate_guard (by rfl) ?_; dsimp only)); at_builtin; refine Kd.N_append k24 (w0 := w) w.heap.size rfl (.tmp 75) (.tmp 86) 67 24 (.agg #[(.int .i64 0), (.slice none 0 0)]) 32 rfl Try.underlying67 info24 rfl (by decide) (by omega) u5 x5_1 (⟨(Int.tmod (wrap64 (rd l0 x6_1)) 128), y202⟩ : S24) [.int .i64 (Int.tmod (wrap64 (rd l0 x6_1)) 128), .slice A36 y202.length c36] (fun k_ => (P0_ k_ ∨ w.heap.size ≤ k_)) (fun k_ => ((fun k_ => (P0_ k_ ∨ w.heap.size ≤ k_))) k_ ∧ some k_ ≠ (u5 : Value).ownBlock) rfl rfl ?aP (fun _ hk => hk) ?aF ?aO ?aB ?aS ?aL ?_; (case aP => exact (k24_mkF _ _ (⟨(Int.tmod (wrap64 (rd l0 x6_1)) 128), y202⟩ : S24) (Kd.V_reads' (Kd.V_mono (ok' := (fun k_ => ((fun k_ => (P0_ k_ ∨ w.heap.size ≤ k_))) k_ ∧ some k_ ≠ (u5 : Value).ownBlock)) (HO206.out) (fun k_ hk => ⟨hk.1, hk.2⟩))).2.1 (Kd.V_F (Kd.V_mono (ok' := (fun k_ => ((fun k_ => (P0_ k_ ∨ w.heap.size ≤ k_))) k_ ∧ some k_ ≠ (u5 : Value).ownBlock)) (HO206.out) (fun k_ hk => ⟨hk.1, hk.2⟩))))); (case aB => exact (by repeat (first | (with_reducible first | exact HB.out | apply below_alloc | apply pw_below_drewN | apply below_drew1) | exact HB.out))); (case aF => exact (fun k_ hk => (.inr (Nat.le_trans (below_size (by repeat (first | (with_reducible first | exact HB.out | apply below_alloc | apply pw_below_drewN | apply below_drew1) | exact HB.out))) hk)))); (case aO => exact (by (with_reducible repeat (first | apply Kd.N_alloc | apply Kd.N_drewN | apply Kd.N_drew)); exact HO_5.out)); (case aS => exact (below_size (by repeat (first | (with_reducible first | exact HB.out | apply below_alloc | apply pw_below_drewN | apply below_drew1) | exact HB.out)))); (case aL => have := LMc32.out; omega); intro v208 w37 ho hb hg hat; rw [← Ny207.out] at ho; have n0_ := Aside0.mk (Kd.V_afterv (ok := (fun k_ => (P0_ k_ ∨ w.heap.size ≤ k_))) (by (with_reducible repeat (first | apply Kd.V_alloc | apply Kd.V_drewN | apply Kd.V_drew)); exact HO_0.out) hg hat); have n1_ := Aside0.mk (Kd.V_afterv (ok := (fun k_ => (P0_ k_ ∨ w.heap.size ≤ k_))) (by (with_reducible repeat (first | apply Kd.V_alloc | apply Kd.V_drewN | apply Kd.V_drew)); exact HO206.out) hg hat); have n2_ := Aside0.mk (hb); have n3_ := Aside0.mk (ho); clear HO_0; clear HO206; clear HB; clear HO_5; have HO_0 := n0_; have HO206 := n1_; have HB := n2_; have HO209 := n3_; clear n0_ n1_ n2_ n3_; clear ho hb hg hat; have p210 : 0 ≤ (x6_1 : Int) := of_decide_eq_true (by first | (with_reducible assumption) | assumption); have q210 : x6_1 < (l0.length : Int) := of_decide_eq_true (by first | (with_reducible assumption) | assumption); obtain ⟨ad210, e210, hx210_0⟩ := Kd.at_int (Kd.V_reads' HO_0.out).2.2 x6_1 p210 q210; obtain rfl : ad198 = ad210 := (by injection e210); replace p210 := eq_true p210; replace q210 := eq_true q210)))
                                                      go_ret3
                                                      exact ⟨_, by first | rfl | (simp [errW_none, errW_some] <;> rfl) | (simp only [← hji10, ← hji13, ← hji16, ← hji28]; first | rfl | (simp [errW_none, errW_some] <;> rfl)) | (simp [*, errW_none, errW_some] <;> rfl), by (with_reducible repeat (first | apply Kd.N_alloc | apply Kd.N_drewN | apply Kd.N_drew)); exact HO209.out, by repeat (first | (with_reducible first | exact HB.out | apply below_alloc | apply pw_below_drewN | apply below_drew1) | exact HB.out)⟩
                                                    · rw [if_neg c35] at H
                                                      have c35b0 : decide (128 ≤ (rd l0 x6_1)) = false := decide_eq_false c35
                                                      clear c35
                                                      have H' := Aside0.mk H
                                                      clear H
                                                      have q38 : ((wrap64 ((ji28) + (wrap64 ((wrap64 ((wrap64 (65536 * (wrap64 (rd l0 (ji10))))) + (wrap64 (256 * (wrap64 (rd l0 (ji13))))))) + (wrap64 (rd l0 (ji16))))))) : Int) ≤ ((l0.length : Int) : Int) := of_decide_eq_true (by first | (with_reducible assumption) | assumption)
                                                      obtain ⟨i038, hi038, _, hsz38, _⟩ := info_parts info5
                                                      have hroom38 : l0.length ≤ c0 := (Kd.V_reads' HO_0.out).2.1
                                                      have hC38 : Kd.F (Kd.int .u8) _ _ (some ad198) l0.length l0 := (Kd.V_at (base := w.heap.size) HO_0.out).2.2
                                                      have ql38 : ((ji28) : Int) ≤ ((wrap64 ((ji28) + (wrap64 ((wrap64 ((wrap64 (65536 * (wrap64 (rd l0 (ji10))))) + (wrap64 (256 * (wrap64 (rd l0 (ji13))))))) + (wrap64 (rd l0 (ji16))))))) : Int) := of_decide_eq_true (by first | (with_reducible assumption) | assumption)
                                                      have q038 : (0 : Int) ≤ ((ji28) : Int) := of_decide_eq_true (by first | (with_reducible assumption) | assumption)
                                                      have hcut38 := cut_mid (P := Try.prog) 22 5 .i64 .i64 Try.underlying22 hi038 1 hsz38 (some ad198) l0.length c0 (ji28) (wrap64 ((ji28) + (wrap64 ((wrap64 ((wrap64 (65536 * (wrap64 (rd l0 (ji10))))) + (wrap64 (256 * (wrap64 (rd l0 (ji13))))))) + (wrap64 (rd l0 (ji16))))))) q038 ql38 q38 hroom38
                                                      have hr38 := Kd.F_mid (lo := ((ji28) : Int).toNat) (hi := ((wrap64 ((ji28) + (wrap64 ((wrap64 ((wrap64 (65536 * (wrap64 (rd l0 (ji10))))) + (wrap64 (256 * (wrap64 (rd l0 (ji13))))))) + (wrap64 (rd l0 (ji16))))))) : Int).toNat) (c := c0) hC38 (by omega) (by omega) hroom38
                                                      obtain ⟨A38, hA38⟩ : ∃ A1, A1 = (if c0 = ((ji28) : Int).toNat then (some ad198) else ((some ad198) : Option Addr).map (·.add (((ji28) : Int).toNat * 1))) := ⟨_, rfl⟩
                                                      obtain ⟨c38, hc38⟩ : ∃ c1, c1 = c0 - ((ji28) : Int).toNat := ⟨_, rfl⟩
                                                      have hy38 : y202.length = ((wrap64 ((ji28) + (wrap64 ((wrap64 ((wrap64 (65536 * (wrap64 (rd l0 (ji10))))) + (wrap64 (256 * (wrap64 (rd l0 (ji13))))))) + (wrap64 (rd l0 (ji16))))))) : Int).toNat - ((ji28) : Int).toNat := (by rw [Ny202.out, List.length_drop, List.length_take] <;> omega)
                                                      rw [show ((l0).take ((wrap64 ((ji28) + (wrap64 ((wrap64 ((wrap64 (65536 * (wrap64 (rd l0 (ji10))))) + (wrap64 (256 * (wrap64 (rd l0 (ji13))))))) + (wrap64 (rd l0 (ji16))))))) : Int).toNat).drop ((ji28) : Int).toNat = y202 from Ny202.out.symm] at hr38
                                                      replace hr38 : Kd.F (Kd.int .u8) _ _ A38 y202.length y202 := (by rw [hA38]; exact hr38)
                                                      rw [← hy38, ← hA38, ← hc38] at hcut38
                                                      have HO206 := Aside0.mk (show Kd.V (Kd.int .u8) 5 _ w.heap.size _ (.slice A38 y202.length c38) y202 from Kd.V_mk (by rw [hy38, hc38]; exact Nat.sub_le_sub_right (Nat.le_trans (by omega) hroom38) _) hr38)
                                                      have HC206 := Aside0.mk (show y202.length ≤ c38 from by rw [hy38, hc38]; exact Nat.sub_le_sub_right (Nat.le_trans (by omega) hroom38) _)
                                                      clear hr38 hC38 hroom38 hi038 hsz38 hc38
                                                      have KY38 := Aside0.mk hy38
                                                      have KA38 := Aside0.mk hA38
                                                      clear hy38 hA38
                                                      replace q38 := eq_true q38
                                                      go_wp2_with (first | ((with_reducible refine gate_builtin (b := .append) (xs := #[.tmp 75, .tmp 86]) rfl ?_); (try (refine gate_guard (by rfl) ?_; dsimp only)); at_builtin; refine Kd.N_append k24 (w0 := w) w.heap.size rfl (.tmp 75) (.tmp 86) 67 24 (.agg #[(.int .i64 0), (.slice none 0 0)]) 32 rfl Try.underlying67 info24 rfl (by decide) (by omega) u5 x5_1 (⟨(Int.tmod (wrap64 (rd l0 x6_1)) 128), y202⟩ : S24) [.int .i64 (Int.tmod (wrap64 (rd l0 x6_1)) 128), .slice A38 y202.length c38] (fun k_ => (P0_ k_ ∨ w.heap.size ≤ k_)) (fun k_ => ((fun k_ => (P0_ k_ ∨ w.heap.size ≤ k_))) k_ ∧ some k_ ≠ (u5 : Value).ownBlock) rfl rfl ?aP (fun _ hk => hk) ?aF ?aO ?aB ?aS ?aL ?_; (case aP => exact (k24_mkF _ _ (⟨(Int.tmod (wrap64 (rd l0 x6_1)) 128), y202⟩ : S24) (Kd.V_reads' (Kd.V_mono (ok' := (fun k_ => ((fun k_ => (P0_ k_ ∨ w.heap.size ≤ k_))) k_ ∧ some k_ ≠ (u5 : Value).ownBlock)) (HO206.out) (fun k_ hk => ⟨hk.1, hk.2⟩))).2.1 (Kd.V_F (Kd.V_mono (ok' := (fun k_ => ((fun k_ => (P0_ k_ ∨ w.heap.size ≤ k_))) k_ ∧ some k_ ≠ (u5 : Value).ownBlock)) (HO206.out) (fun k_ hk => ⟨hk.1, hk.2⟩))))); (case aB => exact (by repeat (first | (with_reducible first | exact HB.out | apply below_alloc | apply pw_below_drewN | apply below_drew1) | exact HB.out))); (case aF => exact (fun k_ hk => (.inr (Nat.le_trans (below_size (by repeat (first | (with_reducible first | exact HB.out | apply below_alloc | apply pw_below_drewN | apply below_drew1) | exact HB.out))) hk)))); (case aO => exact (by (with_reducible repeat (first | apply Kd.N_alloc | apply Kd.N_drewN | apply Kd.N_drew)); exact HO_5.out)); (case aS => exact (below_size (by repeat (first | (with_reducible first | exact HB.out | apply below_alloc | apply pw_below_drewN | apply below_drew1) | exact HB.out)))); (case aL => have := LMc32.out; omega); intro v208 w39 ho hb hg hat; rw [← Ny207.out] at ho; have n0_ := Aside0.mk (Kd.V_afterv (ok := (fun k_ => (P0_ k_ ∨ w.heap.size ≤ k_))) (by (with_reducible repeat (first | apply Kd.V_alloc | apply Kd.V_drewN | apply Kd.V_drew)); exact HO_0.out) hg hat); have n1_ := Aside0.mk (Kd.V_afterv (ok := (fun k_ => (P0_ k_ ∨ w.heap.size ≤ k_))) (by (with_reducible repeat (first | apply Kd.V_alloc | apply Kd.V_drewN | apply Kd.V_drew)); exact HO206.out) hg hat); have n2_ := Aside0.mk (hb); have n3_ := Aside0.mk (ho); clear HO_0; clear HO206; clear HB; clear HO_5; have HO_0 := n0_; have HO206 := n1_; have HB := n2_; have HO209 := n3_; clear n0_ n1_ n2_ n3_; clear ho hb hg hat; have p210 : 0 ≤ (x6_1 : Int) := of_decide_eq_true (by first | (with_reducible assumption) | assumption); have q210 : x6_1 < (l0.length : Int) := of_decide_eq_true (by first | (with_reducible assumption) | assumption); obtain ⟨ad210, e210, hx210_0⟩ := Kd.at_int (Kd.V_reads' HO_0.out).2.2 x6_1 p210 q210; obtain rfl : ad198 = ad210 := (by injection e210); replace p210 := eq_true p210; replace q210 := eq_true q210))
                                                      repeat (go_quiet (first | ((with_reducible refine gate_builtin (b := .append) (xs := #[.tmp 75, .tmp 86]) rfl ?_); (try (refine gate_guard (by rfl) ?_; dsimp only)); at_builtin; refine Kd.N_append k24 (w0 := w) w.heap.size rfl (.tmp 75) (.tmp 86) 67 24 (.agg #[(.int .i64 0), (.slice none 0 0)]) 32 rfl Try.underlying67 info24 rfl (by decide) (by omega) u5 x5_1 (⟨(Int.tmod (wrap64 (rd l0 x6_1)) 128), y202⟩ : S24) [.int .i64 (Int.tmod (wrap64 (rd l0 x6_1)) 128), .slice A38 y202.length c38] (fun k_ => (P0_ k_ ∨ w.heap.size ≤ k_)) (fun k_ => ((fun k_ => (P0_ k_ ∨ w.heap.size ≤ k_))) k_ ∧ some k_ ≠ (u5 : Value).ownBlock) rfl rfl ?aP (fun _ hk => hk) ?aF ?aO ?aB ?aS ?aL ?_; (case aP => exact (k24_mkF _ _ (⟨(Int.tmod (wrap64 (rd l0 x6_1)) 128), y202⟩ : S24) (Kd.V_reads' (Kd.V_mono (ok' := (fun k_ => ((fun k_ => (P0_ k_ ∨ w.heap.size ≤ k_))) k_ ∧ some k_ ≠ (u5 : Value).ownBlock)) (HO206.out) (fun k_ hk => ⟨hk.1, hk.2⟩))).2.1 (Kd.V_F (Kd.V_mono (ok' := (fun k_ => ((fun k_ => (P0_ k_ ∨ w.heap.size ≤ k_))) k_ ∧ some k_ ≠ (u5 : Value).ownBlock)) (HO206.out) (fun k_ hk => ⟨hk.1, hk.2⟩))))); (case aB => exact (by repeat (first | (with_reducible first | exact HB.out | apply below_alloc | apply pw_below_drewN | apply below_drew1) | exact HB.out))); (case aF => exact (fun k_ hk => (.inr (Nat.le_trans (below_size (by repeat (first | (with_reducible first | exact HB.out | apply below_alloc | apply pw_below_drewN | apply below_drew1) | exact HB.out))) hk)))); (case aO => exact (by (with_reducible repeat (first | apply Kd.N_alloc | apply Kd.N_drewN | apply Kd.N_drew)); exact HO_5.out)); (case aS => exact (below_size (by repeat (first | (with_reducible first | exact HB.out | apply below_alloc | apply pw_below_drewN | apply below_drew1) | exact HB.out)))); (case aL => have := LMc32.out; omega); intro v208 w39 ho hb hg hat; rw [← Ny207.out] at ho; have n0_ := Aside0.mk (Kd.V_afterv (ok := (fun k_ => (P0_ k_ ∨ w.heap.size ≤ k_))) (by (with_reducible repeat (first | apply Kd.V_alloc | apply Kd.V_drewN | apply Kd.V_drew)); exact HO_0.out) hg hat); have n1_ := Aside0.mk (Kd.V_afterv (ok := (fun k_ => (P0_ k_ ∨ w.heap.size ≤ k_))) (by (with_reducible repeat (first | apply Kd.V_alloc | apply Kd.V_drewN | apply Kd.V_drew)); exact HO206.out) hg hat); have n2_ := Aside0.mk (hb); have n3_ := Aside0.mk (ho); clear HO_0; clear HO206; clear HB; clear HO_5; have HO_0 := n0_; have HO206 := n1_; have HB := n2_; have HO209 := n3_; clear n0_ n1_ n2_ n3_; clear ho hb hg hat; have p210 : 0 ≤ (x6_1 : Int) := of_decide_eq_true (by first | (with_reducible assumption) | assumption); have q210 : x6_1 < (l0.length : Int) := of_decide_eq_true (by first | (with_reducible assumption) | assumption); obtain ⟨ad210, e210, hx210_0⟩ := Kd.at_int (Kd.V_reads' HO_0.out).2.2 x6_1 p210 q210; obtain rfl : ad198 = ad210 := (by injection e210); replace p210 := eq_true p210; replace q210 := eq_true q210)); try go_wp2_with (first | ((with_reducible refine gate_builtin (b := .append) (xs := #[.tmp 75, .tmp 86]) rfl ?_); (try (refine gate_guard (by rfl) ?_; dsimp only)); at_builtin; refine Kd.N_append k24 (w0 := w) w.heap.size rfl (.tmp 75) (.tmp 86) 67 24 (.agg #[(.int .i64 0), (.slice none 0 0)]) 32 rfl Try.underlying67 info24 rfl (by decide) (by omega) u5 x5_1 (⟨(Int.tmod (wrap64 (rd l0 x6_1)) 128), y202⟩ : S24) [.int .i64 (Int.tmod (wrap64 (rd l0 x6_1)) 128), .slice A38 y202.length c38] (fun k_ => (P0_ k_ ∨ w.heap.size ≤ k_)) (fun k_ => ((fun k_ => (P0_ k_ ∨ w.heap.size ≤ k_))) k_ ∧ some k_ ≠ (u5 : Value).ownBlock) rfl rfl ?aP (fun _ hk => hk) ?aF ?aO ?aB ?aS ?aL ?_; (case aP => exact (k24_mkF _ _ (⟨(Int.tmod (wrap64 (rd l0 x6_1)) 128), y202⟩ : S24) (Kd.V_reads' (Kd.V_mono (ok' := (fun k_ => ((fun k_ => (P0_ k_ ∨ w.heap.size ≤ k_))) k_ ∧ some k_ ≠ (u5 : Value).ownBlock)) (HO206.out) (fun k_ hk => ⟨hk.1, hk.2⟩))).2.1 (Kd.V_F (Kd.V_mono (ok' := (fun k_ => ((fun k_ => (P0_ k_ ∨ w.heap.size ≤ k_))) k_ ∧ some k_ ≠ (u5 : Value).ownBlock)) (HO206.out) (fun k_ hk => ⟨hk.1, hk.2⟩))))); (case aB => exact (by repeat (first | (with_reducible first | exact HB.out | apply below_alloc | apply pw_below_drewN | apply below_drew1) | exact HB.out))); (case aF => exact (fun k_ hk => (.inr (Nat.le_trans (below_size (by repeat (first | (with_reducible first | exact HB.out | apply below_alloc | apply pw_below_drewN | apply below_drew1) | exact HB.out))) hk)))); (case aO => exact (by (with_reducible repeat (first | apply Kd.N_alloc | apply Kd.N_drewN | apply Kd.N_drew)); exact HO_5.out)); (case aS => exact (below_size (by repeat (first | (with_reducible first | exact HB.out | apply below_alloc | apply pw_below_drewN | apply below_drew1) | exact HB.out)))); (case aL => have := LMc32.out; omega); intro v208 w39 ho hb hg hat; rw [← Ny207.out] at ho; have n0_ := Aside0.mk (Kd.V_afterv (ok := (fun k_ => (P0_ k_ ∨ w.heap.size ≤ k_))) (by (with_reducible repeat (first | apply Kd.V_alloc | apply Kd.V_drewN | apply Kd.V_drew)); exact HO_0.out) hg hat); have n1_ := Aside0.mk (Kd.V_afterv (ok := (fun k_ => (P0_ k_ ∨ w.heap.size ≤ k_))) (by (with_reducible repeat (first | apply Kd.V_alloc | apply Kd.V_drewN | apply Kd.V_drew)); exact HO206.out) hg hat); have n2_ := Aside0.mk (hb); have n3_ := Aside0.mk (ho); clear HO_0; clear HO206; clear HB; clear HO_5; have HO_0 := n0_; have HO206 := n1_; have HB := n2_; have HO209 := n3_; clear n0_ n1_ n2_ n3_; clear ho hb hg hat; have p210 : 0 ≤ (x6_1 : Int) := of_decide_eq_true (by first | (with_reducible assumption) | assumption); have q210 : x6_1 < (l0.length : Int) := of_decide_eq_true (by first | (with_reducible assumption) | assumption); obtain ⟨ad210, e210, hx210_0⟩ := Kd.at_int (Kd.V_reads' HO_0.out).2.2 x6_1 p210 q210; obtain rfl : ad198 = ad210 := (by injection e210); replace p210 := eq_true p210; replace q210 := eq_true q210)))
                                                      go_roundg kj19
                                                      case measure => have := HK1.out; have := HJ19.out; omega
                                                      case rel => exact ⟨(y207), (wrap64 ((ji28) + (wrap64 ((wrap64 ((wrap64 (65536 * (wrap64 (rd l0 (ji10))))) + (wrap64 (256 * (wrap64 (rd l0 (ji13))))))) + (wrap64 (rd l0 (ji16))))))), (by first | rfl | (simp; done) | (simp only [← hji10, ← hji13, ← hji16, ← hji28] <;> (first | rfl | simp)) | (simp [*]; done)), H', ⟨by have := HK1.out; have := HJ19.out; omega⟩, ⟨by (with_reducible repeat (first | apply Kd.V_alloc | apply Kd.V_drewN | apply Kd.V_drew)); exact HO_0.out⟩, ⟨by (with_reducible repeat (first | apply Kd.N_alloc | apply Kd.N_drewN | apply Kd.N_drew)); exact HO209.out⟩, ⟨by repeat (first | (with_reducible first | exact HB.out | apply below_alloc | apply pw_below_drewN | apply below_drew1) | exact HB.out)⟩⟩
                                                  · rw [if_neg c34] at H
                                                    exact absurd H (by simp)
                                                · rw [if_neg c33] at H
                                                  exact absurd H (by simp)
                                              · rw [if_neg c32] at H
                                                exact absurd H (by simp)
                                            · rw [if_neg c31] at H
                                              exact absurd H (by simp)
                                          · rw [if_neg c30] at H
                                            exact absurd H (by simp)
                                        · rw [if_neg c29] at H
                                          exact absurd H (by simp)
                            · rw [if_neg c18] at H
                              exact absurd H (by simp)
                          · rw [if_neg c17] at H
                            exact absurd H (by simp)
                        · rw [if_neg c15] at H
                          exact absurd H (by simp)
                      · rw [if_neg c14] at H
                        exact absurd H (by simp)
                    · rw [if_neg c12] at H
                      exact absurd H (by simp)
                  · rw [if_neg c11] at H
                    exact absurd H (by simp)
                · rw [if_neg c9] at H
                  exact absurd H (by simp)
              · rw [if_neg c8] at H
                exact absurd H (by simp)
      · rw [if_neg c4] at H
        have c4b0 : ((strOfNums y193).toList == ([102, 76, 97, 67] : List UInt8)) = false := beq_eq_false_iff_ne.mpr c4
        have c4b1 : ((strOfNums y193).toList != ([102, 76, 97, 67] : List UInt8)) = true := bne_iff_ne.mpr c4
        simp only [Option.some.injEq, Prod.mk.injEq] at H
        obtain ⟨rfl, rfl, rfl⟩ := H
        have q40 : (4 : Int) ≤ ((l0.length : Int) : Int) := of_decide_eq_true (by first | (with_reducible assumption) | assumption)
        obtain ⟨i040, hi040, _, hsz40, _⟩ := info_parts info5
        have hroom40 : l0.length ≤ c0 := (Kd.V_reads' HO0.out).2.1
        have hC40 : Kd.F (Kd.int .u8) _ _ A0 l0.length l0 := (Kd.V_at (base := w.heap.size) HO0.out).2.2
        have hcut40 := cut_to (P := Try.prog) 22 5 .i64 Try.underlying22 hi040 A0 l0.length c0 4 (by omega) q40 hroom40
        have hr40 := Kd.F_take (m := 4) hC40 (by omega)
        have hy40 : y193.length = (4 : Int).toNat := (by rw [Ny193.out, List.length_take]; omega)
        rw [← Ny193.out] at hr40
        rw [← hy40] at hcut40
        have HO197 := Aside0.mk (show Kd.V (Kd.int .u8) 5 _ w.heap.size _ (.slice A0 y193.length c0) y193 from Kd.V_mk (by omega) hr40)
        have HC197 := Aside0.mk (show y193.length ≤ c0 from by omega)
        clear hr40 hC40 hroom40 hi040 hsz40
        have KY40 := Aside0.mk hy40
        clear hy40
        replace q40 := eq_true q40
        have hcv41 := V_string (P := Try.prog) Try.underlying22 Try.underlying5 Try.underlying9 (id HO197.out)
        go_enter Try.func43, Try.ntmps43
        go_wp2
        repeat (go_quiet (fail); try go_wp2)
        go_ret3
        exact ⟨_, by first | rfl | (simp [errW_none, errW_some] <;> rfl) | (simp [*, errW_none, errW_some] <;> rfl), by first | exact Kd.S_nil _ _ _ _ _ | exact Kd.N_nil _ _ _ _ _ | exact Kd.V_nil _ _ _ _ _ | exact Kd.Q_nil _ _ _ _ _ | exact Kd.R_nil _ _ _ _ _, by repeat (first | (with_reducible first | exact HB.out | apply below_alloc | apply pw_below_drewN | apply below_drew1) | exact HB.out)⟩
    · rw [if_neg c3] at H
      exact absurd H (by simp)

/-! ### serinetteref18_Metas: function 44 -/
def serinetteref18_Metas.l0 : Nat → List (S24) → List (S24) → Int → Option (Bool)
  | 0, _, _, _ => none
  | k + 1, x0, x1, x5 => if x5 < (x0.length : Int) then (if 0 ≤ x5 then (if x5 < (x1.length : Int) then (if ((rd_T24 x0 x5).f0) = ((rd_T24 x1 x5).f0) then ((serinetteref01_Same.f k ((rd_T24 x0 x5).f1) ((rd_T24 x1 x5).f1)).bind fun t215 => (if t215 = true then (serinetteref18_Metas.l0 k x0 x1 (wrap64 (x5 + 1))) else (some false))) else (some false)) else (none)) else (none)) else (some true)
def serinetteref18_Metas.f (k : Nat) (l0 : List (S24)) (l1 : List (S24)) : Option (Bool) := if (l0.length : Int) = (l1.length : Int) then (serinetteref18_Metas.l0 k l0 l1 0) else (some false)
theorem serinetteref18_Metas.mono_l : ∀ k, (∀ y0 y1 y2, LeO (serinetteref18_Metas.l0 k y0 y1 y2) (serinetteref18_Metas.l0 (k + 1) y0 y1 y2))
  | 0 => fun _ _ _ r h => by simp [serinetteref18_Metas.l0] at h
  | k + 1 => by
    have ih0 := serinetteref18_Metas.mono_l k
    · intro y0 y1 y2
      unfold serinetteref18_Metas.l0
      repeat' first
      | (with_reducible exact ih0 _ _ _)
      | (with_reducible exact serinetteref01_Same.mono _ _ _)
      | (with_reducible exact LeO.refl _)
      | (with_reducible exact LeO.none _)
      | (with_reducible refine LeO.ite ?_ ?_)
      | (with_reducible refine LeO.bind ?_ (fun _ => ?_))
      | exact ih0 _ _ _
      | exact serinetteref01_Same.mono _ _ _
      | exact LeO.none _
      | refine LeO.ite ?_ ?_
      | refine LeO.bind ?_ (fun _ => ?_)
theorem serinetteref18_Metas.mono : ∀ a0 a1 k, LeO (serinetteref18_Metas.f k a0 a1) (serinetteref18_Metas.f (k + 1) a0 a1) := by
  intro a0 a1 k
  have ih0 := serinetteref18_Metas.mono_l k
  unfold serinetteref18_Metas.f
  repeat' first
      | (with_reducible exact ih0 _ _ _)
      | (with_reducible exact serinetteref01_Same.mono _ _ _)
      | (with_reducible exact LeO.refl _)
      | (with_reducible exact LeO.none _)
      | (with_reducible refine LeO.ite ?_ ?_)
      | (with_reducible refine LeO.bind ?_ (fun _ => ?_))
      | exact ih0 _ _ _
      | exact serinetteref01_Same.mono _ _ _
      | exact LeO.none _
      | refine LeO.ite ?_ ?_
      | refine LeO.bind ?_ (fun _ => ?_)
set_option maxHeartbeats 8000000 in
set_option maxRecDepth 100000 in
theorem serinetteref18_Metas.calls (k : Nat) (A0 : Option Addr) (c0 : Nat) (l0 : List (S24)) (A1 : Option Addr) (c1 : Nat) (l1 : List (S24)) (r : Bool) (w : World) (hr0 : Kd.C k24 w A0 l0.length l0) (hc0 : l0.length ≤ c0) (hr1 : Kd.C k24 w A1 l1.length l1) (hc1 : l1.length ≤ c1) (h : serinetteref18_Metas.f k l0 l1 = some r) :
    Calls Try.prog 44 #[.slice A0 l0.length c0, .slice A1 l1.length c1] w fun e w' => e = .returned (.bool r) ∧ Drawn0 w w' := by
  have HR0 := Aside0.mk hr0
  have HC0 := Aside0.mk hc0
  clear hr0 hc0
  have HR1 := Aside0.mk hr1
  have HC1 := Aside0.mk hc1
  clear hr1 hc1
  have H : (if (l0.length : Int) = (l1.length : Int) then (serinetteref18_Metas.l0 k l0 l1 0) else (some false)) = some r := h
  clear h
  by_cases c3 : (l0.length : Int) = (l1.length : Int)
  · rw [if_pos c3] at H
    have c3b0 : ((l0.length : Int) == (l1.length : Int)) = true := beq_iff_eq.mpr c3
    have c3b1 : ((l0.length : Int) != (l1.length : Int)) = false := bne_eq_false_iff_eq.mpr c3
    have c3b2 : (l0.length == l1.length) = true := by first | simpa using c3 | (simp at c3 ⊢; omega)
    clear c3
    have H' := Aside0.mk H
    clear H
    go_enter Try.func44, Try.ntmps44
    go_wp2
    repeat (go_quiet (fail); try go_wp2)
    go_loopg [5] k (fun kq v5 w' => ∃ (x5_1 : Int), v5 = .int .i64 x5_1 ∧ Aside0 (serinetteref18_Metas.l0 kq l0 l1 x5_1 = some r) ∧ Aside0 (kq ≤ k) ∧ Drawn0 w w')
    case atStart => exact ⟨(0), (by first | rfl | (simp; done) | (simp [*]; done)), H', ⟨Nat.le_refl _⟩, by repeat (first | exact Drawn0.refl _ | apply Drawn0.step)⟩
    case round =>
      clear H'
      try clear c1
      try clear p2
      try clear c3
      try clear c3b0
      try clear c3b1
      try clear c3b2
      obtain ⟨x5_1, rfl, HA, HK1, ⟨m1, rfl⟩⟩ := hrel
      cases gk with
      | zero => exact absurd HA.out (by simp [serinetteref18_Metas.l0])
      | succ k1 =>
        have H := HA.out
        clear HA
        simp only [serinetteref18_Metas.l0] at H
        by_cases c4 : x5_1 < (l0.length : Int)
        · rw [if_pos c4] at H
          have c4b0 : decide (x5_1 < (l0.length : Int)) = true := decide_eq_true c4
          clear c4
          by_cases c5 : 0 ≤ x5_1
          · rw [if_pos c5] at H
            have c5b0 : decide (0 ≤ x5_1) = true := decide_eq_true c5
            clear c5
            by_cases c6 : x5_1 < (l1.length : Int)
            · rw [if_pos c6] at H
              have c6b0 : decide (x5_1 < (l1.length : Int)) = true := decide_eq_true c6
              clear c6
              by_cases c7 : ((rd_T24 l0 x5_1).f0) = ((rd_T24 l1 x5_1).f0)
              · rw [if_pos c7] at H
                have c7b0 : (((rd_T24 l0 x5_1).f0) == ((rd_T24 l1 x5_1).f0)) = true := beq_iff_eq.mpr c7
                have c7b1 : (((rd_T24 l0 x5_1).f0) != ((rd_T24 l1 x5_1).f0)) = false := bne_eq_false_iff_eq.mpr c7
                clear c7
                replace H := Option.bind_eq_some_iff.mp H
                obtain ⟨t215, A80, H⟩ := H
                replace H : (if t215 = true then (serinetteref18_Metas.l0 k1 l0 l1 (wrap64 (x5_1 + 1))) else (some false)) = some r := H
                have A8 := Aside0.mk A80
                clear A80
                by_cases c9 : t215 = true
                · subst c9
                  have H1 : (serinetteref18_Metas.l0 k1 l0 l1 (wrap64 (x5_1 + 1))) = some r := by rw [if_pos rfl] at H; exact H
                  clear H
                  have H := H1
                  clear H1
                  have H' := Aside0.mk H
                  clear H
                  have p211 : 0 ≤ (x5_1 : Int) := of_decide_eq_true (by first | (with_reducible assumption) | assumption)
                  have q211 : x5_1 < (l0.length : Int) := of_decide_eq_true (by first | (with_reducible assumption) | assumption)
                  obtain ⟨ad211, A211_1, c211_1, e211, hx211_0, hx211_1, hl211_1, hi211_1⟩ := at_T24 HR0.out x5_1 p211 q211
                  cases e211
                  have HR211_1 := Aside0.mk hi211_1
                  have HC211_1 := Aside0.mk hl211_1
                  clear hi211_1 hl211_1
                  replace p211 := eq_true p211
                  replace q211 := eq_true q211
                  have p212 : 0 ≤ (x5_1 : Int) := of_decide_eq_true (by first | (with_reducible assumption) | assumption)
                  have q212 : x5_1 < (l1.length : Int) := of_decide_eq_true (by first | (with_reducible assumption) | assumption)
                  obtain ⟨ad212, A212_1, c212_1, e212, hx212_0, hx212_1, hl212_1, hi212_1⟩ := at_T24 HR1.out x5_1 p212 q212
                  cases e212
                  have HR212_1 := Aside0.mk hi212_1
                  have HC212_1 := Aside0.mk hl212_1
                  clear hi212_1 hl212_1
                  replace p212 := eq_true p212
                  replace q212 := eq_true q212
                  have p213 : 0 ≤ (x5_1 : Int) := of_decide_eq_true (by first | (with_reducible assumption) | assumption)
                  have q213 : x5_1 < (l0.length : Int) := of_decide_eq_true (by first | (with_reducible assumption) | assumption)
                  obtain ⟨ad213, A213_1, c213_1, e213, hx213_0, hx213_1, hl213_1, hi213_1⟩ := at_T24 HR0.out x5_1 p213 q213
                  obtain rfl : ad211 = ad213 := (by injection e213)
                  have HR213_1 := Aside0.mk hi213_1
                  have HC213_1 := Aside0.mk hl213_1
                  clear hi213_1 hl213_1
                  replace p213 := eq_true p213
                  replace q213 := eq_true q213
                  have ea_ := Option.some.inj (hx211_1.symm.trans hx213_1)
                  injection ea_ with ea_ en_ ec_
                  subst ea_
                  subst ec_
                  clear en_
                  have p214 : 0 ≤ (x5_1 : Int) := of_decide_eq_true (by first | (with_reducible assumption) | assumption)
                  have q214 : x5_1 < (l1.length : Int) := of_decide_eq_true (by first | (with_reducible assumption) | assumption)
                  obtain ⟨ad214, A214_1, c214_1, e214, hx214_0, hx214_1, hl214_1, hi214_1⟩ := at_T24 HR1.out x5_1 p214 q214
                  obtain rfl : ad212 = ad214 := (by injection e214)
                  have HR214_1 := Aside0.mk hi214_1
                  have HC214_1 := Aside0.mk hl214_1
                  clear hi214_1 hl214_1
                  replace p214 := eq_true p214
                  replace q214 := eq_true q214
                  have ea_ := Option.some.inj (hx212_1.symm.trans hx214_1)
                  injection ea_ with ea_ en_ ec_
                  subst ea_
                  subst ec_
                  clear en_
                  go_wp2_with (first | (go_at_call 21; (with_reducible refine (serinetteref01_Same.calls k1 _ _ ((rd_T24 l0 x5_1).f1) _ _ ((rd_T24 l1 x5_1).f1) true _ ?side1 ?side2 ?side3 ?side4 A8.out).mono ?_); (case side1 => repeat (first | exact HR213_1.out | (with_reducible refine Kd.C_alloc ?_ _) | (with_reducible refine Kd.C_drewN ?_ _) | (with_reducible refine Kd.C_drew ?_))); (case side2 => exact HC213_1.out); (case side3 => repeat (first | exact HR214_1.out | (with_reducible refine Kd.C_alloc ?_ _) | (with_reducible refine Kd.C_drewN ?_ _) | (with_reducible refine Kd.C_drew ?_))); (case side4 => exact HC214_1.out); rintro e w' ⟨rfl, ⟨nd, rfl⟩⟩; (try first | exact ⟨rfl, _, World.drewN_drewN _ _ _⟩ | exact ⟨rfl, _, Eq.trans (World.drewN_drewN _ _ _) (congrArg (World.drewN _) (Nat.add_assoc _ _ _))⟩)))
                  repeat (go_quiet (first | (go_at_call 21; (with_reducible refine (serinetteref01_Same.calls k1 _ _ ((rd_T24 l0 x5_1).f1) _ _ ((rd_T24 l1 x5_1).f1) true _ ?side1 ?side2 ?side3 ?side4 A8.out).mono ?_); (case side1 => repeat (first | exact HR213_1.out | (with_reducible refine Kd.C_alloc ?_ _) | (with_reducible refine Kd.C_drewN ?_ _) | (with_reducible refine Kd.C_drew ?_))); (case side2 => exact HC213_1.out); (case side3 => repeat (first | exact HR214_1.out | (with_reducible refine Kd.C_alloc ?_ _) | (with_reducible refine Kd.C_drewN ?_ _) | (with_reducible refine Kd.C_drew ?_))); (case side4 => exact HC214_1.out); rintro e w' ⟨rfl, ⟨nd, rfl⟩⟩; (try first | exact ⟨rfl, _, World.drewN_drewN _ _ _⟩ | exact ⟨rfl, _, Eq.trans (World.drewN_drewN _ _ _) (congrArg (World.drewN _) (Nat.add_assoc _ _ _))⟩))); try go_wp2_with (first | (go_at_call 21; (with_reducible refine (serinetteref01_Same.calls k1 _ _ ((rd_T24 l0 x5_1).f1) _ _ ((rd_T24 l1 x5_1).f1) true _ ?side1 ?side2 ?side3 ?side4 A8.out).mono ?_); (case side1 => repeat (first | exact HR213_1.out | (with_reducible refine Kd.C_alloc ?_ _) | (with_reducible refine Kd.C_drewN ?_ _) | (with_reducible refine Kd.C_drew ?_))); (case side2 => exact HC213_1.out); (case side3 => repeat (first | exact HR214_1.out | (with_reducible refine Kd.C_alloc ?_ _) | (with_reducible refine Kd.C_drewN ?_ _) | (with_reducible refine Kd.C_drew ?_))); (case side4 => exact HC214_1.out); rintro e w' ⟨rfl, ⟨nd, rfl⟩⟩; (try first | exact ⟨rfl, _, World.drewN_drewN _ _ _⟩ | exact ⟨rfl, _, Eq.trans (World.drewN_drewN _ _ _) (congrArg (World.drewN _) (Nat.add_assoc _ _ _))⟩))))
                  go_roundg k1
                  case measure => have := HK1.out; omega
                  case rel => exact ⟨(wrap64 (x5_1 + 1)), (by first | rfl | (simp; done) | (simp [*]; done)), H', ⟨by have := HK1.out; omega⟩, by repeat (first | exact Drawn0.refl _ | apply Drawn0.step)⟩
                · replace c9 := Bool.eq_false_iff.mpr c9
                  subst c9
                  have H1 : (some false) = some r := by rw [if_neg (show ¬ (false = true) by decide)] at H; exact H
                  clear H
                  have H := H1
                  clear H1
                  obtain rfl := Option.some.inj H
                  have p211 : 0 ≤ (x5_1 : Int) := of_decide_eq_true (by first | (with_reducible assumption) | assumption)
                  have q211 : x5_1 < (l0.length : Int) := of_decide_eq_true (by first | (with_reducible assumption) | assumption)
                  obtain ⟨ad211, A211_1, c211_1, e211, hx211_0, hx211_1, hl211_1, hi211_1⟩ := at_T24 HR0.out x5_1 p211 q211
                  cases e211
                  have HR211_1 := Aside0.mk hi211_1
                  have HC211_1 := Aside0.mk hl211_1
                  clear hi211_1 hl211_1
                  replace p211 := eq_true p211
                  replace q211 := eq_true q211
                  have p212 : 0 ≤ (x5_1 : Int) := of_decide_eq_true (by first | (with_reducible assumption) | assumption)
                  have q212 : x5_1 < (l1.length : Int) := of_decide_eq_true (by first | (with_reducible assumption) | assumption)
                  obtain ⟨ad212, A212_1, c212_1, e212, hx212_0, hx212_1, hl212_1, hi212_1⟩ := at_T24 HR1.out x5_1 p212 q212
                  cases e212
                  have HR212_1 := Aside0.mk hi212_1
                  have HC212_1 := Aside0.mk hl212_1
                  clear hi212_1 hl212_1
                  replace p212 := eq_true p212
                  replace q212 := eq_true q212
                  have p213 : 0 ≤ (x5_1 : Int) := of_decide_eq_true (by first | (with_reducible assumption) | assumption)
                  have q213 : x5_1 < (l0.length : Int) := of_decide_eq_true (by first | (with_reducible assumption) | assumption)
                  obtain ⟨ad213, A213_1, c213_1, e213, hx213_0, hx213_1, hl213_1, hi213_1⟩ := at_T24 HR0.out x5_1 p213 q213
                  obtain rfl : ad211 = ad213 := (by injection e213)
                  have HR213_1 := Aside0.mk hi213_1
                  have HC213_1 := Aside0.mk hl213_1
                  clear hi213_1 hl213_1
                  replace p213 := eq_true p213
                  replace q213 := eq_true q213
                  have ea_ := Option.some.inj (hx211_1.symm.trans hx213_1)
                  injection ea_ with ea_ en_ ec_
                  subst ea_
                  subst ec_
                  clear en_
                  have p214 : 0 ≤ (x5_1 : Int) := of_decide_eq_true (by first | (with_reducible assumption) | assumption)
                  have q214 : x5_1 < (l1.length : Int) := of_decide_eq_true (by first | (with_reducible assumption) | assumption)
                  obtain ⟨ad214, A214_1, c214_1, e214, hx214_0, hx214_1, hl214_1, hi214_1⟩ := at_T24 HR1.out x5_1 p214 q214
                  obtain rfl : ad212 = ad214 := (by injection e214)
                  have HR214_1 := Aside0.mk hi214_1
                  have HC214_1 := Aside0.mk hl214_1
                  clear hi214_1 hl214_1
                  replace p214 := eq_true p214
                  replace q214 := eq_true q214
                  have ea_ := Option.some.inj (hx212_1.symm.trans hx214_1)
                  injection ea_ with ea_ en_ ec_
                  subst ea_
                  subst ec_
                  clear en_
                  go_wp2_with (first | (go_at_call 21; (with_reducible refine (serinetteref01_Same.calls k1 _ _ ((rd_T24 l0 x5_1).f1) _ _ ((rd_T24 l1 x5_1).f1) false _ ?side1 ?side2 ?side3 ?side4 A8.out).mono ?_); (case side1 => repeat (first | exact HR213_1.out | (with_reducible refine Kd.C_alloc ?_ _) | (with_reducible refine Kd.C_drewN ?_ _) | (with_reducible refine Kd.C_drew ?_))); (case side2 => exact HC213_1.out); (case side3 => repeat (first | exact HR214_1.out | (with_reducible refine Kd.C_alloc ?_ _) | (with_reducible refine Kd.C_drewN ?_ _) | (with_reducible refine Kd.C_drew ?_))); (case side4 => exact HC214_1.out); rintro e w' ⟨rfl, ⟨nd, rfl⟩⟩; (try first | exact ⟨rfl, _, World.drewN_drewN _ _ _⟩ | exact ⟨rfl, _, Eq.trans (World.drewN_drewN _ _ _) (congrArg (World.drewN _) (Nat.add_assoc _ _ _))⟩)))
                  repeat (go_quiet (first | (go_at_call 21; (with_reducible refine (serinetteref01_Same.calls k1 _ _ ((rd_T24 l0 x5_1).f1) _ _ ((rd_T24 l1 x5_1).f1) false _ ?side1 ?side2 ?side3 ?side4 A8.out).mono ?_); (case side1 => repeat (first | exact HR213_1.out | (with_reducible refine Kd.C_alloc ?_ _) | (with_reducible refine Kd.C_drewN ?_ _) | (with_reducible refine Kd.C_drew ?_))); (case side2 => exact HC213_1.out); (case side3 => repeat (first | exact HR214_1.out | (with_reducible refine Kd.C_alloc ?_ _) | (with_reducible refine Kd.C_drewN ?_ _) | (with_reducible refine Kd.C_drew ?_))); (case side4 => exact HC214_1.out); rintro e w' ⟨rfl, ⟨nd, rfl⟩⟩; (try first | exact ⟨rfl, _, World.drewN_drewN _ _ _⟩ | exact ⟨rfl, _, Eq.trans (World.drewN_drewN _ _ _) (congrArg (World.drewN _) (Nat.add_assoc _ _ _))⟩))); try go_wp2_with (first | (go_at_call 21; (with_reducible refine (serinetteref01_Same.calls k1 _ _ ((rd_T24 l0 x5_1).f1) _ _ ((rd_T24 l1 x5_1).f1) false _ ?side1 ?side2 ?side3 ?side4 A8.out).mono ?_); (case side1 => repeat (first | exact HR213_1.out | (with_reducible refine Kd.C_alloc ?_ _) | (with_reducible refine Kd.C_drewN ?_ _) | (with_reducible refine Kd.C_drew ?_))); (case side2 => exact HC213_1.out); (case side3 => repeat (first | exact HR214_1.out | (with_reducible refine Kd.C_alloc ?_ _) | (with_reducible refine Kd.C_drewN ?_ _) | (with_reducible refine Kd.C_drew ?_))); (case side4 => exact HC214_1.out); rintro e w' ⟨rfl, ⟨nd, rfl⟩⟩; (try first | exact ⟨rfl, _, World.drewN_drewN _ _ _⟩ | exact ⟨rfl, _, Eq.trans (World.drewN_drewN _ _ _) (congrArg (World.drewN _) (Nat.add_assoc _ _ _))⟩))))
                  go_ret
                  exact ⟨by first | rfl | (simp; done) | (simp [*]; done), by repeat (first | exact Drawn0.refl _ | apply Drawn0.step)⟩
              · rw [if_neg c7] at H
                have c7b0 : (((rd_T24 l0 x5_1).f0) == ((rd_T24 l1 x5_1).f0)) = false := beq_eq_false_iff_ne.mpr c7
                have c7b1 : (((rd_T24 l0 x5_1).f0) != ((rd_T24 l1 x5_1).f0)) = true := bne_iff_ne.mpr c7
                obtain rfl := Option.some.inj H
                have p211 : 0 ≤ (x5_1 : Int) := of_decide_eq_true (by first | (with_reducible assumption) | assumption)
                have q211 : x5_1 < (l0.length : Int) := of_decide_eq_true (by first | (with_reducible assumption) | assumption)
                obtain ⟨ad211, A211_1, c211_1, e211, hx211_0, hx211_1, hl211_1, hi211_1⟩ := at_T24 HR0.out x5_1 p211 q211
                cases e211
                have HR211_1 := Aside0.mk hi211_1
                have HC211_1 := Aside0.mk hl211_1
                clear hi211_1 hl211_1
                replace p211 := eq_true p211
                replace q211 := eq_true q211
                have p212 : 0 ≤ (x5_1 : Int) := of_decide_eq_true (by first | (with_reducible assumption) | assumption)
                have q212 : x5_1 < (l1.length : Int) := of_decide_eq_true (by first | (with_reducible assumption) | assumption)
                obtain ⟨ad212, A212_1, c212_1, e212, hx212_0, hx212_1, hl212_1, hi212_1⟩ := at_T24 HR1.out x5_1 p212 q212
                cases e212
                have HR212_1 := Aside0.mk hi212_1
                have HC212_1 := Aside0.mk hl212_1
                clear hi212_1 hl212_1
                replace p212 := eq_true p212
                replace q212 := eq_true q212
                go_wp2
                repeat (go_quiet (fail); try go_wp2)
                go_ret
                exact ⟨by first | rfl | (simp; done) | (simp [*]; done), by repeat (first | exact Drawn0.refl _ | apply Drawn0.step)⟩
            · rw [if_neg c6] at H
              exact absurd H (by simp)
          · rw [if_neg c5] at H
            exact absurd H (by simp)
        · rw [if_neg c4] at H
          have c4b0 : decide (x5_1 < (l0.length : Int)) = false := decide_eq_false c4
          clear c4
          obtain rfl := Option.some.inj H
          go_wp2
          repeat (go_quiet (fail); try go_wp2)
          go_ret
          exact ⟨by first | rfl | (simp; done) | (simp [*]; done), by repeat (first | exact Drawn0.refl _ | apply Drawn0.step)⟩
  · rw [if_neg c3] at H
    have c3b0 : ((l0.length : Int) == (l1.length : Int)) = false := beq_eq_false_iff_ne.mpr c3
    have c3b1 : ((l0.length : Int) != (l1.length : Int)) = true := bne_iff_ne.mpr c3
    have c3b2 : (l0.length == l1.length) = false := by first | simpa using c3 | (simp at c3 ⊢; omega)
    obtain rfl := Option.some.inj H
    go_enter Try.func44, Try.ntmps44
    go_wp2
    repeat (go_quiet (fail); try go_wp2)
    go_ret
    exact ⟨by first | rfl | (simp; done) | (simp [*]; done), by repeat (first | exact Drawn0.refl _ | apply Drawn0.step)⟩

end Go.Proofs.Ytpeejdmbnlhjmaa.PMetaPacks
