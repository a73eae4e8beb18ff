/- The statement SubframeWastes's own function as a plain one, with the proof that the program's call comes to it. For any arguments. -/
import Derived.Test.YtpeejdmbnlhjmaaPSubframeWastesx1
import Derived.Outline
import Derived.Deep.RegionLaw
namespace Go.Proofs.Ytpeejdmbnlhjmaa.PSubframeWastes
open Go.RowKit Go.Proofs.YtpeejdmbnlhjmaaW.PrintWords Go.Proofs.YtpeejdmbnlhjmaaW.PrintLast Go.Proofs.YtpeejdmbnlhjmaaW.PrintMore Go.Proofs.Ytpeejdmbnlhjmaa.H Go.Proofs.Ytpeejdmbnlhjmaa.H Go.Proofs.Ytpeejdmbnlhjmaa.L
attribute [local go_sem] max2_int min2_int max_two min_two max_three min_three max_four min_four   -- for this text's walks alone
set_option linter.unusedVariables false
set_option linter.unusedSimpArgs false
/-! ### SubframeWastes' own function, walked by hand -/
/-- True, for any bytes. -/
def serinettelaw16_SubframeWastes.f (k : Nat) (l0 : List Int) (a1 a2 : Int) : Option Bool := if (0 ≤ a1 ∧ a1 ≤ 255) ∧ 0 ≤ a2 ∧ a2 ≤ 255 then some true else none
theorem serinettelaw16_SubframeWastes.mono : ∀ a0 a1 a2 k, LeO (serinettelaw16_SubframeWastes.f k a0 a1 a2) (serinettelaw16_SubframeWastes.f (k + 1) a0 a1 a2) := fun _ _ _ _ => LeO.refl _
theorem ints_n (k : Nat) (A0 : Option Addr) (n0 c0 : Nat) (l0 : List Int) (A1 : Option Addr) (n1 c1 : Nat) (l1 : List Int) (r : Bool) (w : World) (h0 : l0.length = n0) (h1 : l1.length = n1) (hr0 : Kd.C (Kd.int .i64) w A0 l0.length l0) (hc0 : l0.length ≤ c0) (hr1 : Kd.C (Kd.int .i64) w A1 l1.length l1) (hc1 : l1.length ≤ c1) (h : serinetteref01_Ints.f k l0 l1 = some r) :
    Calls Try.prog 47 #[.slice A0 n0 c0, .slice A1 n1 c1] w fun e w' => e = .returned (.bool r) ∧ Drawn0 w w' := by
  subst h0 h1
  exact serinetteref01_Ints.calls k A0 c0 l0 A1 c1 l1 r w hr0 hc0 hr1 hc1 h
def WastPost (w : World) (e : Ending) (w' : World) : Prop := e = .returned (.bool true) ∧ Below w.heap.size w w'
set_option maxHeartbeats 8000000 in
set_option maxRecDepth 100000 in
theorem wastes_long (A0 : Option Addr) (c0 : Nat) (l0 : List Int) (a1 a2 : Int) (w : World) (hr0 : Kd.C (Kd.int .i64) w A0 l0.length l0) (hc0 : l0.length ≤ c0) (h1 : 1 ≤ l0.length) (h40 : l0.length ≤ 40) (ha1 : 0 ≤ a1 ∧ a1 ≤ 255) (ha2 : 0 ≤ a2 ∧ a2 ≤ 255) :
    Calls Try.prog 12 #[.slice A0 l0.length c0, .int .u8 a1, .int .u8 a2] w (WastPost w) := by
  have HR0 := Aside0.mk hr0
  clear hr0
  have g0 : decide ((l0.length : Int) = 0) = false := decide_eq_false (by omega)
  have g1 : decide ((40 : Int) < (l0.length : Int)) = false := decide_eq_false (by omega)
  have g2 : decide (40 < l0.length) = false := decide_eq_false (by omega)
  have g4 : ((l0.length : Int) == 0) = false := beq_eq_false_iff_ne.mpr (by omega)
  have hne : ¬ l0 = [] := by intro e; subst e; simp at h1
  have g3 : decide (l0 = []) = false := decide_eq_false hne
  go_enter Try.func12, Try.ntmps12
  go_upto_block 0 with (first | (go_at_call 45; (with_reducible refine (awake16_calls _).mono ?_); rintro e' w1 ⟨rfl, hb⟩; have HB1 := Aside0.mk hb; clear hb))
  obtain ⟨d, hd⟩ : ∃ d : Int, d = 4 + a1 % 30 := ⟨_, rfl⟩
  have hd1 : 4 ≤ d ∧ d ≤ 33 := by omega
  obtain ⟨ws, hws⟩ : ∃ s : Int, s = a2 % (d - 1) := ⟨_, rfl⟩
  have hw1 : 0 ≤ ws ∧ ws < d - 1 := by
    have h0 : d - 1 ≠ 0 := by omega
    have x1 := Int.emod_nonneg a2 h0
    have x2 := Int.emod_lt_of_pos a2 (show 0 < d - 1 by omega)
    omega
  rw [← hd, ← hws]
  clear hd hws ha1 ha2 g0 g1 g2 g3 hne
  obtain ⟨X, hX⟩ : ∃ X : List Int, X = Pure.wastX l0 d ws := ⟨_, rfl⟩
  have hXl : X.length = l0.length := by rw [hX]; exact List.length_map ..
  have HX := Aside0.mk hX
  clear hX
  go_wp2_with fail
  go_loopg [10, 11] l0.length (fun kq v10 v11 w' => ∃ i : Nat, v11 = .int .i64 (i : Int) ∧ Aside0 (i + kq = l0.length) ∧ Aside0 (Kd.R (Kd.int .i64) 3 w' w.heap.size (fun _ => True) v10 (X.take i)) ∧ Aside0 (Below w.heap.size w w'))
  case atStart => exact ⟨0, rfl, ⟨Nat.zero_add _⟩, ⟨Kd.R_nil _ _ _ _ _⟩, HB1⟩
  case round =>
    clear HB1
    obtain ⟨i, rfl, HI0, HR, HB⟩ := hrel
    cases gk with
    | zero =>
      have hil : i = l0.length := by have := HI0.out; omega
      subst hil
      have d1 : decide ((l0.length : Int) < (l0.length : Int)) = false := decide_eq_false (by omega)
      have hR := HR.out
      rw [List.take_of_length_le (by omega)] at hR
      obtain ⟨AX, cX, rfl⟩ := Kd.R_slice hR
      rw [hXl] at hR ⊢
      have HRX := Aside0.mk hR
      clear hR HR HI0
      obtain ⟨k, o1, o2, o3, o4, o5, o6, o7⟩ := Pure.waste_all l0 ⟨h1, h40⟩ d ws hd1 hw1
      rw [← HX.out] at o1 o2 o3 o4 o5 o6 o7
      have O1 := Aside0.mk o1
      have O2 := Aside0.mk (show bits01 k X 1 ws 0 0 0 [] false 0 [] d = _ from o2)
      obtain ⟨s, hs⟩ : ∃ s, s = putPlain ([], 0) X 1 ws d := ⟨_, rfl⟩
      rw [← hs] at o3 o4 o7
      have O3 := Aside0.mk o3
      have O4 := Aside0.mk o4
      have O5 := Aside0.mk o5
      have O6 := Aside0.mk o6
      have O7 := Aside0.mk o7
      have HS := Aside0.mk hs
      clear o1 o2 o3 o4 o5 o6 o7 hs
      have e8 : IntKind.i64.wrap (d - ws) = d - ws := by rw [IntKind.wrap_i64]; omega
      obtain ⟨m, hm⟩ : ∃ m : Int, m = (d - ws) * (l0.length : Int) := ⟨_, rfl⟩
      have hm1 : 0 ≤ m ∧ m ≤ 33 * 40 := by
        rw [hm]
        exact ⟨Int.mul_nonneg (by omega) (by omega), Int.mul_le_mul (by omega) (by omega) (by omega) (by decide)⟩
      have e9 : IntKind.i64.wrap m = m := by rw [IntKind.wrap_i64]; omega
      have e10 : IntKind.i64.wrap (8 + ws) = 8 + ws := by rw [IntKind.wrap_i64]; omega
      have e11 : IntKind.i64.wrap (8 + ws + m) = 8 + ws + m := by rw [IntKind.wrap_i64]; omega
      rw [← hm] at O2 O4
      have hm' := hm.symm
      clear hm
      go_upto_region 12 with (first | ((with_reducible refine gate_store (t := 87) (p := 12) rfl ?_); refine store_ev rfl 87 12 (.tmp 63) rfl rfl _ (.agg (plainCells 1 ws)) rfl rfl (run_storeAt_new (P := Try.prog) wr 87 zero87 _ (by kernel_rfl) rfl (by simp [Value.oneCell'])) ?_; intro w2 hw2))
      have HB2 : Aside0 (Below w.heap.size w w2) := ⟨by rw [hw2]; exact below_alloc HB.out _⟩
      have hb2 : w2.heap[wr.heap.size]? = some (.cells (plainCells 1 ws) 87 (0, 0)) := by rw [hw2]; exact heap_alloc_last _ _
      have BK2 := Aside0.mk hb2
      have HR2 : Aside0 (Kd.R (Kd.int .i64) 3 w2 w.heap.size (fun _ => True) (.slice AX l0.length cX) X) := ⟨by rw [hw2]; exact Kd.R_alloc HRX.out _⟩
      clear hw2 hb2
      obtain ⟨x0, x1, x2, x3, x4, x5, x6, x7, x8⟩ := scell BK2.out
      go_upto_region 13 with (first | (go_at_call 46; (with_reducible refine (bits0_calls k AX l0.length cX X 1 ws d _ _ 0 hXl (Kd.R_reads' HR2.out).2.2 (by have := (Kd.R_reads' HR2.out).2.1; omega) O2.out).mono ?_); rintro e w3 ⟨rfl, hb⟩; have HB3 := Aside0.mk hb; clear hb))
      have BK3 := Aside0.mk (blk_below BK2.out HB3.out)
      have HB03 := Aside0.mk (below_step HB2.out HB3.out)
      have HR3 := Aside0.mk (Kd.R_below HR2.out HB3.out)
      clear x0 x1 x2 x3 x4 x5 x6 x7 x8 BK2 HR2 HRX
      have N0 := Aside0.mk (wnew w3)
      have F3 : Aside0 (Kd.F (Kd.int .i64) w3 (fun k_ => k_ ≠ w3.heap.size ∧ some k_ ≠ (Value.slice none 0 0).ownBlock) AX l0.length X) := ⟨Kd.F_mono (Kd.F_bound (Kd.R_F HR3.out)) (fun k_ hk_ => ⟨by have := hk_.2; omega, by simp [Value.ownBlock]⟩)⟩
      have NE1 : Aside0 (wr.heap.size ≠ w3.heap.size) := ⟨by have := (Array.getElem?_eq_some_iff.1 BK3.out).1; omega⟩
      have NE2 : Aside0 (some wr.heap.size ≠ (Value.slice none 0 0).ownBlock) := ⟨by simp [Value.ownBlock]⟩
      go_upto_region 14 with (first | (go_at_call 48; (with_reducible refine (new_calls _).mono ?_); rintro e w4 ⟨rfl, rfl⟩))
      have F4 := Aside0.mk (Kd.F_alloc F3.out (.cells #[.slice none 0 0, .int .i64 0] 143))
      have BK4 := Aside0.mk (blk_alloc BK3.out (.cells #[.slice none 0 0, .int .i64 0] 143))
      have HB4 := Aside0.mk (below_alloc HB03.out (.cells #[.slice none 0 0, .int .i64 0] 143))
      generalize w3.alloc (.cells #[.slice none 0 0, .int .i64 0] 143) = w4 at *
      obtain ⟨x0, x1, x2, x3, x4, x5, x6, x7, x8⟩ := scell BK4.out
      have CC : Aside0 (X.length ≤ cX) := ⟨by have := (Kd.R_reads' HR3.out).2.1; omega⟩
      have HXL := Aside0.mk hXl
      go_upto_region 17 with (first | (go_at_call 49; (with_reducible refine (put_plain0 k N0.out AX l0.length cX X 1 ws d hXl (by decide) (by rw [HXL.out]; exact F4.out) CC.out O1.out hw1.1 (by omega) hd1.2 (by omega) (by omega) (.inr rfl)).mono ?_); rintro e w5 ⟨rfl, v5, hw, ht⟩; rw [← HS.out] at hw; have WA5 := Aside0.mk hw; have T5 := Aside0.mk ht; clear hw ht))
      have HB5 := Aside0.mk (below_step HB03.out WA5.out.bel)
      have F5 := Aside0.mk (wF F4.out T5.out)
      clear x0 x1 x2 x3 x4 x5 x6 x7 x8 BK4 F4 F3 N0 HB4 HR3 BK3 NE1 NE2 T5
      go_upto_region 18 with (first
        | (go_at_call 51; (with_reducible refine (bytes_calls WA5.out.st (by have := O7.out; omega)).mono ?_); rintro e w6 ⟨v6, rfl, hr, hb⟩; obtain ⟨A6, c6, rfl⟩ := Kd.R_slice hr; have R6 := Aside0.mk hr; have HB6 := Aside0.mk (below_step HB5.out hb); have F6 := Aside0.mk (Kd.F_below F5.out hb); clear hr hb)
        | (go_at_call 50; (with_reducible refine (open_calls A6 c6 s.1 _ (Kd.R_reads' R6.out).2.2 (Kd.R_reads' R6.out).2.1 (by have := O7.out; omega)).mono ?_); rintro e w8 ⟨g, w7, rfl, hi, hb, hb'⟩; have HI := Aside0.mk hi; have HB7 := Aside0.mk (below_step HB6.out hb); have HB78 := Aside0.mk hb'; have F7 := Aside0.mk (Kd.F_below F6.out hb); clear hi hb hb'))
      have YL : Aside0 ((Pure.wastY l0 d ws).length ≤ 65535) := ⟨by unfold Pure.wastY; rw [List.length_map]; omega⟩
      go_upto_region 21 with (first
        | (go_at_call 52; (with_reducible refine (vtake_calls k g s.1 0 0 (l0.length : Int) d ws 0 0 0 0 0 (8 + ws) 0 (8 + ws + m) false (Pure.wastY l0 d ws) w7 _ HI.out HB78.out hd1 (by omega) (by omega) O3.out (by decide) O4.out YL.out).mono ?_); rintro e w9 ⟨v, A5, k5, A8, k8, rfl, hr, hb⟩; rw [O5.out] at hr; obtain ⟨AY, cY, rfl⟩ := Kd.R_slice hr; have RY := Aside0.mk hr; have HB9 := Aside0.mk (below_step HB7.out hb); have F9 := Aside0.mk (Kd.F_below F7.out hb); clear hr hb)
        | ((with_reducible refine gate_store (t := 87) (p := 19) rfl ?_); refine store_ev rfl 87 19 (.tmp 108) rfl rfl _ (.agg #[.int .i64 1, .int .i64 ws, .int .i64 0, .int .i64 0, .int .i64 0, .slice A5 0 k5, .bool false, .int .i64 0, .slice A8 0 k8]) rfl rfl (run_storeAt_new (P := Try.prog) w9 87 zero87 _ (by kernel_rfl) rfl (by simp [Value.oneCell'])) ?_; intro w10 hw10))
      have HB10 : Aside0 (Below w.heap.size w w10) := ⟨by rw [hw10]; exact below_alloc HB9.out _⟩
      have hb10 : w10.heap[w9.heap.size]? = some (.cells #[.int .i64 1, .int .i64 ws, .int .i64 0, .int .i64 0, .int .i64 0, .slice A5 0 k5, .bool false, .int .i64 0, .slice A8 0 k8] 87 (0, 0)) := by rw [hw10]; exact heap_alloc_last _ _
      have x0 := (blk_cell hb10 0).trans rfl
      have x1 := (blk_cell hb10 1).trans rfl
      have F10 : Aside0 (Kd.C (Kd.int .i64) w10 AX X.length X) := ⟨by rw [hw10, HXL.out]; exact Kd.F_now (Kd.F_alloc F9.out _)⟩
      have RY10 : Aside0 (Kd.C (Kd.int .i64) w10 AY X.length X) := ⟨by rw [hw10]; exact Kd.C_alloc (Kd.R_reads' RY.out).2.2 _⟩
      have CY : Aside0 (X.length ≤ cY) := ⟨(Kd.R_reads' RY.out).2.1⟩
      clear hw10 hb10
      go_wp2_with (first | (go_at_call 47; (with_reducible refine (ints_n k AX l0.length cX X AY l0.length cY X true _ hXl hXl F10.out CC.out RY10.out CY.out O6.out).mono ?_); rintro e w11 ⟨rfl, m, rfl⟩))
      go_ret
      exact ⟨rfl, pw_below_drewN HB10.out _⟩
    | succ k1 =>
      have hil : i < l0.length := by have := HI0.out; omega
      have d1 : decide ((i : Int) < (l0.length : Int)) = true := decide_eq_true (by omega)
      have d2 : (i : Int) < (l0.length : Int) := by omega
      have d3 : (0 : Int) ≤ (i : Int) := Int.natCast_nonneg _
      obtain ⟨ad, e, hx⟩ := Kd.at_int HR0.out (i : Int) d3 d2
      cases e
      have x2 := (HB.out.cell (World.block_lt_of_cell? w _ hx)).trans hx
      rw [Int.toNat_natCast] at x2
      have e1 : IntKind.i64.wrap (d - 1) = d - 1 := by rw [IntKind.wrap_i64]; omega
      have e2 : IntKind.i64.wrap (d - 1 - ws) = d - 1 - ws := by rw [IntKind.wrap_i64]; omega
      have hq2 := Pure.two_at (d - 1 - ws) (by omega)
      obtain ⟨q, hq⟩ : ∃ q : Int, q = 2 ^ (d - 1 - ws).toNat := ⟨_, rfl⟩
      have q3 : ¬ q = 0 := by rw [← hq] at hq2; omega
      have q1 : IntKind.i64.wrap (2 ^ (d - 1 - ws).toNat) = q := by rw [← hq, IntKind.wrap_i64]; rw [← hq] at hq2; omega
      have q2 : wrap64 (2 ^ (d - 1 - ws).toNat) = q := (i64_w _).symm.trans q1
      have QS := Aside0.mk (show shl .i64 1 (d - 1 - ws) = q from (Pure.shl_pow _ (by omega)).trans hq.symm)
      have HQ := Aside0.mk hq
      clear hq hq2
      go_upto_region 10 with fail
      have hle := Aside0.mk HB.out.size
      have HL := Aside0.mk (show ((X.take i).length + 1) * 8 ≤ 140737488355328 by rw [List.length_take]; omega)
      go_region_law (refine Kd.R_append_step (Kd.int .i64) (w0 := w) (W := wr.drew) w.heap.size (by rfl) (.tmp 46) (.tmp 60) 78 3 (.int .i64 0) 8 rfl Try.underlying78 infoI rfl (by decide) (by decide) _ (X.take i) _ [.int .i64 _] (fun _ => True) (fun _ => False) rfl rfl rfl (fun _ hk => hk.elim) (fun _ _ => trivial) (Kd.R_drew HR.out) (below_drew1 HB.out) hle.out HL.out ?_; intro v1 w3 hr1 hb1 hg1 hat1)
      have hX1 : IntKind.i64.wrap ((rd l0 (i : Int)).tmod q * IntKind.i64.wrap (2 ^ ws.toNat)) = X[i]'(by omega) := by
        have e3 : IntKind.i64.wrap (2 ^ ws.toNat) = shl .i64 1 ws := by
          have h2 := Pure.two_at ws (by omega)
          rw [Pure.shl_pow ws (by omega)]
          generalize (2 : Int) ^ ws.toNat = z at *
          rw [IntKind.wrap_i64]
          clear q1 q2 e1 e2
          omega
        have hx0 := HX.out
        subst hx0
        rw [e3, ← QS.out]
        unfold Pure.wastX
        rw [List.getElem_map, rd_nat l0 i hil, i64_w]
      rw [hX1, show X.take i ++ [X[i]'(by omega)] = X.take (i + 1) by rw [List.take_add_one, List.getElem?_eq_getElem (by omega)]; rfl] at hr1
      have HR2 := Aside0.mk hr1
      have HB2 := Aside0.mk hb1
      clear hr1 hb1 hg1 hat1 hX1
      go_wp2_with fail
      go_roundg k1
      case measure => omega
      case rel => exact ⟨i + 1, by first | rfl | simp, ⟨by have := HI0.out; omega⟩, HR2, HB2⟩
set_option maxHeartbeats 8000000 in
set_option maxRecDepth 100000 in
theorem wastes_short (A0 : Option Addr) (c0 : Nat) (l0 : List Int) (a1 a2 : Int) (w : World) (h : l0.length = 0 ∨ 40 < l0.length) :
    Calls Try.prog 12 #[.slice A0 l0.length c0, .int .u8 a1, .int .u8 a2] w (WastPost w) := by
  rcases h with h | h
  · rw [h]
    go_enter Try.func12, Try.ntmps12
    go_wp2_with (first | (go_at_call 45; (with_reducible refine (awake16_calls _).mono ?_); rintro e' w1 ⟨rfl, hb⟩; have HB1 := Aside0.mk hb; clear hb))
    go_ret
    exact ⟨rfl, HB1.out⟩
  · have g0 : decide ((l0.length : Int) = 0) = false := decide_eq_false (by omega)
    have g1 : decide ((40 : Int) < (l0.length : Int)) = true := decide_eq_true (by omega)
    have g2 : decide (40 < l0.length) = true := decide_eq_true (by omega)
    have g4 : ((l0.length : Int) == 0) = false := beq_eq_false_iff_ne.mpr (by omega)
    have hne : ¬ l0 = [] := by intro e; subst e; simp at h
    have g3 : decide (l0 = []) = false := decide_eq_false hne
    go_enter Try.func12, Try.ntmps12
    go_wp2_with (first | (go_at_call 45; (with_reducible refine (awake16_calls _).mono ?_); rintro e' w1 ⟨rfl, hb⟩; have HB1 := Aside0.mk hb; clear hb))
    go_ret
    exact ⟨rfl, HB1.out⟩
theorem serinettelaw16_SubframeWastes.calls (k : Nat) (A0 : Option Addr) (c0 : Nat) (l0 : List Int) (a1 a2 : Int) (r : Bool) (w : World) (hr0 : Kd.C (Kd.int .i64) w A0 l0.length l0) (hc0 : l0.length ≤ c0) (h : serinettelaw16_SubframeWastes.f k l0 a1 a2 = some r) :
    Calls Try.prog 12 #[.slice A0 l0.length c0, .int .u8 a1, .int .u8 a2] w fun e w' => e = .returned (.bool r) ∧ Below w.heap.size w w' := by
  unfold serinettelaw16_SubframeWastes.f at h
  split at h
  case isFalse => cases h
  rename_i hc
  cases h
  by_cases h1 : l0.length = 0 ∨ 40 < l0.length
  · exact wastes_short A0 c0 l0 a1 a2 w h1
  · exact wastes_long A0 c0 l0 a1 a2 w hr0 hc0 (by omega) (by omega) hc.1 hc.2
/-- The one pure statement (lawrow.py). -/
def serinettelaw16_SubframeWastes.Pure : Prop := ∀ (l0 : List Int) (a1 : Int) (a2 : Int), l0.length ≤ maxLen → (∀ x ∈ l0, (Lit.int .i64 x).wf = true) → (Lit.int .u8 a1).wf = true → (Lit.int .u8 a2).wf = true → ∃ k, serinettelaw16_SubframeWastes.f k l0 a1 a2 = some true
theorem serinettelaw16_SubframeWastes.walk (P : serinettelaw16_SubframeWastes.Pure) (l0 : List Int) (a1 : Int) (a2 : Int) (w : World) (A0 : Option Addr) (c0 : Nat) (hr0 : Kd.C (Kd.int .i64) w A0 l0.length l0) (hc0 : l0.length ≤ c0) (hm0 : l0.length ≤ maxLen) (hw0 : ∀ x ∈ l0, (Lit.int .i64 x).wf = true) (wa1 : (Lit.int .u8 a1).wf = true) (wa2 : (Lit.int .u8 a2).wf = true) :
    Calls Try.prog 12 #[.slice A0 l0.length c0, .int .u8 a1, .int .u8 a2] w fun e w' => e = .returned (.bool true) ∧ Below w.heap.size w w' := by
  obtain ⟨k, h⟩ := P l0 a1 a2 hm0 hw0 wa1 wa2
  refine (serinettelaw16_SubframeWastes.calls k A0 c0 l0 a1 a2 true w hr0 hc0 h).mono ?_
  rintro e w' ⟨rfl, hd⟩
  exact ⟨rfl, hd⟩

end Go.Proofs.Ytpeejdmbnlhjmaa.PSubframeWastes
