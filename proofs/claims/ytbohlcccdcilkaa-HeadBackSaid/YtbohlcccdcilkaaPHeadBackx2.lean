/- The statement HeadBack's own function as a plain one, with the proof that the program's call comes to it. For any arguments. -/
import Derived.Test.YtbohlcccdcilkaaPHeadBackx1
namespace Go.Proofs.Ytbohlcccdcilkaa.PHeadBack
open Go.RowKit Go.Proofs.YtbohlcccdcilkaaW.PrintWords Go.Proofs.YtbohlcccdcilkaaW.PrintLast Go.Proofs.YtbohlcccdcilkaaW.PrintMore Go.Proofs.Ytbohlcccdcilkaa.H
attribute [local go_sem] max2_int min2_int max_two min_two max_three min_three max_four min_four   -- for this text's walks alone
set_option linter.unusedVariables false
set_option linter.unusedSimpArgs false
/-! ### HeadBack's own function, walked by hand -/
abbrev THb := Int × Int × Int × Int × Int × Bool × Int × Int
def dOf (d : Int) : Int := if Int.tmod d 4 ≠ 0 ∨ d = 4 ∨ d = 28 then 0 else d
def rOf (r : Int) (s : Bool) : Int := if s = true then r else 0
def serinettelaw17_HeadBack.f (k : Nat) (a0_0 a0_1 a0_2 a0_3 a0_4 : Int) (a0_5 : Bool) (l1 : List Int) : Option Bool :=
  (serinettelaw17_awake.f k).bind fun t => if t = true then
    if (l1.length : Int) > 10 then some true
    else (head_Put.f k a0_0 a0_1 a0_2 a0_3 a0_4 a0_5).bind fun p =>
      if p.2 = 0 then
        if p.1.length ≤ 1000 then
          (head_Take.f k (p.1 ++ l1)).bind fun q => (serinetteref17_Told.f k a0_1).bind fun s =>
            if q.1 = a0_0 ∧ q.2.1 = rOf a0_1 s ∧ q.2.2.1 = a0_2 ∧ q.2.2.2.1 = dOf a0_3 ∧ q.2.2.2.2.1 = a0_4 ∧ q.2.2.2.2.2.1 = a0_5 ∧ q.2.2.2.2.2.2.1 = (p.1.length : Int) ∧ q.2.2.2.2.2.2.2 = 0 then
              (head_Check.f k a0_0 (rOf a0_1 s) a0_2 (dOf a0_3) a0_4 a0_5).bind fun c => if c = 0 ∧ 6 ≤ (p.1.length : Int) ∧ (p.1.length : Int) ≤ 16 then some true else none
            else none
        else none
      else if p.1 = [] then (head_Check.f k a0_0 a0_1 a0_2 a0_3 a0_4 a0_5).bind fun c => if c = p.2 then some true else none
      else none
  else none
theorem serinettelaw17_HeadBack.mono : ∀ a0_0 a0_1 a0_2 a0_3 a0_4 a0_5 l1 k, LeO (serinettelaw17_HeadBack.f k a0_0 a0_1 a0_2 a0_3 a0_4 a0_5 l1) (serinettelaw17_HeadBack.f (k + 1) a0_0 a0_1 a0_2 a0_3 a0_4 a0_5 l1) := fun _ _ _ _ _ _ _ _ =>
  leO_bind (serinettelaw17_awake.mono _) fun _ => leO_if (leO_if leO_self (leO_bind (head_Put.mono _ _ _ _ _ _ _) fun _ => leO_if (leO_if (leO_bind (head_Take.mono _ _) fun _ => leO_bind (serinetteref17_Told.mono _ _) fun _ =>
    leO_if (leO_bind (head_Check.mono _ _ _ _ _ _ _) fun _ => leO_self) leO_self) leO_self) (leO_if (leO_bind (head_Check.mono _ _ _ _ _ _ _) fun _ => leO_self) leO_self))) leO_self
def BackPost (w : World) (e : Ending) (w' : World) : Prop := e = .returned (.bool true) ∧ Below w.heap.size w w'
set_option maxHeartbeats 8000000 in
set_option maxRecDepth 100000 in
theorem back_long (k : Nat) (B R M D N : Int) (V : Bool) (A1 : Option Addr) (c1 : Nat) (l1 : List Int) (w : World) (ha : serinettelaw17_awake.f k = some true) (hl : (l1.length : Int) > 10) :
    Calls Try.prog 7 #[.agg (hcells B R M D N V), .slice A1 l1.length c1] w (BackPost w) := by
  have HA := Aside0.mk ha
  have g1 : decide ((l1.length : Int) > 10) = true := decide_eq_true hl
  have g2 : decide (l1.length > 10) = true := decide_eq_true (by omega)
  have g3 : decide (10 < l1.length) = true := decide_eq_true (by omega)
  clear ha hl
  go_enter Try.func7, Try.ntmps7
  go_wp2_with (first | (go_at_call 10; (with_reducible refine (serinettelaw17_awake.calls k true _ HA.out).mono ?_); rintro e' w1 ⟨rfl, hb⟩; have HB1 := Aside0.mk (below_step (below_alloc (Below.refl _ _) _) hb); clear hb))
  go_ret
  exact ⟨rfl, HB1.out⟩
set_option maxHeartbeats 8000000 in
set_option maxRecDepth 100000 in
theorem back_bad (k : Nat) (B R M D N : Int) (V : Bool) (A1 : Option Addr) (c1 : Nat) (l1 : List Int) (w : World) (e : Int) (ha : serinettelaw17_awake.f k = some true) (hl : ¬ (l1.length : Int) > 10)
    (hp : head_Put.f k B R M D N V = some ([], e)) (he : e ≠ 0) (hk : head_Check.f k B R M D N V = some e) :
    Calls Try.prog 7 #[.agg (hcells B R M D N V), .slice A1 l1.length c1] w (BackPost w) := by
  have HA := Aside0.mk ha
  have HP := Aside0.mk hp
  have HK := Aside0.mk hk
  have g1 : decide ((l1.length : Int) > 10) = false := decide_eq_false hl
  have g2 : decide (l1.length > 10) = false := decide_eq_false (by omega)
  have g3 : decide (10 < l1.length) = false := decide_eq_false (by omega)
  have ge : (e != 0) = true := bne_iff_ne.mpr he
  clear ha hl hp he hk
  go_enter Try.func7, Try.ntmps7
  go_wp2_with (first
    | (go_at_call 10; (with_reducible refine (serinettelaw17_awake.calls k true _ HA.out).mono ?_); rintro e' w1 ⟨rfl, hb⟩; have BK1 := Aside0.mk (blk_below (blk_new w _) hb); have HB1 := Aside0.mk (below_step (below_alloc (Below.refl _ _) _) hb); clear hb; obtain ⟨x0, x1, x2, x3, x4, x5⟩ := hcell BK1.out)
    | (go_at_call 11; (with_reducible refine (head_Put.calls k B R M D N V [] e _ HP.out).mono ?_); rintro e' w2 ⟨v2, rfl, hr2, hb⟩; clear x0 x1 x2 x3 x4 x5; obtain ⟨A2, c2_, rfl⟩ := Kd.R_slice hr2; have BK2 := Aside0.mk (blk_below BK1.out hb); have HB2 := Aside0.mk (below_step HB1.out hb); clear hb hr2; obtain ⟨x0, x1, x2, x3, x4, x5⟩ := hcell BK2.out)
    | (go_at_call 14; (with_reducible refine (head_Check.calls k B R M D N V e _ HK.out).mono ?_); rintro e' w3 ⟨rfl, hb⟩; clear x0 x1 x2 x3 x4 x5; have HB3 := Aside0.mk (below_step HB2.out hb); clear hb))
  all_goals go_ret
  all_goals exact ⟨rfl, HB3.out⟩
def BW (w : World) (g0 g8 g11 : Nat) (B R M D N : Int) (V : Bool) (R' D' R2 D2 : Int) (W : World) : Prop :=
  W.heap[g0]? = some (.cells (hcells B R M D N V) 23 (0, 0)) ∧ W.heap[g8]? = some (.cells (hcells B R' M D' N V) 23 (0, 0)) ∧ W.heap[g11]? = some (.cells (hcells B R2 M D2 N V) 23 (0, 0)) ∧ (g0 < g11 ∧ g8 < g11 ∧ w.heap.size ≤ g11) ∧ Below w.heap.size w W
theorem BW.below {w : World} {g0 g8 g11 : Nat} {B R M D N : Int} {V : Bool} {R' D' R2 D2 : Int} {W W' : World} (h : BW w g0 g8 g11 B R M D N V R' D' R2 D2 W) (hb : Below W.heap.size W W') : BW w g0 g8 g11 B R M D N V R' D' R2 D2 W' :=
  ⟨blk_below h.1 hb, blk_below h.2.1 hb, blk_below h.2.2.1 hb, h.2.2.2.1, below_step h.2.2.2.2 hb⟩
theorem BW.set1 {w : World} {g0 g8 g11 : Nat} {B R M D N : Int} {V : Bool} {R' D' R2 D2 : Int} {W : World} (h : BW w g0 g8 g11 B R M D N V R' D' R2 D2 W) (x : Int) : BW w g0 g8 g11 B R M D N V R' D' x D2 (W.setCell ⟨g11, 1, none⟩ (.int .i64 x)) :=
  ⟨blk_far h.1 (Nat.ne_of_lt h.2.2.2.1.1) _, blk_far h.2.1 (Nat.ne_of_lt h.2.2.2.1.2.1) _, blk_set h.2.2.1 1 _, h.2.2.2.1, below_set h.2.2.2.2 h.2.2.2.1.2.2⟩
theorem BW.set3 {w : World} {g0 g8 g11 : Nat} {B R M D N : Int} {V : Bool} {R' D' R2 D2 : Int} {W : World} (h : BW w g0 g8 g11 B R M D N V R' D' R2 D2 W) (x : Int) : BW w g0 g8 g11 B R M D N V R' D' R2 x (W.setCell ⟨g11, 3, none⟩ (.int .i64 x)) :=
  ⟨blk_far h.1 (Nat.ne_of_lt h.2.2.2.1.1) _, blk_far h.2.1 (Nat.ne_of_lt h.2.2.2.1.2.1) _, blk_set h.2.2.1 3 _, h.2.2.2.1, below_set h.2.2.2.2 h.2.2.2.1.2.2⟩
theorem BW.make {w W : World} {B R M D N : Int} {V : Bool} {R' D' : Int} (h0 : W.heap[w.heap.size]? = some (.cells (hcells B R M D N V) 23 (0, 0))) (hb : Below w.heap.size w W) :
    BW w w.heap.size W.heap.size (W.heap.size + 1) B R M D N V R' D' R D ((W.alloc (.cells (hcells B R' M D' N V) 23 (0, 0))).alloc (.cells (hcells B R M D N V) 23 (0, 0))) :=
  ⟨blk_alloc (blk_alloc h0 _) _, blk_alloc (heap_alloc_last W _) _, blk_second W _ _, ⟨Nat.lt_succ_of_lt (blk_lt h0), Nat.lt_succ_self _, Nat.le_of_lt (Nat.lt_succ_of_lt (blk_lt h0))⟩, below_alloc (below_alloc hb _) _⟩
set_option maxHeartbeats 8000000 in
set_option maxRecDepth 100000 in
theorem back_good (k : Nat) (B R M D N : Int) (V : Bool) (A1 : Option Addr) (c1 : Nat) (l1 b : List Int) (s : Bool) (w : World) (hr1 : Kd.C (Kd.int .u8) w A1 l1.length l1) (hc1 : l1.length ≤ c1) (ha : serinettelaw17_awake.f k = some true) (hl : ¬ (l1.length : Int) > 10)
    (hp : head_Put.f k B R M D N V = some (b, 0)) (hbl : b.length ≤ 1000) (ht : head_Take.f k (b ++ l1) = some (B, rOf R s, M, dOf D, N, V, (b.length : Int), 0)) (hs : serinetteref17_Told.f k R = some s)
    (hk : head_Check.f k B (rOf R s) M (dOf D) N V = some 0) (h6 : 6 ≤ (b.length : Int)) (h16 : (b.length : Int) ≤ 16) :
    Calls Try.prog 7 #[.agg (hcells B R M D N V), .slice A1 l1.length c1] w (BackPost w) := by
  obtain ⟨bl, hbb⟩ : ∃ bl, b ++ l1 = bl := ⟨_, rfl⟩
  rw [hbb] at ht
  have HBB := Aside0.mk hbb
  clear hbb
  have HA := Aside0.mk ha
  have HP := Aside0.mk hp
  have HK := Aside0.mk hk
  have HT := Aside0.mk ht
  have HS := Aside0.mk hs
  have HC1 := Aside0.mk hr1
  have HBL := Aside0.mk hbl
  have HL := Aside0.mk (show l1.length ≤ 10 by omega)
  have g1 : decide ((l1.length : Int) > 10) = false := decide_eq_false hl
  have g2 : decide (l1.length > 10) = false := decide_eq_false (by omega)
  have g3 : decide (10 < l1.length) = false := decide_eq_false (by omega)
  have g6 : decide ((b.length : Int) ≥ 6) = true := decide_eq_true h6
  have g6' : decide (b.length ≥ 6) = true := decide_eq_true (by omega)
  have g6'' : decide (6 ≤ b.length) = true := decide_eq_true (by omega)
  have g16 : decide ((b.length : Int) ≤ 16) = true := decide_eq_true h16
  have g16' : decide (b.length ≤ 16) = true := decide_eq_true (by omega)
  clear ha hl hp hk ht hs hr1 hbl h6 h16
  go_enter Try.func7, Try.ntmps7
  go_upto_region 9 with (first
    | (go_at_call 10; (with_reducible refine (serinettelaw17_awake.calls k true _ HA.out).mono ?_); rintro e' w1 ⟨rfl, hb⟩; have BK1 := Aside0.mk (blk_below (blk_new w _) hb); have HB1 := Aside0.mk (below_step (below_alloc (Below.refl _ _) _) hb); clear hb; obtain ⟨x0, x1, x2, x3, x4, x5⟩ := hcell BK1.out)
    | (go_at_call 11; (with_reducible refine (head_Put.calls k B R M D N V b 0 _ HP.out).mono ?_); rintro e' w2 ⟨v2, rfl, hr2, hb⟩; clear x0 x1 x2 x3 x4 x5; obtain ⟨A2, c2_, rfl⟩ := Kd.R_slice hr2; have C2 := Aside0.mk (Kd.R_reads' hr2).2.2; have BK2 := Aside0.mk (blk_below BK1.out hb); have HB2 := Aside0.mk (below_step HB1.out hb); clear hb hr2)
    | ((with_reducible refine gate_dst (N := 37) rfl ?_); refine Kd.R_lit (Kd.int .u8) (w0 := w2) w2.heap.size 5 ?hg (N := 37) ?hd (xs := ([] : List Int)) (inner := []) (ok := fun _ => True) (okp := fun _ => True) ?hr ?hp (fun _ hk => hk) trivial (Below.refl _ _) (Nat.le_refl _) (by simp) ?_; (case hd => rfl); (case hg => rfl); (case hr => first | (go_simp; done) | (go_simp; rfl)); (case hp => exact Reps.none _ _); intro v37 w3 ho37 hb3 hg_ hnew_; clear hg_ hnew_; have R3 := Aside0.mk ho37; have HB3 := Aside0.mk hb3; clear ho37 hb3)
    | ((with_reducible refine gate_builtin (b := .append) (xs := #[.tmp 37, .tmp 38]) rfl ?_); at_builtin; refine Kd.R_append_rows (Kd.int .u8) (w0 := w2) w2.heap.size rfl (.tmp 37) (.tmp 38) 25 5 (.int .u8 0) 1 rfl Try.underlying25 info5 rfl (by decide) (by omega) _ [] b _ _ _ (fun _ => True) (fun _ => False) rfl rfl R3.out (Kd.C_below C2.out HB3.out) (fun _ _ h => h) (fun _ h => h.elim) (fun _ _ => trivial) HB3.out (below_size HB3.out) (by have := HBL.out; simp only [List.length_nil]; omega) ?_; intro v39 w4 hr4 hb4 hg hat; clear hg hat; have R4 := Aside0.mk hr4; have HB4 := Aside0.mk hb4; clear hr4 hb4)
    | ((with_reducible refine gate_builtin (b := .append) (xs := #[.tmp 39, .tmp 40]) rfl ?_); at_builtin; refine Kd.R_append_rows (Kd.int .u8) (w0 := w2) w2.heap.size rfl (.tmp 39) (.tmp 40) 25 5 (.int .u8 0) 1 rfl Try.underlying25 info5 rfl (by decide) (by omega) _ ([] ++ b) l1 _ _ _ (fun _ => True) (fun _ => False) rfl rfl R4.out (Kd.C_below (Kd.C_below HC1.out HB2.out) HB4.out) (fun _ _ h => h) (fun _ h => h.elim) (fun _ _ => trivial) HB4.out (below_size HB4.out) (by have := HBL.out; have := HL.out; simp only [List.nil_append]; omega) ?_; intro v41 w5 hr5 hb5 hg hat; clear hg hat; rw [List.nil_append, HBB.out] at hr5; obtain ⟨A5, c5_, rfl⟩ := Kd.R_slice hr5; have R5 := Aside0.mk hr5; have BK5 := Aside0.mk (blk_below BK2.out hb5); have HB5 := Aside0.mk (below_step HB2.out hb5); clear hr5 hb5)
    | (go_at_call 18; (with_reducible refine (head_Take.calls k A5 c5_ bl _ _ _ _ _ _ _ _ _ (Kd.R_reads' R5.out).2.2 (Kd.R_reads' R5.out).2.1 HT.out).mono ?_); rintro e' w6 ⟨rfl, hb⟩; have BK6 := Aside0.mk (blk_below BK5.out hb); have HB6 := Aside0.mk (below_step HB5.out hb); clear hb; have y0 := fun o => (hcell (blk_alloc BK6.out o)).1; have y1 := fun o => (hcell (blk_alloc BK6.out o)).2.1; have y2 := fun o => (hcell (blk_alloc BK6.out o)).2.2.1; have y3 := fun o => (hcell (blk_alloc BK6.out o)).2.2.2.1; have y4 := fun o => (hcell (blk_alloc BK6.out o)).2.2.2.2.1; have y5 := fun o => (hcell (blk_alloc BK6.out o)).2.2.2.2.2))
  have HW8 := Aside0.mk (BW.make (R' := rOf R s) (D' := dOf D) BK6.out HB6.out)
  clear y0 y1 y2 y3 y4 y5 BK1 BK2 BK5 BK6 HB1 HB2 HB5 HB6 R3 HB3 R4 HB4 R5 C2
  generalize ((w6.alloc (.cells (hcells B (rOf R s) M (dOf D) N V) 23 (0, 0))).alloc (.cells (hcells B R M D N V) 23 (0, 0))) = W8 at *
  generalize w6.heap.size + 1 = g11 at *
  generalize w6.heap.size = g8 at *
  obtain ⟨x0, x1, x2, x3, x4, x5⟩ := hcell HW8.out.1
  go_upto_if 50 with (first | (go_at_call 21; (with_reducible refine (serinetteref17_Told.calls k R s _ HS.out).mono ?_); rintro e' w9 ⟨rfl, hb⟩; have HW9 := Aside0.mk (HW8.out.below hb); clear hb x0 x1 x2 x3 x4 x5))
  go_cut [] (fun W => BW w w.heap.size g8 g11 B R M D N V (rOf R s) (dOf D) (rOf R s) D W)
  case first =>
    obtain ⟨u0, u1, u2, u3, u4, u5⟩ := hcell HW9.out.2.2.1
    have v1_ := blk_frozen HW9.out.2.2.1 1
    cases s
    · go_wp2_with fail
      go_meet
      exact HW9.out.set1 0
    · go_wp2_with fail
      go_meet
      exact HW9.out
  case rest =>
  have HW10 := Aside0.mk hcut
  clear hcut HW9 HW8
  obtain ⟨x0, x1, x2, x3, x4, x5⟩ := hcell HW10.out.1
  go_upto_region 11 with fail
  go_cut [65] (fun x W => x = .bool (decide (Int.tmod D 4 ≠ 0 ∨ D = 4 ∨ D = 28)) ∧ W = wc)
  case first =>
    by_cases c1 : Int.tmod D 4 = 0
    · have d1 : (Int.tmod D 4 != 0) = false := by rw [c1]; rfl
      by_cases c2 : D = 4
      · have d2 : (D == 4) = true := beq_iff_eq.mpr c2
        go_wp2_with fail
        go_meet
        exact ⟨congrArg Value.bool (decide_eq_true (.inr (.inl c2))).symm, rfl⟩
      · have d2 : (D == 4) = false := beq_eq_false_iff_ne.mpr c2
        by_cases c3 : D = 28
        · have d3 : (D == 28) = true := beq_iff_eq.mpr c3
          go_wp2_with fail
          go_meet
          exact ⟨congrArg Value.bool (decide_eq_true (.inr (.inr c3))).symm, rfl⟩
        · have d3 : (D == 28) = false := beq_eq_false_iff_ne.mpr c3
          go_wp2_with fail
          go_meet
          exact ⟨congrArg Value.bool (decide_eq_false (by rintro (h | h | h) <;> first | exact h c1 | exact c2 h | exact c3 h)).symm, rfl⟩
    · have d1 : (Int.tmod D 4 != 0) = true := bne_iff_ne.mpr c1
      go_wp2_with fail
      go_meet
      exact ⟨congrArg Value.bool (decide_eq_true (.inl c1)).symm, rfl⟩
  case rest =>
  obtain ⟨rfl, rfl⟩ := hcut
  clear x0 x1 x2 x3 x4 x5
  go_upto_if 65 with fail
  go_cut [] (fun W => BW w w.heap.size g8 g11 B R M D N V (rOf R s) (dOf D) (rOf R s) (dOf D) W)
  case first =>
    obtain ⟨u0, u1, u2, u3, u4, u5⟩ := hcell HW10.out.2.2.1
    have v3_ := blk_frozen HW10.out.2.2.1 3
    by_cases c : Int.tmod D 4 ≠ 0 ∨ D = 4 ∨ D = 28
    · have e : dOf D = 0 := if_pos c
      have cc := decide_eq_true c
      go_wp2_with fail
      go_meet
      have h := HW10.out
      rw [e] at h ⊢
      exact h.set3 0
    · have e : dOf D = D := if_neg c
      have cc := decide_eq_false c
      go_wp2_with fail
      go_meet
      have h := HW10.out
      rw [e] at h ⊢
      exact h
  case rest =>
  have HW11 := Aside0.mk hcut
  clear hcut HW10
  obtain ⟨x0, x1, x2, x3, x4, x5⟩ := hcell HW11.out.2.1
  obtain ⟨u0, u1, u2, u3, u4, u5⟩ := hcell HW11.out.2.2.1
  go_wp2_with (first | (go_at_call 14; (with_reducible refine (head_Check.calls k B (rOf R s) M (dOf D) N V 0 _ HK.out).mono ?_); rintro e' w12 ⟨rfl, hb⟩; clear x0 x1 x2 x3 x4 x5 u0 u1 u2 u3 u4 u5; have HW12 := Aside0.mk (HW11.out.below hb); clear hb))
  all_goals go_ret
  all_goals exact ⟨rfl, HW12.out.2.2.2.2⟩
theorem serinettelaw17_HeadBack.calls (k : Nat) (a0_0 a0_1 a0_2 a0_3 a0_4 : Int) (a0_5 : Bool) (A1 : Option Addr) (c1 : Nat) (l1 : List Int) (r : Bool) (w : World) (hr1 : Kd.C (Kd.int .u8) w A1 l1.length l1) (hc1 : l1.length ≤ c1) (h : serinettelaw17_HeadBack.f k a0_0 a0_1 a0_2 a0_3 a0_4 a0_5 l1 = some r) :
    Calls Try.prog 7 #[.agg #[.int .i64 a0_0, .int .i64 a0_1, .int .i64 a0_2, .int .i64 a0_3, .int .i64 a0_4, .bool a0_5], .slice A1 l1.length c1] w fun e w' => e = .returned (.bool r) ∧ Below w.heap.size w w' := by
  unfold serinettelaw17_HeadBack.f at h
  obtain ⟨t, ha, h⟩ := Option.bind_eq_some_iff.mp h
  split at h
  case isFalse => cases h
  rename_i ht
  subst ht
  split at h
  case isTrue =>
    rename_i hl
    cases h
    exact back_long k a0_0 a0_1 a0_2 a0_3 a0_4 a0_5 A1 c1 l1 w ha hl
  rename_i hl
  obtain ⟨⟨b, e⟩, hp, h⟩ := Option.bind_eq_some_iff.mp h
  simp only at h
  by_cases he : e = 0
  · subst he
    rw [if_pos rfl] at h
    by_cases hbl : b.length ≤ 1000
    · rw [if_pos hbl] at h
      obtain ⟨q, ht, h⟩ := Option.bind_eq_some_iff.mp h
      obtain ⟨s, hs, h⟩ := Option.bind_eq_some_iff.mp h
      split at h
      case isFalse => cases h
      rename_i hq
      have eq : q = (q.1, q.2.1, q.2.2.1, q.2.2.2.1, q.2.2.2.2.1, q.2.2.2.2.2.1, q.2.2.2.2.2.2.1, q.2.2.2.2.2.2.2) := rfl
      rw [hq.1, hq.2.1, hq.2.2.1, hq.2.2.2.1, hq.2.2.2.2.1, hq.2.2.2.2.2.1, hq.2.2.2.2.2.2.1, hq.2.2.2.2.2.2.2] at eq
      rw [eq] at ht
      obtain ⟨c, hk, h⟩ := Option.bind_eq_some_iff.mp h
      split at h
      case isFalse => cases h
      rename_i hc
      rw [hc.1] at hk
      cases h
      exact back_good k _ a0_1 _ a0_3 _ _ A1 c1 l1 b s w hr1 hc1 ha hl hp hbl ht hs hk hc.2.1 hc.2.2
    · rw [if_neg hbl] at h
      cases h
  · rw [if_neg he] at h
    by_cases hb : b = []
    · rw [if_pos hb] at h
      obtain ⟨c, hk, h⟩ := Option.bind_eq_some_iff.mp h
      split at h
      case isFalse => cases h
      rename_i hc
      rw [hc] at hk
      rw [hb] at hp
      cases h
      exact back_bad k a0_0 a0_1 a0_2 a0_3 a0_4 a0_5 A1 c1 l1 w e ha hl hp he hk
    · rw [if_neg hb] at h
      cases h
/-- The one pure statement (lawrow.py). -/
def serinettelaw17_HeadBack.Pure : Prop := ∀ (a0_0 : Int) (a0_1 : Int) (a0_2 : Int) (a0_3 : Int) (a0_4 : Int) (a0_5 : Bool) (l1 : List Int), (Lit.int .i64 a0_0).wf = true → (Lit.int .i64 a0_1).wf = true → (Lit.int .i64 a0_2).wf = true → (Lit.int .i64 a0_3).wf = true → (Lit.int .i64 a0_4).wf = true → l1.length ≤ maxLen → (∀ x ∈ l1, (Lit.int .u8 x).wf = true) → ∃ k, serinettelaw17_HeadBack.f k a0_0 a0_1 a0_2 a0_3 a0_4 a0_5 l1 = some true
theorem serinettelaw17_HeadBack.walk (P : serinettelaw17_HeadBack.Pure) (a0_0 : Int) (a0_1 : Int) (a0_2 : Int) (a0_3 : Int) (a0_4 : Int) (a0_5 : Bool) (l1 : List Int) (w : World) (wa0_0 : (Lit.int .i64 a0_0).wf = true) (wa0_1 : (Lit.int .i64 a0_1).wf = true) (wa0_2 : (Lit.int .i64 a0_2).wf = true) (wa0_3 : (Lit.int .i64 a0_3).wf = true) (wa0_4 : (Lit.int .i64 a0_4).wf = true) (A1 : Option Addr) (c1 : Nat) (hr1 : Kd.C (Kd.int .u8) w A1 l1.length l1) (hc1 : l1.length ≤ c1) (hm1 : l1.length ≤ maxLen) (hw1 : ∀ x ∈ l1, (Lit.int .u8 x).wf = true) :
    Calls Try.prog 7 #[.agg #[.int .i64 a0_0, .int .i64 a0_1, .int .i64 a0_2, .int .i64 a0_3, .int .i64 a0_4, .bool a0_5], .slice A1 l1.length c1] w fun e w' => e = .returned (.bool true) ∧ Below w.heap.size w w' := by
  obtain ⟨k, h⟩ := P a0_0 a0_1 a0_2 a0_3 a0_4 a0_5 l1 wa0_0 wa0_1 wa0_2 wa0_3 wa0_4 hm1 hw1
  refine (serinettelaw17_HeadBack.calls k a0_0 a0_1 a0_2 a0_3 a0_4 a0_5 A1 c1 l1 true w hr1 hc1 h).mono ?_
  rintro e w' ⟨rfl, hd⟩
  exact ⟨rfl, hd⟩

end Go.Proofs.Ytbohlcccdcilkaa.PHeadBack
