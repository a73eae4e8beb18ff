/- The statement HeadCuts's own function as a plain one, with the proof that the program's call comes to it. For any arguments. -/
import Derived.Test.YtbohlcccdcilkaaPHeadCutsx1
import Derived.Test.YtbohlcccdcilkaaLFlip
namespace Go.Proofs.Ytbohlcccdcilkaa.PHeadCuts
open Go.RowKit Go.Proofs.YtbohlcccdcilkaaW.PrintWords Go.Proofs.YtbohlcccdcilkaaW.PrintLast Go.Proofs.YtbohlcccdcilkaaW.PrintMore Go.Proofs.Ytbohlcccdcilkaa.H Go.Proofs.Ytbohlcccdcilkaa.L
attribute [local go_sem] max2_int min2_int max_two min_two max_three min_three max_four min_four   -- for this text's walks alone
set_option linter.unusedVariables false
set_option linter.unusedSimpArgs false
/-! ### HeadCuts' own function, walked by hand -/
abbrev THb := Int × Int × Int × Int × Int × Bool × Int × Int
def serinettelaw17_HeadCuts.f (k : Nat) (a0_0 a0_1 a0_2 a0_3 a0_4 : Int) (a0_5 : Bool) (a1 a2 a3 : Int) : Option Bool :=
  (serinettelaw17_awake.f k).bind fun t => if t = true then
    (head_Put.f k a0_0 a0_1 a0_2 a0_3 a0_4 a0_5).bind fun p =>
      if p.2 = 0 then
        if (6 ≤ (p.1.length : Int) ∧ p.1.length ≤ 1000) ∧ (0 ≤ a1 ∧ a1 ≤ 255) ∧ (0 ≤ a2 ∧ a2 ≤ 255) ∧ (0 ≤ a3 ∧ a3 ≤ 255) ∧ (∀ x ∈ p.1, 0 ≤ x ∧ x ≤ 255) then
          (head_Take.f k (p.1.take (a1 % (p.1.length : Int)).toNat)).bind fun q0 => (head_Take.f k p.1).bind fun q1 => (head_Take.f k (cutsL 8 (a2 % (8 * (p.1.length : Int))).toNat p.1 a3 false).1).bind fun q2 =>
            if q0.2.2.2.2.2.2.2 = 2 ∧ q1.2.2.2.2.2.2.1 = (p.1.length : Int) ∧ q1.2.2.2.2.2.2.2 = 0 ∧ ((cutsL 8 (a2 % (8 * (p.1.length : Int))).toNat p.1 a3 false).2 = false ∨ q2.2.2.2.2.2.2.1 ≠ (p.1.length : Int)) then some true else none
        else none
      else some true
  else none
theorem serinettelaw17_HeadCuts.mono : ∀ a0_0 a0_1 a0_2 a0_3 a0_4 a0_5 a1 a2 a3 k, LeO (serinettelaw17_HeadCuts.f k a0_0 a0_1 a0_2 a0_3 a0_4 a0_5 a1 a2 a3) (serinettelaw17_HeadCuts.f (k + 1) a0_0 a0_1 a0_2 a0_3 a0_4 a0_5 a1 a2 a3) := fun _ _ _ _ _ _ _ _ _ _ =>
  leO_bind (serinettelaw17_awake.mono _) fun _ => leO_if (leO_bind (head_Put.mono _ _ _ _ _ _ _) fun _ => leO_if (leO_if (leO_bind (head_Take.mono _ _) fun _ => leO_bind (head_Take.mono _ _) fun _ => leO_bind (head_Take.mono _ _) fun _ => leO_self) leO_self) leO_self) leO_self
def CutsPost (w : World) (e : Ending) (w' : World) : Prop := e = .returned (.bool true) ∧ Below w.heap.size w w'
set_option maxHeartbeats 8000000 in
set_option maxRecDepth 100000 in
theorem cuts_bad (k : Nat) (B R M D N : Int) (V : Bool) (a1 a2 a3 : Int) (w : World) (b : List Int) (e : Int) (ha : serinettelaw17_awake.f k = some true)
    (hp : head_Put.f k B R M D N V = some (b, e)) (he : e ≠ 0) :
    Calls Try.prog 8 #[.agg (hcells B R M D N V), .int .u8 a1, .int .u8 a2, .int .u8 a3] w (CutsPost w) := by
  have HA := Aside0.mk ha
  have HP := Aside0.mk hp
  have ge : (e != 0) = true := bne_iff_ne.mpr he
  clear ha hp he
  go_enter Try.func8, Try.ntmps8
  go_wp2_with (first
    | (go_at_call 10; (with_reducible refine (serinettelaw17_awake.calls k true _ HA.out).mono ?_); rintro e' w1 ⟨rfl, hb⟩; have BK1 := Aside0.mk (blk_below (blk_new w _) hb); have HB1 := Aside0.mk (below_step (below_alloc (Below.refl _ _) _) hb); clear hb; obtain ⟨x0, x1, x2, x3, x4, x5⟩ := hcell BK1.out)
    | (go_at_call 11; (with_reducible refine (head_Put.calls k B R M D N V b e _ HP.out).mono ?_); rintro e' w2 ⟨v2, rfl, hr2, hb⟩; clear x0 x1 x2 x3 x4 x5; obtain ⟨A2, c2_, rfl⟩ := Kd.R_slice hr2; have HB2 := Aside0.mk (below_step HB1.out hb); clear hb hr2))
  go_ret
  exact ⟨rfl, HB2.out⟩
/-- The state of the loop that turns bits over. -/
def CutsRel (w : World) (K : Nat) (b : List Int) (Q : List Int × Bool) (v : Value) (i : Nat) (y : Int) (ch : Bool) (wr : World) : Prop :=
  ∃ c : List Int, i ≤ 8 ∧ (0 ≤ y ∧ y ≤ 255) ∧ cutsL (8 - i) (K + i) c y ch = Q ∧ c.length = b.length ∧ (∀ x ∈ c, 0 ≤ x ∧ x ≤ 255) ∧ Kd.R (Kd.int .u8) 5 wr w.heap.size (fun _ => True) v c ∧ Below w.heap.size w wr
theorem cuts_end {w wr : World} {K : Nat} {b : List Int} {Q : List Int × Bool} {v : Value} {i : Nat} {y : Int} {ch : Bool} (h : CutsRel w K b Q v i y ch wr) (hi : ¬ (i < 8 ∧ K + i < 8 * b.length)) :
    Kd.R (Kd.int .u8) 5 wr w.heap.size (fun _ => True) v Q.1 ∧ ch = Q.2 ∧ Below w.heap.size w wr := by
  obtain ⟨c, h8, _, hQ, hl, _, hr, hb⟩ := h
  by_cases e : i = 8
  · subst e
    have : (c, ch) = Q := hQ
    rw [← this]
    exact ⟨hr, rfl, hb⟩
  · obtain ⟨n, hn⟩ : ∃ n, 8 - i = n + 1 := ⟨7 - i, by omega⟩
    rw [hn] at hQ
    unfold cutsL at hQ
    rw [if_neg (by omega)] at hQ
    rw [← hQ]
    exact ⟨hr, rfl, hb⟩
theorem cuts_skip {w wr : World} {K : Nat} {b : List Int} {Q : List Int × Bool} {v : Value} {i : Nat} {y : Int} {ch : Bool} (h : CutsRel w K b Q v i y ch wr) (hi : i < 8) (hj : K + i < 8 * b.length) (hy : ¬ y % 2 = 1) : CutsRel w K b Q v (i + 1) (y / 2) ch wr := by
  obtain ⟨c, h8, hy8, hQ, hl, hx, hr, hb⟩ := h
  obtain ⟨n, hn⟩ : ∃ n, 8 - i = n + 1 := ⟨7 - i, by omega⟩
  rw [hn] at hQ
  unfold cutsL at hQ
  rw [if_pos (by omega), if_neg hy] at hQ
  exact ⟨c, by omega, by omega, by rw [show 8 - (i + 1) = n by omega]; exact hQ, hl, hx, hr, hb⟩
theorem cuts_turn {w wr' : World} {K : Nat} {b : List Int} {Q : List Int × Bool} {v : Value} {i : Nat} {y : Int} {ch : Bool} {c : List Int} (hi : i < 8) (hj : K + i < 8 * b.length) (hy : y % 2 = 1) (hy8 : 0 ≤ y ∧ y ≤ 255)
    (hQ : cutsL (8 - i) (K + i) c y ch = Q) (hl : c.length = b.length) (hx : ∀ x ∈ c, 0 ≤ x ∧ x ≤ 255)
    (hr : Kd.R (Kd.int .u8) 5 wr' w.heap.size (fun _ => True) v (flipB c (K + i))) (hb : Below w.heap.size w wr') : CutsRel w K b Q v (i + 1) (y / 2) true wr' := by
  obtain ⟨n, hn⟩ : ∃ n, 8 - i = n + 1 := ⟨7 - i, by omega⟩
  rw [hn] at hQ
  unfold cutsL at hQ
  rw [if_pos (by omega), if_pos hy] at hQ
  exact ⟨flipB c (K + i), by omega, by omega, by rw [show 8 - (i + 1) = n by omega]; exact hQ, by rw [flip_len]; exact hl, flip_rng c _ hx, hr, hb⟩
theorem row_at {W : World} {base g n cap : Nat} {xs : List Int} (h : Kd.R (Kd.int .u8) 5 W base (fun _ => True) (.slice (some ⟨g, 0, none⟩) n cap) xs) (i : Nat) (hi : i < xs.length) :
    W.cell? ⟨g, i, none⟩ = some (.int .u8 (rd xs (i : Int))) ∧ W.frozen? ⟨g, i, none⟩ = false := by
  have e := (Kd.R_reads' h).1
  subst e
  have hc := Kd.R_cell (0 : Int) h (i : Int) (Int.natCast_nonneg _) (by omega)
  rw [Int.toNat_natCast] at hc
  exact hc
theorem row_put {W : World} {base g n cap : Nat} {xs : List Int} (h : Kd.R (Kd.int .u8) 5 W base (fun _ => True) (.slice (some ⟨g, 0, none⟩) n cap) xs) (i : Nat) (x : Int) :
    Kd.R (Kd.int .u8) 5 (W.setCell ⟨g, i, none⟩ (.int .u8 x)) base (fun _ => True) (.slice (some ⟨g, 0, none⟩) n cap) (xs.set i x) := by
  have e := (Kd.R_reads' h).1
  subst e
  have hc := (Kd.R_put h (i : Int) x).1
  rw [Int.toNat_natCast] at hc
  exact hc
theorem shift_all8 : ∀ s : Fin 8, ((128 >>> s.val : Nat) : Int) = (128 : Int) / 2 ^ s.val := by decide
theorem shift_at (s : Nat) (h : s < 8) : ((128 >>> s : Nat) : Int) = (128 : Int) / 2 ^ s := shift_all8 ⟨s, h⟩
theorem cutsL_true : ∀ (n j : Nat) (c : List Int) (y : Int), (cutsL n j c y true).2 = true
  | 0, _, _, _ => rfl
  | n + 1, j, c, y => by
    unfold cutsL
    split
    · split
      · exact cutsL_true n _ _ _
      · exact cutsL_true n _ _ _
    · rfl
theorem cutsL_same : ∀ (n j : Nat) (c : List Int) (y : Int), (cutsL n j c y false).2 = false → (cutsL n j c y false).1 = c
  | 0, _, _, _, _ => rfl
  | n + 1, j, c, y, h => by
    unfold cutsL at h ⊢
    split
    · rename_i hj
      rw [if_pos hj] at h
      split
      · rename_i hy
        rw [if_pos hy, cutsL_true] at h
        cases h
      · rename_i hy
        rw [if_neg hy] at h
        exact cutsL_same n _ _ _ h
    · rfl
theorem take_calls_n (k : Nat) (A0 : Option Addr) (n c0 : Nat) (l0 : List Int) (q : THb) (w : World) (hn : l0.length = n) (hr0 : Kd.C (Kd.int .u8) w A0 l0.length l0) (hc0 : l0.length ≤ c0) (h : head_Take.f k l0 = some q) :
    Calls Try.prog 18 #[.slice A0 n c0] w fun e w' => e = .returned (.tuple #[.agg (hcells q.1 q.2.1 q.2.2.1 q.2.2.2.1 q.2.2.2.2.1 q.2.2.2.2.2.1), .int .i64 q.2.2.2.2.2.2.1, .int .i64 q.2.2.2.2.2.2.2]) ∧ Below w.heap.size w w' := by
  subst hn
  exact head_Take.calls k A0 c0 l0 _ _ _ _ _ _ _ _ w hr0 hc0 h
set_option maxHeartbeats 8000000 in
set_option maxRecDepth 100000 in
theorem cuts_good (k : Nat) (B R M D N : Int) (V : Bool) (a1 a2 a3 : Int) (w : World) (b : List Int) (n1 K : Nat) (q0 q1 q2 : THb) (Q : List Int × Bool) (ha : serinettelaw17_awake.f k = some true)
    (hp : head_Put.f k B R M D N V = some (b, 0)) (h6 : 6 ≤ b.length) (hbl : b.length ≤ 1000) (ha1 : 0 ≤ a1 ∧ a1 ≤ 255) (ha2 : 0 ≤ a2 ∧ a2 ≤ 255) (ha3 : 0 ≤ a3 ∧ a3 ≤ 255)
    (hn1 : a1 % (b.length : Int) = (n1 : Int)) (hK : a2 % (8 * (b.length : Int)) = (K : Int)) (ht0 : head_Take.f k (b.take n1) = some q0) (ht1 : head_Take.f k b = some q1) (hQ : cutsL 8 K b a3 false = Q) (ht2 : head_Take.f k Q.1 = some q2)
    (e0 : q0.2.2.2.2.2.2.2 = 2) (e1 : q1.2.2.2.2.2.2.1 = (b.length : Int)) (e2 : q1.2.2.2.2.2.2.2 = 0) (hx : ∀ x ∈ b, 0 ≤ x ∧ x ≤ 255) (hor : Q.2 = false ∨ q2.2.2.2.2.2.2.1 ≠ (b.length : Int)) :
    Calls Try.prog 8 #[.agg (hcells B R M D N V), .int .u8 a1, .int .u8 a2, .int .u8 a3] w (CutsPost w) := by
  obtain ⟨p0, p1, p2, p3, p4, p5, p6, p7⟩ := q0
  obtain ⟨uu0, uu1, uu2, uu3, uu4, uu5, uu6, uu7⟩ := q1
  simp only at e0 e1 e2
  subst e0 e1 e2
  have HX := Aside0.mk hx
  have HOR := Aside0.mk hor
  have HA := Aside0.mk ha
  have HP := Aside0.mk hp
  have HT0 := Aside0.mk ht0
  have HT1 := Aside0.mk ht1
  have HT2 := Aside0.mk ht2
  have HQ := Aside0.mk hQ
  have HBL := Aside0.mk hbl
  have hn1l : n1 < b.length := by
    have := Int.emod_lt_of_pos a1 (show (0 : Int) < (b.length : Int) by omega)
    omega
  have hKl : K < 8 * b.length := by
    have := Int.emod_lt_of_pos a2 (show (0 : Int) < 8 * (b.length : Int) by omega)
    omega
  have g1 : decide ((b.length : Int) < 6) = false := decide_eq_false (by omega)
  have g2 : decide (b.length < 6) = false := decide_eq_false (by omega)
  have z1 : ((b.length : Int) == 0) = false := beq_eq_false_iff_ne.mpr (by omega)
  have z2 : (b.length == 0) = false := beq_eq_false_iff_ne.mpr (by omega)
  have z3 : (8 * (b.length : Int) == 0) = false := beq_eq_false_iff_ne.mpr (by omega)
  obtain ⟨a1l, a1h⟩ := ha1
  obtain ⟨a2l, a2h⟩ := ha2
  obtain ⟨a3l, a3h⟩ := ha3
  clear ha hp hQ ht0 ht1 ht2 hx hor
  go_enter Try.func8, Try.ntmps8
  go_upto_region 8 with (first
    | (go_at_call 10; (with_reducible refine (serinettelaw17_awake.calls k true _ HA.out).mono ?_); rintro e' w1 ⟨rfl, hb⟩; have BK1 := Aside0.mk (blk_below (blk_new w _) hb); have HB1 := Aside0.mk (below_step (below_alloc (Below.refl _ _) _) hb); clear hb; obtain ⟨x0, x1, x2, x3, x4, x5⟩ := hcell BK1.out)
    | (go_at_call 11; (with_reducible refine (head_Put.calls k B R M D N V b 0 _ HP.out).mono ?_); rintro e' w2 ⟨v2, rfl, hr2, hb⟩; clear x0 x1 x2 x3 x4 x5; obtain ⟨A2, c2_, rfl⟩ := Kd.R_slice hr2; have C2 := Aside0.mk (Kd.R_reads' hr2).2.2; have L2 := Aside0.mk (Kd.R_reads' hr2).2.1; have l2 : n1 ≤ c2_ := Nat.le_trans (Nat.le_of_lt hn1l) L2.out; have HB2 := Aside0.mk (below_step HB1.out hb); clear hb hr2)
    | (go_at_call 18; (with_reducible refine (take_calls_n k A2 n1 c2_ (b.take n1) _ _ (by rw [List.length_take]; omega) (Kd.C_take C2.out (Nat.le_of_lt hn1l)) (by rw [List.length_take]; omega) HT0.out).mono ?_); rintro e' w3 ⟨rfl, hb⟩; have HB3 := Aside0.mk (below_step HB2.out hb); have B23 := Aside0.mk hb; clear hb))
  go_upto_block 0 with (first
    | ((with_reducible refine gate_dst (N := 50) rfl ?_); refine Kd.R_lit (Kd.int .u8) (w0 := w3) w3.heap.size 5 ?hg (N := 50) ?hd (xs := ([] : List Int)) (inner := []) (ok := fun _ => True) (okp := fun _ => True) ?hr ?hp (fun _ hk => hk) trivial (below_alloc (Below.refl _ _) _) (below_size (below_alloc (Below.refl _ _) _)) (by simp) ?_; (case hd => rfl); (case hg => rfl); (case hr => first | (go_simp; done) | (go_simp; rfl)); (case hp => exact Reps.none _ _); intro v50 w4 ho50 hb4 hg_ hnew_; clear hg_ hnew_; have R4 := Aside0.mk ho50; have HB4 := Aside0.mk hb4; clear ho50 hb4)
    | ((with_reducible refine gate_builtin (b := .append) (xs := #[.tmp 50, .tmp 51]) rfl ?_); at_builtin; refine Kd.R_append_rows (Kd.int .u8) (w0 := w3) w3.heap.size rfl (.tmp 50) (.tmp 51) 25 5 (.int .u8 0) 1 rfl Try.underlying25 info5 rfl (by decide) (by omega) _ [] b _ _ _ (fun _ => True) (fun _ => False) rfl rfl R4.out (Kd.C_below (Kd.C_below C2.out B23.out) HB4.out) (fun _ _ h => h) (fun _ h => h.elim) (fun _ _ => trivial) HB4.out (below_size HB4.out) (by have := HBL.out; simp only [List.length_nil]; omega) ?_; intro v52 w5 hr5 hb5 hg hat; clear hg hat; have R5 := Aside0.mk hr5; have HB5 := Aside0.mk hb5; clear hr5 hb5))
  rw [hK]
  clear hn1 hK z1 z2 z3 R4 HB4 g1 g2
  have R6 := R5.out
  rw [List.nil_append] at R6
  obtain ⟨g, cap, hv, hge, _, _⟩ := Kd.R_form R6 (by omega)
  subst hv
  have S0 : Aside0 (CutsRel w3 K b Q (.slice (some ⟨g, 0, none⟩) b.length cap) 0 a3 false w5) := ⟨b, by omega, ⟨a3l, a3h⟩, HQ.out, rfl, HX.out, R6, HB5.out⟩
  clear R6 R5 HB5
  go_cut [17] (fun x W => x = .bool Q.2 ∧ Aside0 (Kd.R (Kd.int .u8) 5 W w3.heap.size (fun _ => True) (.slice (some ⟨g, 0, none⟩) b.length cap) Q.1 ∧ Below w3.heap.size w3 W))
  case first =>
    go_wp2_with fail
    go_loopw [3, 17, 18] (fun y ch i wr => ∃ (Y : Int) (C : Bool) (I : Nat), y = .int .u8 Y ∧ ch = .bool C ∧ i = .int .i64 I ∧ I ≤ 8 ∧ Aside0 (CutsRel w3 K b Q (.slice (some ⟨g, 0, none⟩) b.length cap) I Y C wr)) (fun _ _ i _ => 8 - (intOf i).toNat)
    case atStart => exact ⟨a3, false, 0, rfl, rfl, rfl, by omega, S0⟩
    case round =>
      clear S0
      obtain ⟨Y, C, I, rfl, rfl, rfl, hI, HR⟩ := hrel
      by_cases hi : I < 8
      · have c1 : decide ((I : Int) < 8) = true := decide_eq_true (by omega)
        have c2 : decide (I < 8) = true := decide_eq_true hi
        by_cases hj : K + I < 8 * b.length
        · have c3 : decide ((K : Int) + (I : Int) < 8 * (b.length : Int)) = true := decide_eq_true (by omega)
          have c4 : decide (K + I < 8 * b.length) = true := decide_eq_true hj
          have hY := HR.out.choose_spec.2.1
          have hY0 := hY.1
          have hY1 := hY.2
          clear hY
          go_upto_if 74 with fail
          by_cases hy : Y % 2 = 1
          · have y1 : (Y % 2 == 1) = true := beq_iff_eq.mpr hy
            obtain ⟨c, _, _, hQ', hl, hx', hr, hb⟩ := HR.out
            have HQ' := Aside0.mk hQ'
            have HX' := Aside0.mk hx'
            have HR' := Aside0.mk hr
            have HB' := Aside0.mk hb
            obtain ⟨hc, hf⟩ := row_at hr ((K + I) / 8) (by omega)
            have q0 : ((K : Int) + (I : Int)) = ((K + I : Nat) : Int) := by omega
            have q1 : Int.tdiv ((K + I : Nat) : Int) 8 = (((K + I) / 8 : Nat) : Int) := by rw [Int.tdiv_eq_ediv_of_nonneg (Int.natCast_nonneg _)]; omega
            have q2 : Int.tmod ((K + I : Nat) : Int) 8 = (((K + I) % 8 : Nat) : Int) := by rw [Int.tmod_eq_emod_of_nonneg (Int.natCast_nonneg _)]; omega
            have hS : K + I < 8008 := by omega
            have j1 : (K + I) / 8 < b.length := by omega
            have j2 : (K + I) % 8 < 8 := Nat.mod_lt _ (by decide)
            have HJ := Aside0.mk hj
            have HY := Aside0.mk hy
            have HL := Aside0.mk hl
            have hS : K + I < 8008 := by omega
            clear hQ' hx' hr hb hl HR hj c1 c2 c3 c4 hy
            generalize eJ : (K + I) / 8 = J at *
            generalize es : (K + I) % 8 = s at *
            have w1 : IntKind.i64.wrap ((K + I : Nat) : Int) = ((K + I : Nat) : Int) := by rw [IntKind.wrap_i64]; omega
            have w2 : IntKind.i64.wrap (J : Int) = (J : Int) := by rw [IntKind.wrap_i64]; omega
            have w3_ : IntKind.i64.wrap (s : Int) = (s : Int) := by rw [IntKind.wrap_i64]; omega
            generalize eS : K + I = S at *
            generalize ex : rd c (J : Int) = x at *
            have EJ := Aside0.mk eJ
            have Es := Aside0.mk es
            have ES := Aside0.mk eS
            have Ex := Aside0.mk ex
            have hge' := Aside0.mk hge
            clear eJ es eS ex
            have k1 : (0 : Int) ≤ (J : Int) := Int.natCast_nonneg _
            have k2 : (J : Int) < (b.length : Int) := by omega
            have k3 : (0 : Int) ≤ (s : Int) := Int.natCast_nonneg _
            have k4 : (s : Int) < 8 := by omega
            go_wp2_with fail
            go_region
            go_wp2_with fail
            go_roundw
            case rel =>
              refine ⟨Y / 2, true, I + 1, by go_num, rfl, by go_num, by omega, ⟨cuts_turn (c := c) (ch := C) hi (by rw [ES.out]; exact HJ.out) HY.out ⟨hY0, hY1⟩ (by rw [ES.out]; exact HQ'.out) HL.out HX'.out ?_ ?_⟩⟩
              · have hp := Kd.R_drew (row_put HR'.out J (Go.bits .xor .u8 x (128 / 2 ^ s)))
                have e : flipB c (K + I) = c.set J (Go.bits .xor .u8 x (128 / 2 ^ s)) := by
                  unfold flipB
                  rw [ES.out, EJ.out, Es.out, Ex.out, shift_at s j2]
                rw [e]
                exact hp
              · exact below_drew (below_set HB'.out hge'.out)
            case measure => simp [intOf]; omega
          · have y1 : (Y % 2 == 1) = false := beq_eq_false_iff_ne.mpr hy
            go_wp2_with fail
            go_roundw
            case rel => exact ⟨Y / 2, C, I + 1, by go_num, rfl, by go_num, by omega, ⟨cuts_skip HR.out hi hj hy⟩⟩
            case measure => simp [intOf]; omega
        · have c3 : decide ((K : Int) + (I : Int) < 8 * (b.length : Int)) = false := decide_eq_false (by omega)
          have c4 : decide (K + I < 8 * b.length) = false := decide_eq_false hj
          go_wp2_with fail
          go_meet
          obtain ⟨h1, h2, h3⟩ := cuts_end HR.out (by omega)
          exact ⟨by rw [h2], ⟨h1, h3⟩⟩
      · have c1 : decide ((I : Int) < 8) = false := decide_eq_false (by omega)
        have c2 : decide (I < 8) = false := decide_eq_false hi
        go_wp2_with fail
        go_meet
        obtain ⟨h1, h2, h3⟩ := cuts_end HR.out (by omega)
        exact ⟨by rw [h2], ⟨h1, h3⟩⟩
  case rest =>
  obtain ⟨rfl, hc2⟩ := hcut
  have RC := Aside0.mk hc2.out.1
  have BC := Aside0.mk hc2.out.2
  have HBC := Aside0.mk (below_step HB3.out hc2.out.2)
  have CC := Aside0.mk (Kd.C_below (Kd.C_below C2.out B23.out) BC.out)
  have hql := (Kd.R_reads' RC.out).1
  have HQL := Aside0.mk hql
  clear hc2 hql S0 C2
  rcases HOR.out with hq | hq
  · have e := cutsL_same 8 K b a3 (by rw [HQ.out]; exact hq)
    rw [HQ.out] at e
    rw [e] at HT2 RC
    have e2 := Option.some.inj (HT2.out.symm.trans HT1.out)
    subst e2
    rw [hq]
    clear hq e HT2 HQ
    go_wp2_with (first
      | (go_at_call 18; (with_reducible refine (take_calls_n k A2 b.length c2_ b _ _ rfl CC.out L2.out HT1.out).mono ?_); rintro e' w6 ⟨rfl, hb⟩; have HB6 := Aside0.mk (below_step HBC.out hb); have R6 := Aside0.mk (Kd.R_below RC.out (below_alloc hb (.cells (hcells uu0 uu1 uu2 uu3 uu4 uu5) 23 (0, 0)))); have BK6 := Aside0.mk (heap_alloc_last w6 (.cells (hcells uu0 uu1 uu2 uu3 uu4 uu5) 23 (0, 0))); clear hb)
      | (go_at_call 18; (with_reducible refine (take_calls_n k (some ⟨g, 0, none⟩) b.length cap b _ _ rfl (Kd.R_reads' R6.out).2.2 (Kd.R_reads' R6.out).2.1 HT1.out).mono ?_); rintro e' w7 ⟨rfl, hb⟩; have HB7 := Aside0.mk (below_step (below_alloc HB6.out _) hb); have BK7 := Aside0.mk (blk_below BK6.out hb); clear hb; obtain ⟨x0, x1, x2, x3, x4, x5⟩ := hcell (blk_alloc BK7.out (.cells (hcells uu0 uu1 uu2 uu3 uu4 uu5) 23 (0, 0)))))
    all_goals go_ret
    all_goals exact ⟨rfl, below_alloc HB7.out _⟩
  · obtain ⟨tt0, tt1, tt2, tt3, tt4, tt5, tt6, tt7⟩ := q2
    simp only at hq
    have gs1 : (tt6 == (b.length : Int)) = false := beq_eq_false_iff_ne.mpr hq
    have gs2 : ((b.length : Int) == tt6) = false := beq_eq_false_iff_ne.mpr (Ne.symm hq)
    clear hq
    generalize Q.2 = ch
    cases ch
    all_goals go_wp2_with (first
      | (go_at_call 18; (with_reducible refine (take_calls_n k A2 b.length c2_ b _ _ rfl CC.out L2.out HT1.out).mono ?_); rintro e' w6 ⟨rfl, hb⟩; have HB6 := Aside0.mk (below_step HBC.out hb); have R6 := Aside0.mk (Kd.R_below RC.out (below_alloc hb (.cells (hcells uu0 uu1 uu2 uu3 uu4 uu5) 23 (0, 0)))); clear hb)
      | (go_at_call 18; (with_reducible refine (take_calls_n k (some ⟨g, 0, none⟩) b.length cap Q.1 _ _ HQL.out.symm (Kd.R_reads' R6.out).2.2 (HQL.out ▸ (Kd.R_reads' R6.out).2.1) HT2.out).mono ?_); rintro e' w7 ⟨rfl, hb⟩; have HB7 := Aside0.mk (below_step (below_alloc HB6.out _) hb); clear hb))
    all_goals go_ret
    all_goals exact ⟨rfl, below_alloc HB7.out _⟩
theorem serinettelaw17_HeadCuts.calls (k : Nat) (a0_0 a0_1 a0_2 a0_3 a0_4 : Int) (a0_5 : Bool) (a1 a2 a3 : Int) (r : Bool) (w : World) (h : serinettelaw17_HeadCuts.f k a0_0 a0_1 a0_2 a0_3 a0_4 a0_5 a1 a2 a3 = some r) :
    Calls Try.prog 8 #[.agg #[.int .i64 a0_0, .int .i64 a0_1, .int .i64 a0_2, .int .i64 a0_3, .int .i64 a0_4, .bool a0_5], .int .u8 a1, .int .u8 a2, .int .u8 a3] w fun e w' => e = .returned (.bool r) ∧ Below w.heap.size w w' := by
  unfold serinettelaw17_HeadCuts.f at h
  obtain ⟨t, ha, h⟩ := Option.bind_eq_some_iff.mp h
  split at h
  case isFalse => cases h
  rename_i ht
  subst ht
  obtain ⟨⟨b, e⟩, hp, h⟩ := Option.bind_eq_some_iff.mp h
  simp only at h
  by_cases he : e = 0
  · subst he
    rw [if_pos rfl] at h
    split at h
    case isFalse => cases h
    rename_i hc
    obtain ⟨q0, h0, h⟩ := Option.bind_eq_some_iff.mp h
    obtain ⟨q1, h1, h⟩ := Option.bind_eq_some_iff.mp h
    obtain ⟨q2, h2, h⟩ := Option.bind_eq_some_iff.mp h
    split at h
    case isFalse => cases h
    rename_i hq
    cases h
    have hb0 : (b.length : Int) ≠ 0 := by omega
    have hx : ∀ x ∈ b, 0 ≤ x ∧ x ≤ 255 := hc.2.2.2.2
    exact cuts_good k a0_0 a0_1 a0_2 a0_3 a0_4 a0_5 a1 a2 a3 w b (a1 % (b.length : Int)).toNat (a2 % (8 * (b.length : Int))).toNat q0 q1 q2 _ ha hp (by omega) hc.1.2 hc.2.1 hc.2.2.1 hc.2.2.2.1
      (Int.toNat_of_nonneg (Int.emod_nonneg _ hb0)).symm (Int.toNat_of_nonneg (Int.emod_nonneg _ (by omega))).symm h0 h1 rfl h2 hq.1 hq.2.1 hq.2.2.1 hx hq.2.2.2
  · rw [if_neg he] at h
    cases h
    exact cuts_bad k a0_0 a0_1 a0_2 a0_3 a0_4 a0_5 a1 a2 a3 w b e ha hp he
/-- The one pure statement (lawrow.py). -/
def serinettelaw17_HeadCuts.Pure : Prop := ∀ (a0_0 : Int) (a0_1 : Int) (a0_2 : Int) (a0_3 : Int) (a0_4 : Int) (a0_5 : Bool) (a1 : Int) (a2 : Int) (a3 : Int), (Lit.int .i64 a0_0).wf = true → (Lit.int .i64 a0_1).wf = true → (Lit.int .i64 a0_2).wf = true → (Lit.int .i64 a0_3).wf = true → (Lit.int .i64 a0_4).wf = true → (Lit.int .u8 a1).wf = true → (Lit.int .u8 a2).wf = true → (Lit.int .u8 a3).wf = true → ∃ k, serinettelaw17_HeadCuts.f k a0_0 a0_1 a0_2 a0_3 a0_4 a0_5 a1 a2 a3 = some true
theorem serinettelaw17_HeadCuts.walk (P : serinettelaw17_HeadCuts.Pure) (a0_0 : Int) (a0_1 : Int) (a0_2 : Int) (a0_3 : Int) (a0_4 : Int) (a0_5 : Bool) (a1 : Int) (a2 : Int) (a3 : Int) (w : World) (wa0_0 : (Lit.int .i64 a0_0).wf = true) (wa0_1 : (Lit.int .i64 a0_1).wf = true) (wa0_2 : (Lit.int .i64 a0_2).wf = true) (wa0_3 : (Lit.int .i64 a0_3).wf = true) (wa0_4 : (Lit.int .i64 a0_4).wf = true) (wa1 : (Lit.int .u8 a1).wf = true) (wa2 : (Lit.int .u8 a2).wf = true) (wa3 : (Lit.int .u8 a3).wf = true) :
    Calls Try.prog 8 #[.agg #[.int .i64 a0_0, .int .i64 a0_1, .int .i64 a0_2, .int .i64 a0_3, .int .i64 a0_4, .bool a0_5], .int .u8 a1, .int .u8 a2, .int .u8 a3] w fun e w' => e = .returned (.bool true) ∧ Below w.heap.size w w' := by
  obtain ⟨k, h⟩ := P a0_0 a0_1 a0_2 a0_3 a0_4 a0_5 a1 a2 a3 wa0_0 wa0_1 wa0_2 wa0_3 wa0_4 wa1 wa2 wa3
  refine (serinettelaw17_HeadCuts.calls k a0_0 a0_1 a0_2 a0_3 a0_4 a0_5 a1 a2 a3 true w h).mono ?_
  rintro e w' ⟨rfl, hd⟩
  exact ⟨rfl, hd⟩

end Go.Proofs.Ytbohlcccdcilkaa.PHeadCuts
