-- written by this session's program wip/reprint.sh (a turned copy of the kit's print): the session's own text
import Derived.Test.YtpeejdmbnlhjmaaPMetaSizesx0
import Derived.Lib.SlBytesConst
namespace Go.Proofs.Ytpeejdmbnlhjmaa.PMetaSizes
open Go.RowKit Go.Proofs.YtpeejdmbnlhjmaaW.PrintWords Go.Proofs.YtpeejdmbnlhjmaaW.PrintLast Go.Proofs.YtpeejdmbnlhjmaaW.PrintMore Go.Proofs.Ytpeejdmbnlhjmaa.H
attribute [local go_sem] max2_int min2_int max_two min_two max_three min_three max_four min_four   -- for this text's walks alone
set_option linter.unusedVariables false
set_option linter.unusedSimpArgs false

/-! ### serinetteref18_Few: function 39 -/
def serinetteref18_Few.l0 : Nat → List (S24) → Int → Option (Bool)
  | 0, _, _ => none
  | k + 1, x0, x3 => if x3 < (x0.length : Int) then (if 0 ≤ x3 then (if (((rd_T24 x0 x3).f1).length : Int) > 200 then (some false) else (serinetteref18_Few.l0 k x0 (wrap64 (x3 + 1)))) else (none)) else (some (decide ((x0.length : Int) ≤ 10)))
def serinetteref18_Few.f (k : Nat) (l0 : List (S24)) : Option (Bool) := serinetteref18_Few.l0 k l0 0
theorem serinetteref18_Few.mono_l : ∀ k, (∀ y0 y1, LeO (serinetteref18_Few.l0 k y0 y1) (serinetteref18_Few.l0 (k + 1) y0 y1))
  | 0 => fun _ _ r h => by simp [serinetteref18_Few.l0] at h
  | k + 1 => by
    have ih0 := serinetteref18_Few.mono_l k
    · intro y0 y1
      unfold serinetteref18_Few.l0
      repeat' first
      | (with_reducible exact ih0 _ _)
      | (with_reducible exact LeO.refl _)
      | (with_reducible exact LeO.none _)
      | (with_reducible refine LeO.ite ?_ ?_)
      | (with_reducible refine LeO.bind ?_ (fun _ => ?_))
      | exact ih0 _ _
      | exact LeO.none _
      | refine LeO.ite ?_ ?_
      | refine LeO.bind ?_ (fun _ => ?_)
theorem serinetteref18_Few.mono : ∀ a0 k, LeO (serinetteref18_Few.f k a0) (serinetteref18_Few.f (k + 1) a0) := by
  intro a0 k
  have ih0 := serinetteref18_Few.mono_l k
  unfold serinetteref18_Few.f
  repeat' first
      | (with_reducible exact ih0 _ _)
      | (with_reducible exact LeO.refl _)
      | (with_reducible exact LeO.none _)
      | (with_reducible refine LeO.ite ?_ ?_)
      | (with_reducible refine LeO.bind ?_ (fun _ => ?_))
      | exact ih0 _ _
      | exact LeO.none _
      | refine LeO.ite ?_ ?_
      | refine LeO.bind ?_ (fun _ => ?_)
set_option maxHeartbeats 8000000 in
set_option maxRecDepth 100000 in
theorem serinetteref18_Few.calls (k : Nat) (A0 : Option Addr) (c0 : Nat) (l0 : List (S24)) (r : Bool) (w : World) (hr0 : Kd.C k24 w A0 l0.length l0) (hc0 : l0.length ≤ c0) (h : serinetteref18_Few.f k l0 = some r) :
    Calls Try.prog 39 #[.slice A0 l0.length c0] w fun e w' => e = .returned (.bool r) ∧ Drawn0 w w' := by
  have HR0 := Aside0.mk hr0
  have HC0 := Aside0.mk hc0
  clear hr0 hc0
  have H : (serinetteref18_Few.l0 k l0 0) = some r := h
  clear h
  have H' := Aside0.mk H
  clear H
  go_enter Try.func39, Try.ntmps39
  go_wp2
  go_loopg [3] k (fun kq v3 w' => ∃ (x3_1 : Int), v3 = .int .i64 x3_1 ∧ Aside0 (serinetteref18_Few.l0 kq l0 x3_1 = some r) ∧ Aside0 (kq ≤ k) ∧ Drawn0 w w')
  case atStart => exact ⟨(0), (by first | rfl | (simp; done) | (simp [*]; done)), H', ⟨Nat.le_refl _⟩, by repeat (first | exact Drawn0.refl _ | apply Drawn0.step)⟩
  case round =>
    clear H'
    obtain ⟨x3_1, rfl, HA, HK1, ⟨m1, rfl⟩⟩ := hrel
    cases gk with
    | zero => exact absurd HA.out (by simp [serinetteref18_Few.l0])
    | succ k1 =>
      have H := HA.out
      clear HA
      simp only [serinetteref18_Few.l0] at H
      by_cases c2 : x3_1 < (l0.length : Int)
      · rw [if_pos c2] at H
        have c2b0 : decide (x3_1 < (l0.length : Int)) = true := decide_eq_true c2
        clear c2
        by_cases c3 : 0 ≤ x3_1
        · rw [if_pos c3] at H
          have c3b0 : decide (0 ≤ x3_1) = true := decide_eq_true c3
          clear c3
          by_cases c4 : (((rd_T24 l0 x3_1).f1).length : Int) > 200
          · rw [if_pos c4] at H
            have c4b0 : decide (200 < (((rd_T24 l0 x3_1).f1).length : Int)) = true := decide_eq_true c4
            have c4b1 : decide (200 < ((rd_T24 l0 x3_1).f1).length) = true := decide_eq_true (by omega)
            clear c4
            obtain rfl := Option.some.inj H
            have p101 : 0 ≤ (x3_1 : Int) := of_decide_eq_true (by first | (with_reducible assumption) | assumption)
            have q101 : x3_1 < (l0.length : Int) := of_decide_eq_true (by first | (with_reducible assumption) | assumption)
            obtain ⟨ad101, A101_1, c101_1, e101, hx101_0, hx101_1, hl101_1, hi101_1⟩ := at_T24 HR0.out x3_1 p101 q101
            cases e101
            have HR101_1 := Aside0.mk hi101_1
            have HC101_1 := Aside0.mk hl101_1
            clear hi101_1 hl101_1
            replace p101 := eq_true p101
            replace q101 := eq_true q101
            go_wp2
            go_ret
            exact ⟨by first | rfl | (simp; done) | (simp [*]; done), by repeat (first | exact Drawn0.refl _ | apply Drawn0.step)⟩
          · rw [if_neg c4] at H
            have c4b0 : decide (200 < (((rd_T24 l0 x3_1).f1).length : Int)) = false := decide_eq_false c4
            have c4b1 : decide (200 < ((rd_T24 l0 x3_1).f1).length) = false := decide_eq_false (by omega)
            clear c4
            have H' := Aside0.mk H
            clear H
            have p101 : 0 ≤ (x3_1 : Int) := of_decide_eq_true (by first | (with_reducible assumption) | assumption)
            have q101 : x3_1 < (l0.length : Int) := of_decide_eq_true (by first | (with_reducible assumption) | assumption)
            obtain ⟨ad101, A101_1, c101_1, e101, hx101_0, hx101_1, hl101_1, hi101_1⟩ := at_T24 HR0.out x3_1 p101 q101
            cases e101
            have HR101_1 := Aside0.mk hi101_1
            have HC101_1 := Aside0.mk hl101_1
            clear hi101_1 hl101_1
            replace p101 := eq_true p101
            replace q101 := eq_true q101
            go_wp2
            go_roundg k1
            case measure => have := HK1.out; omega
            case rel => exact ⟨(wrap64 (x3_1 + 1)), (by first | rfl | (simp; done) | (simp [*]; done)), H', ⟨by have := HK1.out; omega⟩, by repeat (first | exact Drawn0.refl _ | apply Drawn0.step)⟩
        · rw [if_neg c3] at H
          exact absurd H (by simp)
      · rw [if_neg c2] at H
        have c2b0 : decide (x3_1 < (l0.length : Int)) = false := decide_eq_false c2
        clear c2
        obtain rfl := Option.some.inj H
        go_wp2
        go_ret
        exact ⟨by first | rfl | (simp; done) | (simp [*]; done), by repeat (first | exact Drawn0.refl _ | apply Drawn0.step)⟩

/-! ### meta_odd: function 60 -/
def meta_odd.j0 : Nat → Bool → Int → List Int → Option (Int)
  | 0, _, _, _ => none
  | k + 1, x3, x103000, x103001 => if x3 = true then (some 8) else (if (x103001.length : Int) > 16777215 then (some 7) else (some 0))
def meta_odd.f (k : Nat) (a0_0 : Int) (l0_1 : List Int) : Option (Int) := if a0_0 < 0 then (meta_odd.j0 k true a0_0 l0_1) else (meta_odd.j0 k (decide (a0_0 ≥ 127)) a0_0 l0_1)
theorem meta_odd.mono_l : ∀ k, (∀ y0 y1 y2, LeO (meta_odd.j0 k y0 y1 y2) (meta_odd.j0 (k + 1) y0 y1 y2))
  | 0 => fun _ _ _ r h => by simp [meta_odd.j0] at h
  | k + 1 => by
    have ih0 := meta_odd.mono_l k
    · intro y0 y1 y2
      unfold meta_odd.j0
      repeat' first
      | (with_reducible exact ih0 _ _ _)
      | (with_reducible exact LeO.refl _)
      | (with_reducible exact LeO.none _)
      | (with_reducible refine LeO.ite ?_ ?_)
      | (with_reducible refine LeO.bind ?_ (fun _ => ?_))
      | exact ih0 _ _ _
      | exact LeO.none _
      | refine LeO.ite ?_ ?_
      | refine LeO.bind ?_ (fun _ => ?_)
theorem meta_odd.mono : ∀ a0 a1 k, LeO (meta_odd.f k a0 a1) (meta_odd.f (k + 1) a0 a1) := by
  intro a0 a1 k
  have ih0 := meta_odd.mono_l k
  unfold meta_odd.f
  repeat' first
      | (with_reducible exact ih0 _ _ _)
      | (with_reducible exact LeO.refl _)
      | (with_reducible exact LeO.none _)
      | (with_reducible refine LeO.ite ?_ ?_)
      | (with_reducible refine LeO.bind ?_ (fun _ => ?_))
      | exact ih0 _ _ _
      | exact LeO.none _
      | refine LeO.ite ?_ ?_
      | refine LeO.bind ?_ (fun _ => ?_)
set_option maxHeartbeats 8000000 in
set_option maxRecDepth 100000 in
theorem meta_odd.calls (k : Nat) (a0_0 : Int) (A0_1 : Option Addr) (c0_1 : Nat) (l0_1 : List Int) (r : Int) (w : World) (hr0_1 : Kd.C (Kd.int .u8) w A0_1 l0_1.length l0_1) (hc0_1 : l0_1.length ≤ c0_1) (h : meta_odd.f k a0_0 l0_1 = some r) :
    Calls Try.prog 60 #[.agg #[.int .i64 a0_0, .slice A0_1 l0_1.length c0_1]] w fun e w' => e = .returned (.int .i64 r) ∧ Below w.heap.size w w' := by
  have hu24 := Try.underlying24
  have HR0_1 := Aside0.mk hr0_1
  have HC0_1 := Aside0.mk hc0_1
  clear hr0_1 hc0_1
  have HB := Aside0.mk (Below.refl w.heap.size w)
  have H : (if a0_0 < 0 then (meta_odd.j0 k true a0_0 l0_1) else (meta_odd.j0 k (decide (a0_0 ≥ 127)) a0_0 l0_1)) = some r := h
  clear h
  have HC2 := Aside0.mk H
  clear H
  go_enter Try.func60, Try.ntmps60
  go_upto_region 1 with (first | ((with_reducible refine gate_dst (N := 1) rfl ?_); refine box_event ?hg (N := 1) ?hd (cs := #[.int .i64 a0_0, .slice A0_1 l0_1.length c0_1]) (t := 24) ?hr ?_; (case hd => rfl); (case hg => rfl); (case hr => first | (go_simp; done) | (go_simp; rfl)); intro gb102 hg w3 hbox hb; have n0_ := Aside0.mk (below_step (by repeat (first | (with_reducible first | exact HB.out | apply below_alloc | apply pw_below_drewN | apply below_drew1) | exact HB.out)) hb); have n1_ := Aside0.mk (hbox); have n2_ := Aside0.mk ((by rw [hg]; exact (below_size (by repeat (first | (with_reducible first | exact HB.out | apply below_alloc | apply pw_below_drewN | apply below_drew1) | exact HB.out))) : w.heap.size ≤ gb102)); have n3_ := Aside0.mk ((by rw [hg]; exact (below_size (by repeat (first | (with_reducible first | exact HB.out | apply below_alloc | apply pw_below_drewN | apply below_drew1) | exact HB.out))) : w.heap.size ≤ gb102)); clear HB; have HB := n0_; have BK102 := n1_; have GW102 := n2_; have GE102 := n3_; clear n0_ n1_ n2_ n3_; clear hb hbox hg))
  (try simp only [Act.put, List.setIfInBounds_toArray, List.set_cons_zero, List.set_cons_succ])
  go_cut [3] (fun v3 wc => ∃ (kq : Nat) (x3_1 : Bool), v3 = .bool x3_1 ∧ Aside0 (meta_odd.j0 kq x3_1 a0_0 l0_1 = some r) ∧ Aside0 (kq ≤ k) ∧ Aside0 (wc.heap[gb102]? = some (.cells #[.int .i64 a0_0, (.slice A0_1 l0_1.length c0_1)] 24 (0, 0))) ∧ Aside0 (Below w.heap.size w wc))
  case first =>
    have H := HC2.out
    clear HC2
    by_cases c4 : a0_0 < 0
    · rw [if_pos c4] at H
      have c4b0 : decide (a0_0 < 0) = true := decide_eq_true c4
      clear c4
      (first | rw [c4b0] | (simp only [i64_w, i32_w]; rw [c4b0]) | skip)
      have H' := Aside0.mk H
      clear H
      have hcz5_0 : w3.cell? ⟨gb102, 0, none⟩ = some (.int .i64 a0_0) := (blk_cell BK102.out 0).trans rfl
      have hcz5_1 : w3.cell? ⟨gb102, 1, none⟩ = some (.slice A0_1 l0_1.length c0_1) := (blk_cell BK102.out 1).trans rfl
      have hfz5_0 := blk_frozen BK102.out 0
      have hfz5_1 := blk_frozen BK102.out 1
      go_wp2
      go_meet
      case rel => exact ⟨_, (true), (by first | rfl | (simp; done) | (simp [*]; done)), H', ⟨by first | omega | exact Nat.le_refl _⟩, ⟨by (with_reducible repeat (first | refine blk_drewN ?_ _ | refine blk_drew ?_ | refine blk_alloc ?_ _)); exact BK102.out⟩, ⟨by repeat (first | (with_reducible first | exact HB.out | apply below_alloc | apply pw_below_drewN | apply below_drew1 | refine below_set ?_ GE102.out) | exact HB.out)⟩⟩
    · rw [if_neg c4] at H
      have c4b0 : decide (a0_0 < 0) = false := decide_eq_false c4
      clear c4
      (first | rw [c4b0] | (simp only [i64_w, i32_w]; rw [c4b0]) | skip)
      have H' := Aside0.mk H
      clear H
      have hcz6_0 : w3.cell? ⟨gb102, 0, none⟩ = some (.int .i64 a0_0) := (blk_cell BK102.out 0).trans rfl
      have hcz6_1 : w3.cell? ⟨gb102, 1, none⟩ = some (.slice A0_1 l0_1.length c0_1) := (blk_cell BK102.out 1).trans rfl
      have hfz6_0 := blk_frozen BK102.out 0
      have hfz6_1 := blk_frozen BK102.out 1
      go_wp2
      go_meet
      case rel => exact ⟨_, (decide (a0_0 ≥ 127)), (by first | rfl | (simp; done) | (simp [*]; done)), H', ⟨by first | omega | exact Nat.le_refl _⟩, ⟨by (with_reducible repeat (first | refine blk_drewN ?_ _ | refine blk_drew ?_ | refine blk_alloc ?_ _)); exact BK102.out⟩, ⟨by repeat (first | (with_reducible first | exact HB.out | apply below_alloc | apply pw_below_drewN | apply below_drew1 | refine below_set ?_ GE102.out) | exact HB.out)⟩⟩
  case rest =>
    clear HC2
    try clear p2
    try clear c4
    try clear c4b0
    try clear c6
    try clear hcz5_0
    try clear hcz5_1
    try clear hcz6_0
    try clear hcz6_1
    try clear hfz5_0
    try clear hfz5_1
    try clear hfz6_0
    try clear hfz6_1
    obtain ⟨kq, x3_1, rfl, HA, HJ1, BK102, HB⟩ := hcut
    cases kq with
    | zero => exact absurd HA.out (by simp [meta_odd.j0])
    | succ kj1 =>
      have H := HA.out
      clear HA
      simp only [meta_odd.j0] at H
      by_cases c7 : x3_1 = true
      · subst c7
        have H1 : (some 8) = some r := by rw [if_pos rfl] at H; exact H
        clear H
        have H := H1
        clear H1
        obtain rfl := Option.some.inj H
        go_wp2
        go_ret
        exact ⟨by first | rfl | (simp [errW_none, errW_some] <;> rfl) | (simp [*, errW_none, errW_some] <;> rfl), by repeat (first | (with_reducible first | exact HB.out | apply below_alloc | apply pw_below_drewN | apply below_drew1 | refine below_set ?_ GE102.out) | exact HB.out)⟩
      · replace c7 := Bool.eq_false_iff.mpr c7
        subst c7
        have H1 : (if (l0_1.length : Int) > 16777215 then (some 7) else (some 0)) = some r := by rw [if_neg (show ¬ (false = true) by decide)] at H; exact H
        clear H
        have H := H1
        clear H1
        by_cases c8 : (l0_1.length : Int) > 16777215
        · rw [if_pos c8] at H
          have c8b0 : decide (16777215 < (l0_1.length : Int)) = true := decide_eq_true c8
          have c8b1 : decide (16777215 < l0_1.length) = true := decide_eq_true (by omega)
          clear c8
          obtain rfl := Option.some.inj H
          have hcz9_0 : wc.cell? ⟨gb102, 0, none⟩ = some (.int .i64 a0_0) := (blk_cell BK102.out 0).trans rfl
          have hcz9_1 : wc.cell? ⟨gb102, 1, none⟩ = some (.slice A0_1 l0_1.length c0_1) := (blk_cell BK102.out 1).trans rfl
          have hfz9_0 := blk_frozen BK102.out 0
          have hfz9_1 := blk_frozen BK102.out 1
          go_wp2
          go_ret
          exact ⟨by first | rfl | (simp [errW_none, errW_some] <;> rfl) | (simp [*, errW_none, errW_some] <;> rfl), by repeat (first | (with_reducible first | exact HB.out | apply below_alloc | apply pw_below_drewN | apply below_drew1 | refine below_set ?_ GE102.out) | exact HB.out)⟩
        · rw [if_neg c8] at H
          have c8b0 : decide (16777215 < (l0_1.length : Int)) = false := decide_eq_false c8
          have c8b1 : decide (16777215 < l0_1.length) = false := decide_eq_false (by omega)
          clear c8
          obtain rfl := Option.some.inj H
          have hcz10_0 : wc.cell? ⟨gb102, 0, none⟩ = some (.int .i64 a0_0) := (blk_cell BK102.out 0).trans rfl
          have hcz10_1 : wc.cell? ⟨gb102, 1, none⟩ = some (.slice A0_1 l0_1.length c0_1) := (blk_cell BK102.out 1).trans rfl
          have hfz10_0 := blk_frozen BK102.out 0
          have hfz10_1 := blk_frozen BK102.out 1
          go_wp2
          go_ret
          exact ⟨by first | rfl | (simp [errW_none, errW_some] <;> rfl) | (simp [*, errW_none, errW_some] <;> rfl), by repeat (first | (with_reducible first | exact HB.out | apply below_alloc | apply pw_below_drewN | apply below_drew1 | refine below_set ?_ GE102.out) | exact HB.out)⟩

/-! ### meta_Pack: function 40 -/
/-- The row of '[]byte("fLaC")': it bears the run-time's mark behind its last cell. -/
def MK (W : World) (base : Nat) (v : Value) (xs : List Int) : Prop := ∃ g, v = .slice (some ⟨g, 0, none⟩) 4 4 ∧ base ≤ g ∧ xs = [102, 76, 97, 67] ∧ W.heap[g]? = some (.cells #[.int .u8 102, .int .u8 76, .int .u8 97, .int .u8 67] 5 (4, 5))
/-- A row of the call's own; or, ahead of the first round, the marked one. -/
def RM (W : World) (base : Nat) (ok : Nat → Prop) (v : Value) (xs : List Int) (i : Int) : Prop := Kd.R (Kd.int .u8) 5 W base ok v xs ∨ (i = 0 ∧ MK W base v xs ∧ ∀ k, v.ownBlock = some k → ok k)
theorem cell_block_ {w : World} {g : Nat} {cs : Array Value} {t : TypeId} {fr : Nat × Nat} (h : w.heap[g]? = some (.cells cs t fr)) (i : Nat) : w.cell? ⟨g, i, none⟩ = cs[i]? := by simp [World.cell?, h]
theorem own_le_ {w : World} {base base' size n : Nat} {e : TypeId} {v : Value} {xs : List Value} (h : w.ownsRow base e size v n xs) (hb : base' ≤ base) : w.ownsRow base' e size v n xs :=
  ⟨h.1, h.2.elim Or.inl (fun ⟨g, cap, cur, hv, hg, r⟩ => Or.inr ⟨g, cap, cur, hv, Nat.le_trans hb hg, r⟩)⟩
section
variable {W w1 : World} {base : Nat} {ok ok' : Nat → Prop} {v u : Value} {xs : List Int} {i : Int}
theorem MK_step (h : MK W base v xs) (hs : ∀ k, v.ownBlock = some k → k < W.heap.size → w1.heap[k]? = W.heap[k]?) : MK w1 base v xs := by
  obtain ⟨g, rfl, h2, h3, h4⟩ := h
  exact ⟨g, rfl, h2, h3, (hs g (by simp [Value.ownBlock]) (Array.getElem?_eq_some_iff.1 h4).1).trans h4⟩
theorem MK_lt (h : MK W base v xs) : ∀ k, v.ownBlock = some k → k < W.heap.size := by
  obtain ⟨g, rfl, h2, h3, h4⟩ := h
  intro k hk
  have : g = k := by simpa [Value.ownBlock] using hk
  rw [← this]
  exact (Array.getElem?_eq_some_iff.1 h4).1
theorem MK_ne (h : MK W base v xs) {g t : Nat} {cells : Array Value} (hb : W.heap[g]? = some (.cells cells t (0, 0))) : some g ≠ v.ownBlock := by
  obtain ⟨g', rfl, h2, h3, h4⟩ := h
  intro e
  have : g = g' := by simpa [Value.ownBlock] using e
  subst this
  rw [h4] at hb
  simp at hb
theorem RM_below (h : RM W base ok v xs i) (hb : Below W.heap.size W w1) : RM w1 base ok v xs i := h.imp (fun h => Kd.R_below h hb) (fun ⟨a, b, c⟩ => ⟨a, MK_step b (fun k _ hk => hb.block k hk), c⟩)
theorem RM_alloc (h : RM W base ok v xs i) (o : Obj) : RM (W.alloc o) base ok v xs i := RM_below h (below_alloc (Below.refl _ _) _)
theorem RM_drew (h : RM W base ok v xs i) : RM W.drew base ok v xs i := RM_below h (below_drew (Below.refl _ _))
theorem RM_drewN (h : RM W base ok v xs i) (m : Nat) : RM (W.drewN m) base ok v xs i := RM_below h (pw_below_drewN (Below.refl _ _) m)
theorem RM_far (h : RM W base ok v xs i) {p : Addr} (hok : ∀ k, ok k → k ≠ p.block) (x : Value) : RM (W.setCell p x) base ok v xs i := h.imp (fun h => Kd.R_far h hok x) (fun ⟨a, b, c⟩ => ⟨a, MK_step b (fun k hk _ => Below.heap_setCell W p x k (hok k (c k hk))), c⟩)
theorem RM_mono (h : RM W base ok v xs i) (hok : ∀ k, ok k → ok' k) : RM W base ok' v xs i := h.imp (fun h => Kd.R_mono h hok) (fun ⟨a, b, c⟩ => ⟨a, b, fun k hk => hok k (c k hk)⟩)
theorem RM_types (h : RM W base ok v xs i) {g t : Nat} {cells : Array Value} (hb : W.heap[g]? = some (.cells cells t (0, 0))) (ht : ∀ q, q ∈ 5 :: (Kd.int .u8).E → q ≠ t) : RM W base (fun k => ok k ∧ k ≠ g) v xs i :=
  h.imp (fun h => Kd.R_types h hb ht) (fun ⟨a, b, c⟩ => ⟨a, b, fun k hk => ⟨c k hk, fun e => MK_ne b hb (by rw [← e]; exact hk.symm)⟩⟩)
theorem RM_lt (h : RM W base ok v xs i) : ∀ k, v.ownBlock = some k → k < W.heap.size := h.elim Kd.R_lt (fun ⟨_, b, _⟩ => MK_lt b)
theorem RM_ne (h : RM W base ok v xs i) {g t : Nat} {cells : Array Value} (hb : W.heap[g]? = some (.cells cells t (0, 0))) (ht : 5 ≠ t) : some g ≠ v.ownBlock := h.elim (fun h => Kd.R_ne h hb ht) (fun ⟨_, b, _⟩ => MK_ne b hb)
theorem RM_elder (h : RM W base ok v xs i) (hbase : ∀ k, u.ownBlock = some k → W.heap.size ≤ k) (hb : Below W.heap.size W w1) : RM w1 base (fun k => ok k ∧ some k ≠ u.ownBlock) v xs i :=
  h.imp (fun h => Kd.R_elder' h hbase hb) (fun ⟨a, b, c⟩ => ⟨a, MK_step b (fun k _ hk => hb.block k hk), fun k hk => ⟨c k hk, fun e => by have := hbase k e.symm; have := MK_lt b k hk; omega⟩⟩)
end
theorem grown_none {W w1 : World} {r : Option Nat} (h : W.grownBy w1 none) : W.grownBy w1 r := ⟨h.os, h.tape, h.output, h.size, fun k hk _ => h.block k hk (by simp)⟩
theorem RM_append_rows {P : Program} {ops : Array Oper} {rest : List Oper} {o : Oper} {a : Act} {Q : Exit → Act → World → Prop} {w0 W : World} {i : Int} (base : Nat) (hgd : o.guard = none) (s x : Operand) (t e : TypeId) (z : Value) (bytes : Nat)
    (ho : o.op = .call { callee := .builtin .append, args := #[s, x], argTypes := #[t, t] })
    (ht : P.underlying t = some (.slice e)) (hinfo : (P.info? e).map (fun i => (i.zero, i.size, i.bytes)) = some (some z, 1, bytes)) (hz : z.cells.size = 1) (he : e = 5) (hb0 : 0 < bytes)
    (v : Value) (xs ys : List Int) (A : Option Addr) (m c : Nat) (ok : Nat → Prop) (hs : a.eval s = v) (hx : a.eval x = .slice A m c)
    (hm : 0 < m) (HO : RM W base ok v xs i) (HR : Kd.C (Kd.int .u8) W A m ys) (hfresh : ∀ k, W.heap.size ≤ k → ok k)
    (HB : Below base w0 W) (hbase : base ≤ W.heap.size) (hl : (xs.length + m) * bytes ≤ 140737488355328)
    (h : ∀ v1 w1, Kd.R (Kd.int .u8) e w1 base ok v1 (xs ++ ys) → Below base w0 w1 → W.grownBy w1 v.ownBlock → (v1.ownBlock = v.ownBlock ∨ ∃ b, v1.ownBlock = some b ∧ W.heap.size ≤ b) → wpList P ops Q rest (a.put o.dst v1) w1) :
    wpList P ops Q (o :: rest) a W := by
  subst he
  rcases HO with HO | ⟨_, ⟨g, rfl, hg0, rfl, hblk⟩, hok⟩
  · exact Kd.R_append_rows (Kd.int .u8) (w0 := w0) base hgd s x t 5 z bytes ho ht hinfo hz (by decide) hb0 v xs ys A m c ok (fun _ => False) hs hx HO HR (fun _ _ hk => hk) (fun _ hk => hk.elim) hfresh HB hbase hl h
  · obtain ⟨i0, hi, hzz⟩ := Option.map_eq_some_iff.1 hinfo
    simp only [Prod.mk.injEq] at hzz
    obtain ⟨hz0, hz1, hz2⟩ := hzz
    have hml := HR.2.1
    obtain ⟨ad, rfl, hcell⟩ := (Kd.reads_of_C (d := (0 : Int)) HR).2.2 hm
    have hyl : ys.length = m := HR.1
    refine wpList_append_grows W hgd s x t ho 5 i0 z 1 bytes ht hi hz0 hz1 hz2 hz (by decide) (some ⟨g, 0, none⟩) 4 4 [.int .u8 102, .int .u8 76, .int .u8 97, .int .u8 67] hs (by simp) rfl ?_ ad m c (ys.map (fun y => Value.int .u8 y)) hx (by simp [hyl]) ?_ (by intro q hq; obtain ⟨y, _, rfl⟩ := List.mem_map.1 hq; rfl) (by omega) ?_ (by simpa using hl) ?_
    · intro b hb j q hj
      cases hb
      rw [add_plain, cell_block_ hblk j]
      rw [← hj]; simp
    · intro j q hj
      obtain ⟨hjl, hq⟩ := List.getElem?_eq_some_iff.1 hj
      rw [List.length_map] at hjl
      rw [hcell j (by omega), ← hq]
      simp [List.getD_eq_getElem?_getD, List.getElem?_eq_getElem hjl]
    · have : ([102, 76, 97, 67] : List Int).length + m ≤ 140737488355328 := Nat.le_trans (Nat.le_mul_of_pos_right _ hb0) hl
      simp only [List.length_cons, List.length_nil] at this
      simp only [maxLen]
      omega
    · intro v' w' hown hgr
      have hat : ∀ k, v'.ownBlock = some k → W.heap.size ≤ k := own_base hown
      have hlen : (v'.ownBlock = (Value.slice (some ⟨g, 0, none⟩) 4 4).ownBlock ∨ ∃ b, v'.ownBlock = some b ∧ W.heap.size ≤ b) := by
        rcases hown.2 with ⟨h1, h2⟩ | ⟨g2, cap, cur, rfl, hg2, _⟩
        · omega
        · exact .inr ⟨g2, rfl, hg2⟩
      refine h v' w' (Kd.R_of_own (enc := Value.int .u8) (h1 := fun _ => rfl) (xs := [102, 76, 97, 67] ++ ys) ?_ (fun k hk => hfresh k (hat k hk))) (HB.grown hgr hbase (fun k hk => by cases hk)) (grown_none hgr) hlen
      have := own_le_ hown hbase
      rw [List.length_append, hyl]
      simpa [encs] using this
theorem RM_append {P : Program} {ops : Array Oper} {rest : List Oper} {o : Oper} {a : Act} {Q : Exit → Act → World → Prop} {w0 W : World} {i : Int} (base : Nat) (hgd : o.guard = none) (s x : Operand) (t e : TypeId) (z : Value) (bytes : Nat)
    (ho : o.op = .call { callee := .builtin .append, args := #[s, x], argTypes := #[t, t] })
    (ht : P.underlying t = some (.slice e)) (hinfo : (P.info? e).map (fun i => (i.zero, i.size, i.bytes)) = some (some z, 1, bytes)) (hz : z.cells.size = 1) (he : e = 5) (hb0 : 0 < bytes)
    (v : Value) (xs : List Int) (p : Int) (hs : a.eval s = v) (hx : a.eval x = .slice (some ⟨W.heap.size, 0, none⟩) 1 1)
    (HO : RM W base (fun _ => True) v xs i) (HB : Below base w0 W) (hbase : base ≤ W.heap.size) (hl : (xs.length + 1) * bytes ≤ 140737488355328)
    (h : ∀ v1 w1, Kd.R (Kd.int .u8) e w1 base (fun _ => True) v1 (xs ++ [p]) → Below base w0 w1 → wpList P ops Q rest (a.put o.dst v1) w1) :
    wpList P ops Q (o :: rest) a (W.alloc (.cells #[.int .u8 p] e)) := by
  subst he
  have hC : Kd.C (Kd.int .u8) (W.alloc (.cells #[.int .u8 p] 5)) (some ⟨W.heap.size, 0, none⟩) 1 [p] := C_of_blk8 (xs := [p]) (blk_new W _) (by simp)
  have hsz : (W.alloc (.cells #[.int .u8 p] 5)).heap.size = W.heap.size + 1 := by simp
  refine RM_append_rows (w0 := w0) (i := i) base hgd s x t 5 z bytes ho ht hinfo hz rfl hb0 v xs [p] (some ⟨W.heap.size, 0, none⟩) 1 1 (fun _ => True) hs hx (by decide) (RM_alloc HO _) hC (fun _ _ => trivial) (HB.alloc hbase _) (by omega) hl (fun v1 w1 h1 h2 _ _ => h v1 w1 h1 h2)
mutual
def meta_Pack.l0 : Nat → List (S24) → List (S24) → Int → Int → Option (List Int × Int)
  | 0, _, _, _, _ => none
  | k + 1, x0, x15, x16, x17 => if x17 < x16 then (if 0 ≤ x17 then (if x17 < (x15.length : Int) then ((meta_odd.f k ((rd_T24 x15 x17).f0) ((rd_T24 x15 x17).f1)).bind fun t105 => (if t105 = 0 then (meta_Pack.l0 k x0 x15 x16 (wrap64 (x17 + 1))) else (some (([] : List Int), t105)))) else (none)) else (none)) else (meta_Pack.l1 k x0 (([102, 76, 97, 67] : List Int)) x0 (x0.length : Int) 0)
def meta_Pack.l1 : Nat → List (S24) → List Int → List (S24) → Int → Int → Option (List Int × Int)
  | 0, _, _, _, _, _ => none
  | k + 1, x0, x7, x29, x30, x31 => if x31 < x30 then (if 0 ≤ x31 then (if x31 < (x29.length : Int) then (if ((((rd_T24 x29 x31).f0) == 0) != (x31 == 0)) = true then (some (([] : List Int), 5)) else (if x31 = (wrap64 ((x0.length : Int) - 1)) then ((some (([Go.bits .or .u8 (((rd_T24 x29 x31).f0) % 256) 128, ((((rd_T24 x29 x31).f1).length : Int) / 65536) % 256, ((((rd_T24 x29 x31).f1).length : Int) / 256) % 256, ((((rd_T24 x29 x31).f1).length : Int)) % 256] : List Int) : List Int)).bind fun y111 => (if x7.length + y111.length < 140737488355328 then ((some (x7 ++ y111 : List Int)).bind fun y114 => (if y114.length + ((rd_T24 x29 x31).f1).length < 140737488355328 then (meta_Pack.l1 k x0 (y114 ++ ((rd_T24 x29 x31).f1)) x29 x30 (wrap64 (x31 + 1))) else (none))) else (none))) else ((some (([((rd_T24 x29 x31).f0) % 256, ((((rd_T24 x29 x31).f1).length : Int) / 65536) % 256, ((((rd_T24 x29 x31).f1).length : Int) / 256) % 256, ((((rd_T24 x29 x31).f1).length : Int)) % 256] : List Int) : List Int)).bind fun y120 => (if x7.length + y120.length < 140737488355328 then ((some (x7 ++ y120 : List Int)).bind fun y123 => (if y123.length + ((rd_T24 x29 x31).f1).length < 140737488355328 then (meta_Pack.l1 k x0 (y123 ++ ((rd_T24 x29 x31).f1)) x29 x30 (wrap64 (x31 + 1))) else (none))) else (none))))) else (none)) else (none)) else (some (x7, 0))
end
def meta_Pack.f (k : Nat) (l0 : List (S24)) : Option (List Int × Int) := if (l0.length : Int) = 0 then (some (([] : List Int), 2)) else (meta_Pack.l0 k l0 l0 (l0.length : Int) 0)
theorem meta_Pack.mono_l : ∀ k, (∀ y0 y1 y2 y3, LeO (meta_Pack.l0 k y0 y1 y2 y3) (meta_Pack.l0 (k + 1) y0 y1 y2 y3)) ∧ (∀ y0 y1 y2 y3 y4, LeO (meta_Pack.l1 k y0 y1 y2 y3 y4) (meta_Pack.l1 (k + 1) y0 y1 y2 y3 y4))
  | 0 => ⟨fun _ _ _ _ r h => by simp [meta_Pack.l0] at h, fun _ _ _ _ _ r h => by simp [meta_Pack.l1] at h⟩
  | k + 1 => by
    obtain ⟨ih0, ih1⟩ := meta_Pack.mono_l k
    refine ⟨?_, ?_⟩
    · intro y0 y1 y2 y3
      unfold meta_Pack.l0
      repeat' first
      | (with_reducible exact ih0 _ _ _ _)
      | (with_reducible exact ih1 _ _ _ _ _)
      | (with_reducible exact meta_odd.mono _ _ _)
      | (with_reducible exact LeO.refl _)
      | (with_reducible exact LeO.none _)
      | (with_reducible refine LeO.ite ?_ ?_)
      | (with_reducible refine LeO.bind ?_ (fun _ => ?_))
      | exact ih0 _ _ _ _
      | exact ih1 _ _ _ _ _
      | exact meta_odd.mono _ _ _
      | exact LeO.none _
      | refine LeO.ite ?_ ?_
      | refine LeO.bind ?_ (fun _ => ?_)
    · intro y0 y1 y2 y3 y4
      unfold meta_Pack.l1
      repeat' first
      | (with_reducible exact ih0 _ _ _ _)
      | (with_reducible exact ih1 _ _ _ _ _)
      | (with_reducible exact meta_odd.mono _ _ _)
      | (with_reducible exact LeO.refl _)
      | (with_reducible exact LeO.none _)
      | (with_reducible refine LeO.ite ?_ ?_)
      | (with_reducible refine LeO.bind ?_ (fun _ => ?_))
      | exact ih0 _ _ _ _
      | exact ih1 _ _ _ _ _
      | exact meta_odd.mono _ _ _
      | exact LeO.none _
      | refine LeO.ite ?_ ?_
      | refine LeO.bind ?_ (fun _ => ?_)
theorem meta_Pack.mono : ∀ a0 k, LeO (meta_Pack.f k a0) (meta_Pack.f (k + 1) a0) := by
  intro a0 k
  obtain ⟨ih0, ih1⟩ := meta_Pack.mono_l k
  unfold meta_Pack.f
  repeat' first
      | (with_reducible exact ih0 _ _ _ _)
      | (with_reducible exact ih1 _ _ _ _ _)
      | (with_reducible exact meta_odd.mono _ _ _)
      | (with_reducible exact LeO.refl _)
      | (with_reducible exact LeO.none _)
      | (with_reducible refine LeO.ite ?_ ?_)
      | (with_reducible refine LeO.bind ?_ (fun _ => ?_))
      | exact ih0 _ _ _ _
      | exact ih1 _ _ _ _ _
      | exact meta_odd.mono _ _ _
      | exact LeO.none _
      | refine LeO.ite ?_ ?_
      | refine LeO.bind ?_ (fun _ => ?_)
set_option maxHeartbeats 8000000 in
set_option maxRecDepth 100000 in
theorem meta_Pack.calls (k : Nat) (A0 : Option Addr) (c0 : Nat) (l0 : List (S24)) (r1 : List Int) (r2 : Int) (w : World) (hr0 : Kd.C k24 w A0 l0.length l0) (hc0 : l0.length ≤ c0) (h : meta_Pack.f k l0 = some (r1, r2)) :
    Calls Try.prog 40 #[.slice A0 l0.length c0] w fun e w' => ∃ v0_ : Value, e = .returned (.tuple #[v0_, .int .i64 r2]) ∧ Kd.R (Kd.int .u8) 5 w' w.heap.size (fun _ => True) v0_ r1 ∧ Below w.heap.size w w' := by
  have hu24 := Try.underlying24
  have HR0 := Aside0.mk hr0
  have HC0 := Aside0.mk hc0
  clear hr0 hc0
  have HB := Aside0.mk (Below.refl w.heap.size w)
  have H : (if (l0.length : Int) = 0 then (some (([] : List Int), 2)) else (meta_Pack.l0 k l0 l0 (l0.length : Int) 0)) = some (r1, r2) := h
  clear h
  by_cases c2 : (l0.length : Int) = 0
  · rw [if_pos c2] at H
    have c2b0 : ((l0.length : Int) == 0) = true := beq_iff_eq.mpr c2
    have c2b1 : ((l0.length : Int) != 0) = false := bne_eq_false_iff_eq.mpr c2
    clear c2
    simp only [Option.some.injEq, Prod.mk.injEq] at H
    obtain ⟨rfl, rfl⟩ := H
    go_enter Try.func40, Try.ntmps40
    go_wp2
    go_ret2
    exact ⟨_, by first | rfl | (simp [errW_none, errW_some] <;> rfl) | (simp [*, errW_none, errW_some] <;> rfl), by first | exact Kd.R_nil _ _ _ _ _ | exact Kd.N_nil _ _ _ _ _ | exact Kd.V_nil _ _ _ _ _ | exact Kd.Q_nil _ _ _ _ _ | exact Kd.S_nil _ _ _ _ _, by repeat (first | (with_reducible first | exact HB.out | apply below_alloc | apply pw_below_drewN | apply below_drew1) | exact HB.out)⟩
  · rw [if_neg c2] at H
    have c2b0 : ((l0.length : Int) == 0) = false := beq_eq_false_iff_ne.mpr c2
    have c2b1 : ((l0.length : Int) != 0) = true := bne_iff_ne.mpr c2
    have c2b2 : ¬ (l0 = []) := fun h_ => c2 (by rw [h_]; rfl)
    have HNE := Aside0.mk c2
    have H' := Aside0.mk H
    clear H
    go_enter Try.func40, Try.ntmps40
    go_wp2
    go_loopg [17] k (fun kq v17 w' => ∃ (x17_1 : Int), v17 = .int .i64 x17_1 ∧ Aside0 (meta_Pack.l0 kq l0 l0 (l0.length : Int) x17_1 = some (r1, r2)) ∧ Aside0 (kq ≤ k) ∧ Aside0 (Below w.heap.size w w'))
    case atStart => exact ⟨(0), (by first | rfl | (simp; done) | (simp [*]; done)), H', ⟨Nat.le_refl _⟩, ⟨by repeat (first | (with_reducible first | exact HB.out | apply below_alloc | apply pw_below_drewN | apply below_drew1) | exact HB.out)⟩⟩
    case round =>
      clear H'
      try clear c2
      try clear c2b0
      try clear c2b1
      try clear c2b2
      try clear p2
      obtain ⟨x17_1, rfl, HA, HK1, HB⟩ := hrel
      cases gk with
      | zero => exact absurd HA.out (by simp [meta_Pack.l0])
      | succ k1 =>
        have H := HA.out
        clear HA
        simp only [meta_Pack.l0] at H
        by_cases c3 : x17_1 < (l0.length : Int)
        · rw [if_pos c3] at H
          have c3b0 : decide (x17_1 < (l0.length : Int)) = true := decide_eq_true c3
          clear c3
          by_cases c4 : 0 ≤ x17_1
          · rw [if_pos c4] at H
            have c4b0 : decide (0 ≤ x17_1) = true := decide_eq_true c4
            clear c4
            by_cases c5 : x17_1 < (l0.length : Int)
            · rw [if_pos c5] at H
              have c5b0 : decide (x17_1 < (l0.length : Int)) = true := decide_eq_true c5
              clear c5
              replace H := Option.bind_eq_some_iff.mp H
              obtain ⟨t105, A60, H⟩ := H
              replace H : (if t105 = 0 then (meta_Pack.l0 k1 l0 l0 (l0.length : Int) (wrap64 (x17_1 + 1))) else (some (([] : List Int), t105))) = some (r1, r2) := H
              have A6 := Aside0.mk A60
              clear A60
              by_cases c7 : t105 = 0
              · rw [if_pos c7] at H
                have c7b0 : (t105 == 0) = true := beq_iff_eq.mpr c7
                have c7b1 : (t105 != 0) = false := bne_eq_false_iff_eq.mpr c7
                clear c7
                have H' := Aside0.mk H
                clear H
                have p103 : 0 ≤ (x17_1 : Int) := of_decide_eq_true (by first | (with_reducible assumption) | assumption)
                have q103 : x17_1 < (l0.length : Int) := of_decide_eq_true (by first | (with_reducible assumption) | assumption)
                obtain ⟨ad103, A103_1, c103_1, e103, hx103_0, hx103_1, hl103_1, hi103_1⟩ := at_T24 HR0.out x17_1 p103 q103
                cases e103
                replace hx103_0 := (HB.out.cell (World.block_lt_of_cell? w _ hx103_0)).trans hx103_0
                replace hx103_1 := (HB.out.cell (World.block_lt_of_cell? w _ hx103_1)).trans hx103_1
                have HR103_1 := Aside0.mk hi103_1
                have HC103_1 := Aside0.mk hl103_1
                clear hi103_1 hl103_1
                replace p103 := eq_true p103
                replace q103 := eq_true q103
                go_wp2_with (first | ((with_reducible refine gate_dst (N := 5) rfl ?_); refine box_event ?hg (N := 5) ?hd (cs := #[.int .i64 0, .slice none 0 0]) (t := 24) ?hr ?_; (case hd => rfl); (case hg => rfl); (case hr => first | (go_simp; done) | (go_simp; rfl)); intro gb104 hg w8 hbox hb; have n0_ := Aside0.mk (below_step (by repeat (first | (with_reducible first | exact HB.out | apply below_alloc | apply pw_below_drewN | apply below_drew1) | exact HB.out)) hb); have n1_ := Aside0.mk (hbox); have n2_ := Aside0.mk ((by rw [hg]; exact (below_size (by repeat (first | (with_reducible first | exact HB.out | apply below_alloc | apply pw_below_drewN | apply below_drew1) | exact HB.out))) : w.heap.size ≤ gb104)); have n3_ := Aside0.mk ((by rw [hg]; exact (below_size (by repeat (first | (with_reducible first | exact HB.out | apply below_alloc | apply pw_below_drewN | apply below_drew1) | exact HB.out))) : w.heap.size ≤ gb104)); clear HB; have HB := n0_; have BK104 := n1_; have GW104 := n2_; have GE104 := n3_; clear n0_ n1_ n2_ n3_; clear hb hbox hg; have hcz9_0 : w8.cell? ⟨gb104, 0, none⟩ = some (.int .i64 0) := (blk_cell BK104.out 0).trans rfl; have hcz9_1 : w8.cell? ⟨gb104, 1, none⟩ = some (.slice none 0 0) := (blk_cell BK104.out 1).trans rfl; have hfz9_0 := blk_frozen BK104.out 0; have hfz9_1 := blk_frozen BK104.out 1) | ((with_reducible refine gate_callee (f := 60) rfl ?_); refine goesL_ (some 22) rfl rfl Try.func60 (by kernel_rfl) rfl #[.agg #[.int .i64 ((rd_T24 l0 x17_1).f0), .slice A103_1 ((rd_T24 l0 x17_1).f1).length c103_1]] rfl (by (try simp only [List.map_toArray, List.map_cons, List.map_nil]); first | done | rfl | (simp only [List.length_drop, List.length_take]; rfl)) ?_; (with_reducible refine (meta_odd.calls k1 ((rd_T24 l0 x17_1).f0) _ _ ((rd_T24 l0 x17_1).f1) t105 _ ?side1 ?side2 A6.out).mono ?_); (case side1 => exact Kd.C_below HR103_1.out (by repeat (first | (with_reducible first | exact HB.out | apply below_alloc | apply pw_below_drewN | apply below_drew1 | refine below_set ?_ GE104.out) | exact HB.out))); (case side2 => exact HC103_1.out); rintro e w10 ⟨rfl, hb⟩; refine ⟨_, rfl, ?_⟩; have n0_ := Aside0.mk (blk_below (g := gb104) (o := .cells #[.int .i64 ((rd_T24 l0 x17_1).f0), .slice A103_1 ((rd_T24 l0 x17_1).f1).length c103_1] 24 (0, 0)) (by (with_reducible repeat (first | refine blk_drewN ?_ _ | refine blk_drew ?_ | refine blk_alloc ?_ _)); refine blk_put (cs := #[.int .i64 ((rd_T24 l0 x17_1).f0), .slice none 0 0]) ?_ 1 _ rfl; (with_reducible repeat (first | refine blk_drewN ?_ _ | refine blk_drew ?_ | refine blk_alloc ?_ _)); refine blk_put (cs := #[.int .i64 0, .slice none 0 0]) ?_ 0 _ rfl; (with_reducible repeat (first | refine blk_drewN ?_ _ | refine blk_drew ?_ | refine blk_alloc ?_ _)); exact BK104.out) hb); have n1_ := Aside0.mk (below_step (by repeat (first | (with_reducible first | exact HB.out | apply below_alloc | apply pw_below_drewN | apply below_drew1 | refine below_set ?_ GE104.out) | exact HB.out)) hb); clear BK104; clear HB; have BK104 := n0_; have HB := n1_; clear n0_ n1_; (try clear hb); (try clear hb2); (try clear hk); (try clear hi)))
                go_roundg k1
                case measure => have := HK1.out; omega
                case rel => exact ⟨(wrap64 (x17_1 + 1)), (by first | rfl | (simp; done) | (simp [*]; done)), H', ⟨by have := HK1.out; omega⟩, ⟨by repeat (first | (with_reducible first | exact HB.out | apply below_alloc | apply pw_below_drewN | apply below_drew1 | refine below_set ?_ GE104.out) | exact HB.out)⟩⟩
              · rw [if_neg c7] at H
                have c7b0 : (t105 == 0) = false := beq_eq_false_iff_ne.mpr c7
                have c7b1 : (t105 != 0) = true := bne_iff_ne.mpr c7
                simp only [Option.some.injEq, Prod.mk.injEq] at H
                obtain ⟨rfl, rfl⟩ := H
                have p103 : 0 ≤ (x17_1 : Int) := of_decide_eq_true (by first | (with_reducible assumption) | assumption)
                have q103 : x17_1 < (l0.length : Int) := of_decide_eq_true (by first | (with_reducible assumption) | assumption)
                obtain ⟨ad103, A103_1, c103_1, e103, hx103_0, hx103_1, hl103_1, hi103_1⟩ := at_T24 HR0.out x17_1 p103 q103
                cases e103
                replace hx103_0 := (HB.out.cell (World.block_lt_of_cell? w _ hx103_0)).trans hx103_0
                replace hx103_1 := (HB.out.cell (World.block_lt_of_cell? w _ hx103_1)).trans hx103_1
                have HR103_1 := Aside0.mk hi103_1
                have HC103_1 := Aside0.mk hl103_1
                clear hi103_1 hl103_1
                replace p103 := eq_true p103
                replace q103 := eq_true q103
                go_wp2_with (first | ((with_reducible refine gate_dst (N := 5) rfl ?_); refine box_event ?hg (N := 5) ?hd (cs := #[.int .i64 0, .slice none 0 0]) (t := 24) ?hr ?_; (case hd => rfl); (case hg => rfl); (case hr => first | (go_simp; done) | (go_simp; rfl)); intro gb104 hg w11 hbox hb; have n0_ := Aside0.mk (below_step (by repeat (first | (with_reducible first | exact HB.out | apply below_alloc | apply pw_below_drewN | apply below_drew1) | exact HB.out)) hb); have n1_ := Aside0.mk (hbox); have n2_ := Aside0.mk ((by rw [hg]; exact (below_size (by repeat (first | (with_reducible first | exact HB.out | apply below_alloc | apply pw_below_drewN | apply below_drew1) | exact HB.out))) : w.heap.size ≤ gb104)); have n3_ := Aside0.mk ((by rw [hg]; exact (below_size (by repeat (first | (with_reducible first | exact HB.out | apply below_alloc | apply pw_below_drewN | apply below_drew1) | exact HB.out))) : w.heap.size ≤ gb104)); clear HB; have HB := n0_; have BK104 := n1_; have GW104 := n2_; have GE104 := n3_; clear n0_ n1_ n2_ n3_; clear hb hbox hg; have hcz12_0 : w11.cell? ⟨gb104, 0, none⟩ = some (.int .i64 0) := (blk_cell BK104.out 0).trans rfl; have hcz12_1 : w11.cell? ⟨gb104, 1, none⟩ = some (.slice none 0 0) := (blk_cell BK104.out 1).trans rfl; have hfz12_0 := blk_frozen BK104.out 0; have hfz12_1 := blk_frozen BK104.out 1) | ((with_reducible refine gate_callee (f := 60) rfl ?_); refine goesL_ (some 22) rfl rfl Try.func60 (by kernel_rfl) rfl #[.agg #[.int .i64 ((rd_T24 l0 x17_1).f0), .slice A103_1 ((rd_T24 l0 x17_1).f1).length c103_1]] rfl (by (try simp only [List.map_toArray, List.map_cons, List.map_nil]); first | done | rfl | (simp only [List.length_drop, List.length_take]; rfl)) ?_; (with_reducible refine (meta_odd.calls k1 ((rd_T24 l0 x17_1).f0) _ _ ((rd_T24 l0 x17_1).f1) t105 _ ?side1 ?side2 A6.out).mono ?_); (case side1 => exact Kd.C_below HR103_1.out (by repeat (first | (with_reducible first | exact HB.out | apply below_alloc | apply pw_below_drewN | apply below_drew1 | refine below_set ?_ GE104.out) | exact HB.out))); (case side2 => exact HC103_1.out); rintro e w13 ⟨rfl, hb⟩; refine ⟨_, rfl, ?_⟩; have n0_ := Aside0.mk (blk_below (g := gb104) (o := .cells #[.int .i64 ((rd_T24 l0 x17_1).f0), .slice A103_1 ((rd_T24 l0 x17_1).f1).length c103_1] 24 (0, 0)) (by (with_reducible repeat (first | refine blk_drewN ?_ _ | refine blk_drew ?_ | refine blk_alloc ?_ _)); refine blk_put (cs := #[.int .i64 ((rd_T24 l0 x17_1).f0), .slice none 0 0]) ?_ 1 _ rfl; (with_reducible repeat (first | refine blk_drewN ?_ _ | refine blk_drew ?_ | refine blk_alloc ?_ _)); refine blk_put (cs := #[.int .i64 0, .slice none 0 0]) ?_ 0 _ rfl; (with_reducible repeat (first | refine blk_drewN ?_ _ | refine blk_drew ?_ | refine blk_alloc ?_ _)); exact BK104.out) hb); have n1_ := Aside0.mk (below_step (by repeat (first | (with_reducible first | exact HB.out | apply below_alloc | apply pw_below_drewN | apply below_drew1 | refine below_set ?_ GE104.out) | exact HB.out)) hb); clear BK104; clear HB; have BK104 := n0_; have HB := n1_; clear n0_ n1_; (try clear hb); (try clear hb2); (try clear hk); (try clear hi)))
                go_ret2
                exact ⟨_, by first | rfl | (simp [errW_none, errW_some] <;> rfl) | (simp [*, errW_none, errW_some] <;> rfl), by first | exact Kd.R_nil _ _ _ _ _ | exact Kd.N_nil _ _ _ _ _ | exact Kd.V_nil _ _ _ _ _ | exact Kd.Q_nil _ _ _ _ _ | exact Kd.S_nil _ _ _ _ _, by repeat (first | (with_reducible first | exact HB.out | apply below_alloc | apply pw_below_drewN | apply below_drew1 | refine below_set ?_ GE104.out) | exact HB.out)⟩
            · rw [if_neg c5] at H
              exact absurd H (by simp)
          · rw [if_neg c4] at H
            exact absurd H (by simp)
        · rw [if_neg c3] at H
          have c3b0 : decide (x17_1 < (l0.length : Int)) = false := decide_eq_false c3
          clear c3
          obtain ⟨y106, hy106⟩ : ∃ y_ : List Int, y_ = (([102, 76, 97, 67] : List Int)) := ⟨_, rfl⟩
          replace H : (meta_Pack.l1 k1 l0 y106 l0 (l0.length : Int) 0) = some (r1, r2) := by first | (rw [hy106]; with_reducible exact H) | (have H2_ := (Option.bind_some _ _).symm.trans H; rw [hy106]; with_reducible exact H2_) | (have H2_ := (Option.bind_some _ _).symm.trans H; with_reducible exact H2_) | with_reducible exact H | (rw [hy106]; exact H) | exact H
          have Ny106 := Aside0.mk hy106
          clear hy106
          have H' := Aside0.mk H
          clear H
          have kc_ := fun (w : World) (C : Array Value) (n c : Nat) => Lib.run_convert_bytes_const (P := Try.prog) w 22 5 C n c Try.underlying22 Try.underlying5
          go_wp2
          go_loopg [7, 31] k1 (fun kq v7 v31 w' => ∃ (x7_2 : List Int) (x31_2 : Int), v31 = .int .i64 x31_2 ∧ Aside0 (meta_Pack.l1 kq l0 x7_2 l0 (l0.length : Int) x31_2 = some (r1, r2)) ∧ Aside0 (kq ≤ k1) ∧ Aside0 (RM w' w.heap.size (fun _ => True) v7 x7_2 x31_2) ∧ Aside0 (Below w.heap.size w w'))
          case atStart => exact ⟨(y106), (0), (by first | rfl | (simp; done) | (simp [*]; done)), H', ⟨Nat.le_refl _⟩, ⟨Or.inr ⟨rfl, ⟨_, rfl, below_size HB.out, Ny106.out, heap_alloc_new _ _⟩, fun _ _ => trivial⟩⟩, ⟨by repeat (first | (with_reducible first | exact HB.out | apply below_alloc | apply pw_below_drewN | apply below_drew1) | exact HB.out)⟩⟩
          case round =>
            clear H'
            try clear c1
            try clear p1
            try clear q1
            try clear hx1
            try clear c2
            try clear c2b0
            try clear c2b1
            try clear c2b2
            try clear p2
            try clear c3
            try clear c3b0
            try clear c4
            try clear c4b0
            try clear c5
            try clear c5b0
            try clear c6
            try clear p6
            try clear c7
            try clear c7b0
            try clear c7b1
            try clear c10
            try clear p10
            try clear q10
            try clear hx10
            try clear hcz12_0
            try clear hcz12_1
            try clear hcz9_0
            try clear hcz9_1
            try clear hfz12_0
            try clear hfz12_1
            try clear hfz9_0
            try clear hfz9_1
            try clear hx103_0
            try clear hx103_1
            try clear p103
            try clear p2
            try clear q103
            obtain ⟨x7_2, x31_2, rfl, HA, HK2, HO_7, HB⟩ := hrel
            cases gk with
            | zero => exact absurd HA.out (by simp [meta_Pack.l1])
            | succ k2 =>
              have H := HA.out
              clear HA
              simp only [meta_Pack.l1] at H
              by_cases c16 : x31_2 < (l0.length : Int)
              · rw [if_pos c16] at H
                have c16b0 : decide (x31_2 < (l0.length : Int)) = true := decide_eq_true c16
                clear c16
                by_cases c17 : 0 ≤ x31_2
                · rw [if_pos c17] at H
                  have c17b0 : decide (0 ≤ x31_2) = true := decide_eq_true c17
                  clear c17
                  by_cases c18 : x31_2 < (l0.length : Int)
                  · rw [if_pos c18] at H
                    have c18b0 : decide (x31_2 < (l0.length : Int)) = true := decide_eq_true c18
                    clear c18
                    by_cases c19 : ((((rd_T24 l0 x31_2).f0) == 0) != (x31_2 == 0)) = true
                    · rw [if_pos c19] at H
                      have c19b0 : ((((rd_T24 l0 x31_2).f0) == 0) != (x31_2 == 0)) = true := c19
                      (try (have c19b1 : decide ((((rd_T24 l0 x31_2).f0) == 0) = (x31_2 == 0)) = false := by simpa using c19))
                      (try (have c19b2 : ((((rd_T24 l0 x31_2).f0) == 0) == (x31_2 == 0)) = false := by simpa using c19))
                      (try (have c19b3 : ¬ ((((rd_T24 l0 x31_2).f0) == 0) = (x31_2 == 0)) := by simpa using c19))
                      clear c19
                      simp only [Option.some.injEq, Prod.mk.injEq] at H
                      obtain ⟨rfl, rfl⟩ := H
                      have p109 : 0 ≤ (x31_2 : Int) := of_decide_eq_true (by first | (with_reducible assumption) | assumption)
                      have q109 : x31_2 < (l0.length : Int) := of_decide_eq_true (by first | (with_reducible assumption) | assumption)
                      obtain ⟨ad109, A109_1, c109_1, e109, hx109_0, hx109_1, hl109_1, hi109_1⟩ := at_T24 HR0.out x31_2 p109 q109
                      cases e109
                      replace hx109_0 := (HB.out.cell (World.block_lt_of_cell? w _ hx109_0)).trans hx109_0
                      replace hx109_1 := (HB.out.cell (World.block_lt_of_cell? w _ hx109_1)).trans hx109_1
                      have HR109_1 := Aside0.mk hi109_1
                      have HC109_1 := Aside0.mk hl109_1
                      clear hi109_1 hl109_1
                      replace p109 := eq_true p109
                      replace q109 := eq_true q109
                      go_wp2_with (first | ((with_reducible refine gate_dst (N := 9) rfl ?_); refine box_event ?hg (N := 9) ?hd (cs := #[.int .i64 0, .slice none 0 0]) (t := 24) ?hr ?_; (case hd => rfl); (case hg => rfl); (case hr => first | (go_simp; done) | (go_simp; rfl)); intro gb110 hg w20 hbox hb; have n0_ := Aside0.mk (RM_below (by (with_reducible repeat (first | apply RM_alloc | apply RM_drewN | apply RM_drew)); exact HO_7.out) hb); have n1_ := Aside0.mk (below_step (by repeat (first | (with_reducible first | exact HB.out | apply below_alloc | apply pw_below_drewN | apply below_drew1) | exact HB.out)) hb); have n2_ := Aside0.mk (hbox); have n3_ := Aside0.mk ((by rw [hg]; exact (below_size (by repeat (first | (with_reducible first | exact HB.out | apply below_alloc | apply pw_below_drewN | apply below_drew1) | exact HB.out))) : w.heap.size ≤ gb110)); have n4_ := Aside0.mk ((by rw [hg]; exact (below_size (by repeat (first | (with_reducible first | exact HB.out | apply below_alloc | apply pw_below_drewN | apply below_drew1) | exact HB.out))) : w.heap.size ≤ gb110)); clear HO_7; clear HB; have HO_7 := n0_; have HB := n1_; have BK110 := n2_; have GW110 := n3_; have GE110 := n4_; clear n0_ n1_ n2_ n3_ n4_; clear hb hbox hg; have hcz21_0 : w20.cell? ⟨gb110, 0, none⟩ = some (.int .i64 0) := (blk_cell BK110.out 0).trans rfl; have hcz21_1 : w20.cell? ⟨gb110, 1, none⟩ = some (.slice none 0 0) := (blk_cell BK110.out 1).trans rfl; have hfz21_0 := blk_frozen BK110.out 0; have hfz21_1 := blk_frozen BK110.out 1))
                      go_ret2
                      exact ⟨_, by first | rfl | (simp [errW_none, errW_some] <;> rfl) | (simp [*, errW_none, errW_some] <;> rfl), by first | exact Kd.R_nil _ _ _ _ _ | exact Kd.N_nil _ _ _ _ _ | exact Kd.V_nil _ _ _ _ _ | exact Kd.Q_nil _ _ _ _ _ | exact Kd.S_nil _ _ _ _ _, by repeat (first | (with_reducible first | exact HB.out | apply below_alloc | apply pw_below_drewN | apply below_drew1 | refine below_set ?_ GE110.out) | exact HB.out)⟩
                    · rw [if_neg c19] at H
                      have c19b0 : ((((rd_T24 l0 x31_2).f0) == 0) != (x31_2 == 0)) = false := by simpa using c19
                      (try (have c19b1 : decide ((((rd_T24 l0 x31_2).f0) == 0) = (x31_2 == 0)) = true := by simpa using c19))
                      (try (have c19b2 : ((((rd_T24 l0 x31_2).f0) == 0) == (x31_2 == 0)) = true := by simpa using c19))
                      clear c19
                      by_cases c22 : x31_2 = (wrap64 ((l0.length : Int) - 1))
                      · rw [if_pos c22] at H
                        have c22b0 : (x31_2 == (wrap64 ((l0.length : Int) - 1))) = true := beq_iff_eq.mpr c22
                        have c22b1 : (x31_2 != (wrap64 ((l0.length : Int) - 1))) = false := bne_eq_false_iff_eq.mpr c22
                        clear c22
                        obtain ⟨y111, hy111⟩ : ∃ y_ : List Int, y_ = (([Go.bits .or .u8 (((rd_T24 l0 x31_2).f0) % 256) 128, ((((rd_T24 l0 x31_2).f1).length : Int) / 65536) % 256, ((((rd_T24 l0 x31_2).f1).length : Int) / 256) % 256, ((((rd_T24 l0 x31_2).f1).length : Int)) % 256] : List Int)) := ⟨_, rfl⟩
                        replace H : (if x7_2.length + y111.length < 140737488355328 then ((some (x7_2 ++ y111 : List Int)).bind fun y114 => (if y114.length + ((rd_T24 l0 x31_2).f1).length < 140737488355328 then (meta_Pack.l1 k2 l0 (y114 ++ ((rd_T24 l0 x31_2).f1)) l0 (l0.length : Int) (wrap64 (x31_2 + 1))) else (none))) else (none)) = some (r1, r2) := by first | (rw [hy111]; with_reducible exact H) | (have H2_ := (Option.bind_some _ _).symm.trans H; rw [hy111]; with_reducible exact H2_) | (have H2_ := (Option.bind_some _ _).symm.trans H; with_reducible exact H2_) | with_reducible exact H | (rw [hy111]; exact H) | exact H
                        have Ny111 := Aside0.mk hy111
                        clear hy111
                        by_cases c23 : x7_2.length + y111.length < 140737488355328
                        · rw [if_pos c23] at H
                          have LMc23 := Aside0.mk c23
                          clear c23
                          obtain ⟨y114, hy114⟩ : ∃ y_ : List Int, y_ = (x7_2 ++ y111) := ⟨_, rfl⟩
                          replace H : (if y114.length + ((rd_T24 l0 x31_2).f1).length < 140737488355328 then (meta_Pack.l1 k2 l0 (y114 ++ ((rd_T24 l0 x31_2).f1)) l0 (l0.length : Int) (wrap64 (x31_2 + 1))) else (none)) = some (r1, r2) := by first | (rw [hy114]; with_reducible exact H) | (have H2_ := (Option.bind_some _ _).symm.trans H; rw [hy114]; with_reducible exact H2_) | (have H2_ := (Option.bind_some _ _).symm.trans H; with_reducible exact H2_) | with_reducible exact H | (rw [hy114]; exact H) | exact H
                          have Ny114 := Aside0.mk hy114
                          clear hy114
                          by_cases c24 : y114.length + ((rd_T24 l0 x31_2).f1).length < 140737488355328
                          · rw [if_pos c24] at H
                            have LMc24 := Aside0.mk c24
                            clear c24
                            obtain ⟨y117, hy117⟩ : ∃ y_ : List Int, y_ = (y114 ++ ((rd_T24 l0 x31_2).f1)) := ⟨_, rfl⟩
                            replace H : (meta_Pack.l1 k2 l0 y117 l0 (l0.length : Int) (wrap64 (x31_2 + 1))) = some (r1, r2) := by first | (rw [hy117]; with_reducible exact H) | (have H2_ := (Option.bind_some _ _).symm.trans H; rw [hy117]; with_reducible exact H2_) | (have H2_ := (Option.bind_some _ _).symm.trans H; with_reducible exact H2_) | with_reducible exact H | (rw [hy117]; exact H) | exact H
                            have Ny117 := Aside0.mk hy117
                            clear hy117
                            have H' := Aside0.mk H
                            clear H
                            have p109 : 0 ≤ (x31_2 : Int) := of_decide_eq_true (by first | (with_reducible assumption) | assumption)
                            have q109 : x31_2 < (l0.length : Int) := of_decide_eq_true (by first | (with_reducible assumption) | assumption)
                            obtain ⟨ad109, A109_1, c109_1, e109, hx109_0, hx109_1, hl109_1, hi109_1⟩ := at_T24 HR0.out x31_2 p109 q109
                            cases e109
                            replace hx109_0 := (HB.out.cell (World.block_lt_of_cell? w _ hx109_0)).trans hx109_0
                            replace hx109_1 := (HB.out.cell (World.block_lt_of_cell? w _ hx109_1)).trans hx109_1
                            have HR109_1 := Aside0.mk hi109_1
                            have HC109_1 := Aside0.mk hl109_1
                            clear hi109_1 hl109_1
                            replace p109 := eq_true p109
                            replace q109 := eq_true q109
                            go_wp2_with (first | ((with_reducible refine gate_dst (N := 9) rfl ?_); refine box_event ?hg (N := 9) ?hd (cs := #[.int .i64 0, .slice none 0 0]) (t := 24) ?hr ?_; (case hd => rfl); (case hg => rfl); (case hr => first | (go_simp; done) | (go_simp; rfl)); intro gb110 hg w25 hbox hb; have n0_ := Aside0.mk (RM_below (by (with_reducible repeat (first | apply RM_alloc | apply RM_drewN | apply RM_drew)); exact HO_7.out) hb); have n1_ := Aside0.mk (below_step (by repeat (first | (with_reducible first | exact HB.out | apply below_alloc | apply pw_below_drewN | apply below_drew1) | exact HB.out)) hb); have n2_ := Aside0.mk (hbox); have n3_ := Aside0.mk ((by rw [hg]; exact (below_size (by repeat (first | (with_reducible first | exact HB.out | apply below_alloc | apply pw_below_drewN | apply below_drew1) | exact HB.out))) : w.heap.size ≤ gb110)); have n4_ := Aside0.mk ((by rw [hg]; exact (below_size (by repeat (first | (with_reducible first | exact HB.out | apply below_alloc | apply pw_below_drewN | apply below_drew1) | exact HB.out))) : w.heap.size ≤ gb110)); clear HO_7; clear HB; have HO_7 := n0_; have HB := n1_; have BK110 := n2_; have GW110 := n3_; have GE110 := n4_; clear n0_ n1_ n2_ n3_ n4_; clear hb hbox hg; have hcz26_0 : w25.cell? ⟨gb110, 0, none⟩ = some (.int .i64 0) := (blk_cell BK110.out 0).trans rfl; have hcz26_1 : w25.cell? ⟨gb110, 1, none⟩ = some (.slice none 0 0) := (blk_cell BK110.out 1).trans rfl; have hfz26_0 := blk_frozen BK110.out 0; have hfz26_1 := blk_frozen BK110.out 1) | ((with_reducible refine gate_dst (N := 65) rfl ?_); refine Kd.R_lit (Kd.int .u8) _ 5 ?hg (N := 65) ?hd (xs := ([Go.bits .or .u8 (((rd_T24 l0 x31_2).f0) % 256) 128, ((((rd_T24 l0 x31_2).f1).length : Int) / 65536) % 256, ((((rd_T24 l0 x31_2).f1).length : Int) / 256) % 256, ((((rd_T24 l0 x31_2).f1).length : Int)) % 256] : List Int)) (inner := [.int .u8 (Go.bits .or .u8 (((rd_T24 l0 x31_2).f0) % 256) 128), .int .u8 (((((rd_T24 l0 x31_2).f1).length : Int) / 65536) % 256), .int .u8 (((((rd_T24 l0 x31_2).f1).length : Int) / 256) % 256), .int .u8 (((((rd_T24 l0 x31_2).f1).length : Int)) % 256)]) (ok := fun _ => True) (okp := fun _ => True) ?hr ?hp (fun _ hk => hk) trivial (Below.refl _ _) (Nat.le_refl _) (by simp) ?_; (case hd => rfl); (case hg => rfl); (case hr => first | (go_simp; done) | (go_simp; rfl)); (case hp => exact (Reps.one (show Kd.M (Kd.int .u8) _ _ _ (Go.bits .or .u8 (((rd_T24 l0 x31_2).f0) % 256) 128) [.int .u8 (Go.bits .or .u8 (((rd_T24 l0 x31_2).f0) % 256) 128)] from rfl) (Reps.one (show Kd.M (Kd.int .u8) _ _ _ (((((rd_T24 l0 x31_2).f1).length : Int) / 65536) % 256) [.int .u8 (((((rd_T24 l0 x31_2).f1).length : Int) / 65536) % 256)] from rfl) (Reps.one (show Kd.M (Kd.int .u8) _ _ _ (((((rd_T24 l0 x31_2).f1).length : Int) / 256) % 256) [.int .u8 (((((rd_T24 l0 x31_2).f1).length : Int) / 256) % 256)] from rfl) (Reps.one (show Kd.M (Kd.int .u8) _ _ _ (((((rd_T24 l0 x31_2).f1).length : Int)) % 256) [.int .u8 (((((rd_T24 l0 x31_2).f1).length : Int)) % 256)] from rfl) (Reps.none _ _)))))); intro v112 w27 ho28 hb hg_ hnew_; clear hg_ hnew_; (first | rw [← Ny111.out] at ho28 | (simp only [Int.reduceToNat] at ho28; rw [← Ny111.out] at ho28)); have n0_ := Aside0.mk (RM_elder (by (with_reducible repeat (first | apply RM_alloc | apply RM_drewN | apply RM_drew)); exact (RM_mono (RM_far (p := ⟨gb110, 1, none⟩) (RM_far (p := ⟨gb110, 0, none⟩) (RM_types HO_7.out BK110.out (by decide)) (fun _ hk => hk.2) (.int .i64 ((rd_T24 l0 x31_2).f0))) (fun _ hk => hk.2) (.slice A109_1 ((rd_T24 l0 x31_2).f1).length c109_1)) (fun _ h_ => h_.1))) (Kd.R_base ho28) hb); have n1_ := Aside0.mk (Kd.R_lower (Kd.R_new' ho28 (RM_lt (by (with_reducible repeat (first | apply RM_alloc | apply RM_drewN | apply RM_drew)); exact (RM_mono (RM_far (p := ⟨gb110, 1, none⟩) (RM_far (p := ⟨gb110, 0, none⟩) (RM_types HO_7.out BK110.out (by decide)) (fun _ hk => hk.2) (.int .i64 ((rd_T24 l0 x31_2).f0))) (fun _ hk => hk.2) (.slice A109_1 ((rd_T24 l0 x31_2).f1).length c109_1)) (fun _ h_ => h_.1))))) (below_size (by repeat (first | (with_reducible first | exact HB.out | apply below_alloc | apply pw_below_drewN | apply below_drew1 | refine below_set ?_ GE110.out) | exact HB.out)))); have n2_ := Aside0.mk (blk_below (g := gb110) (o := .cells #[.int .i64 ((rd_T24 l0 x31_2).f0), .slice A109_1 ((rd_T24 l0 x31_2).f1).length c109_1] 24 (0, 0)) (by (with_reducible repeat (first | refine blk_drewN ?_ _ | refine blk_drew ?_ | refine blk_alloc ?_ _)); refine blk_put (cs := #[.int .i64 ((rd_T24 l0 x31_2).f0), .slice none 0 0]) ?_ 1 _ rfl; (with_reducible repeat (first | refine blk_drewN ?_ _ | refine blk_drew ?_ | refine blk_alloc ?_ _)); refine blk_put (cs := #[.int .i64 0, .slice none 0 0]) ?_ 0 _ rfl; (with_reducible repeat (first | refine blk_drewN ?_ _ | refine blk_drew ?_ | refine blk_alloc ?_ _)); exact BK110.out) hb); have n3_ := Aside0.mk (below_step (by repeat (first | (with_reducible first | exact HB.out | apply below_alloc | apply pw_below_drewN | apply below_drew1 | refine below_set ?_ GE110.out) | exact HB.out)) hb); clear HO_7; clear BK110; clear HB; have HO_7 := n0_; have HO113 := n1_; have BK110 := n2_; have HB := n3_; clear n0_ n1_ n2_ n3_; clear hb ho28; obtain ⟨Ao30, co30, eo30⟩ := Kd.R_slice HO113.out; subst eo30) | ((with_reducible refine gate_builtin (b := .append) (xs := #[.tmp 55, .tmp 65]) rfl ?_); at_builtin; refine RM_append_rows (i := x31_2) (w0 := w) w.heap.size rfl (.tmp 55) (.tmp 65) 22 5 (.int .u8 0) 1 rfl Try.underlying22 info5 rfl rfl (by omega) u7 x7_2 y111 _ _ _ (fun k_ => some k_ ≠ (.slice Ao30 y111.length co30 : Value).ownBlock) rfl rfl (by rw [Ny111.out]; exact Nat.succ_pos _) ?aO ?aR ?aF ?aB ?aS ?aL ?_; (case aR => repeat (first | exact (Kd.R_reads' HO113.out).2.2 | (with_reducible refine Kd.C_alloc ?_ _) | (with_reducible refine Kd.C_drewN ?_ _) | (with_reducible refine Kd.C_drew ?_))); (case aB => exact (by repeat (first | (with_reducible first | exact HB.out | apply below_alloc | apply pw_below_drewN | apply below_drew1 | refine below_set ?_ GE110.out) | exact HB.out))); (case aF => exact (fun k_ hk => Kd.fresh' (Kd.R_lt (by (with_reducible repeat (first | apply Kd.R_alloc | apply Kd.R_drewN | apply Kd.R_drew)); exact HO113.out)) k_ hk)); (case aO => exact (by (with_reducible repeat (first | apply RM_alloc | apply RM_drewN | apply RM_drew)); exact RM_mono HO_7.out (fun _ hk => hk.2))); (case aS => exact (below_size (by repeat (first | (with_reducible first | exact HB.out | apply below_alloc | apply pw_below_drewN | apply below_drew1 | refine below_set ?_ GE110.out) | exact HB.out)))); (case aL => have := LMc23.out; omega); intro v115 w29 ho hb hg hat; rw [← Ny114.out] at ho; have n0_ := Aside0.mk (blk_grown (g := gb110) (o := .cells #[.int .i64 ((rd_T24 l0 x31_2).f0), .slice A109_1 ((rd_T24 l0 x31_2).f1).length c109_1] 24 (0, 0)) (by (with_reducible repeat (first | refine blk_drewN ?_ _ | refine blk_drew ?_ | refine blk_alloc ?_ _)); exact BK110.out) hg (RM_ne HO_7.out BK110.out (by decide))); have n1_ := Aside0.mk (Kd.R_after (ok := (fun _ => True)) (by (with_reducible repeat (first | apply Kd.R_alloc | apply Kd.R_drewN | apply Kd.R_drew)); exact HO113.out) hg hat); have n2_ := Aside0.mk (hb); have n3_ := Aside0.mk (ho); clear BK110; clear HO113; clear HB; clear HO_7; have BK110 := n0_; have HO113 := n1_; have HB := n2_; have HO116 := n3_; clear n0_ n1_ n2_ n3_; clear ho hb hg hat; have hcz31_0 : w29.cell? ⟨gb110, 0, none⟩ = some (.int .i64 ((rd_T24 l0 x31_2).f0)) := (blk_cell BK110.out 0).trans rfl; have hcz31_1 : w29.cell? ⟨gb110, 1, none⟩ = some (.slice A109_1 ((rd_T24 l0 x31_2).f1).length c109_1) := (blk_cell BK110.out 1).trans rfl; have hfz31_0 := blk_frozen BK110.out 0; have hfz31_1 := blk_frozen BK110.out 1) | ((with_reducible refine gate_builtin (b := .append) (xs := #[.tmp 67, .tmp 69]) rfl ?_); at_builtin; refine Kd.R_append_rows (Kd.int .u8) (w0 := w) w.heap.size rfl (.tmp 67) (.tmp 69) 22 5 (.int .u8 0) 1 rfl Try.underlying22 info5 rfl (by decide) (by omega) v115 y114 ((rd_T24 l0 x31_2).f1) _ _ _ (fun k_ => some k_ ≠ (.slice Ao30 y111.length co30 : Value).ownBlock) (fun _ => False) rfl rfl ?aO ?aR (fun _ _ h => h) (fun _ h => h.elim) ?aF ?aB ?aS ?aL ?_; (case aR => repeat (first | exact (Kd.C_below HR109_1.out HB.out) | (with_reducible refine Kd.C_alloc ?_ _) | (with_reducible refine Kd.C_drewN ?_ _) | (with_reducible refine Kd.C_drew ?_))); (case aB => exact (by repeat (first | (with_reducible first | exact HB.out | apply below_alloc | apply pw_below_drewN | apply below_drew1 | refine below_set ?_ GE110.out) | exact HB.out))); (case aF => exact (fun k_ hk => Kd.fresh' (Kd.R_lt (by (with_reducible repeat (first | apply Kd.R_alloc | apply Kd.R_drewN | apply Kd.R_drew)); exact HO113.out)) k_ hk)); (case aO => exact (by (with_reducible repeat (first | apply Kd.R_alloc | apply Kd.R_drewN | apply Kd.R_drew)); exact HO116.out)); (case aS => exact (below_size (by repeat (first | (with_reducible first | exact HB.out | apply below_alloc | apply pw_below_drewN | apply below_drew1 | refine below_set ?_ GE110.out) | exact HB.out)))); (case aL => have := LMc24.out; omega); intro v118 w32 ho hb hg hat; rw [← Ny117.out] at ho; have n0_ := Aside0.mk (blk_grown (g := gb110) (o := .cells #[.int .i64 ((rd_T24 l0 x31_2).f0), .slice A109_1 ((rd_T24 l0 x31_2).f1).length c109_1] 24 (0, 0)) (by (with_reducible repeat (first | refine blk_drewN ?_ _ | refine blk_drew ?_ | refine blk_alloc ?_ _)); exact BK110.out) hg (Kd.R_ne HO116.out BK110.out (by decide))); have n1_ := Aside0.mk (Kd.R_after (ok := (fun _ => True)) (by (with_reducible repeat (first | apply Kd.R_alloc | apply Kd.R_drewN | apply Kd.R_drew)); exact HO113.out) hg hat); have n2_ := Aside0.mk (hb); have n3_ := Aside0.mk (ho); clear BK110; clear HO113; clear HB; clear HO116; have BK110 := n0_; have HO113 := n1_; have HB := n2_; have HO119 := n3_; clear n0_ n1_ n2_ n3_; clear ho hb hg hat))
                            go_roundg k2
                            case measure => have := HK1.out; have := HK2.out; omega
                            case rel => exact ⟨(y117), (wrap64 (x31_2 + 1)), (by first | rfl | (simp; done) | (simp [*]; done)), H', ⟨by have := HK1.out; have := HK2.out; omega⟩, ⟨Or.inl (by (with_reducible repeat (first | apply Kd.R_alloc | apply Kd.R_drewN | apply Kd.R_drew)); exact Kd.R_mono HO119.out (fun _ hk => trivial))⟩, ⟨by repeat (first | (with_reducible first | exact HB.out | apply below_alloc | apply pw_below_drewN | apply below_drew1 | refine below_set ?_ GE110.out) | exact HB.out)⟩⟩
                          · rw [if_neg c24] at H
                            exact absurd H (by simp)
                        · rw [if_neg c23] at H
                          exact absurd H (by simp)
                      · rw [if_neg c22] at H
                        have c22b0 : (x31_2 == (wrap64 ((l0.length : Int) - 1))) = false := beq_eq_false_iff_ne.mpr c22
                        have c22b1 : (x31_2 != (wrap64 ((l0.length : Int) - 1))) = true := bne_iff_ne.mpr c22
                        obtain ⟨y120, hy120⟩ : ∃ y_ : List Int, y_ = (([((rd_T24 l0 x31_2).f0) % 256, ((((rd_T24 l0 x31_2).f1).length : Int) / 65536) % 256, ((((rd_T24 l0 x31_2).f1).length : Int) / 256) % 256, ((((rd_T24 l0 x31_2).f1).length : Int)) % 256] : List Int)) := ⟨_, rfl⟩
                        replace H : (if x7_2.length + y120.length < 140737488355328 then ((some (x7_2 ++ y120 : List Int)).bind fun y123 => (if y123.length + ((rd_T24 l0 x31_2).f1).length < 140737488355328 then (meta_Pack.l1 k2 l0 (y123 ++ ((rd_T24 l0 x31_2).f1)) l0 (l0.length : Int) (wrap64 (x31_2 + 1))) else (none))) else (none)) = some (r1, r2) := by first | (rw [hy120]; with_reducible exact H) | (have H2_ := (Option.bind_some _ _).symm.trans H; rw [hy120]; with_reducible exact H2_) | (have H2_ := (Option.bind_some _ _).symm.trans H; with_reducible exact H2_) | with_reducible exact H | (rw [hy120]; exact H) | exact H
                        have Ny120 := Aside0.mk hy120
                        clear hy120
                        by_cases c33 : x7_2.length + y120.length < 140737488355328
                        · rw [if_pos c33] at H
                          have LMc33 := Aside0.mk c33
                          clear c33
                          obtain ⟨y123, hy123⟩ : ∃ y_ : List Int, y_ = (x7_2 ++ y120) := ⟨_, rfl⟩
                          replace H : (if y123.length + ((rd_T24 l0 x31_2).f1).length < 140737488355328 then (meta_Pack.l1 k2 l0 (y123 ++ ((rd_T24 l0 x31_2).f1)) l0 (l0.length : Int) (wrap64 (x31_2 + 1))) else (none)) = some (r1, r2) := by first | (rw [hy123]; with_reducible exact H) | (have H2_ := (Option.bind_some _ _).symm.trans H; rw [hy123]; with_reducible exact H2_) | (have H2_ := (Option.bind_some _ _).symm.trans H; with_reducible exact H2_) | with_reducible exact H | (rw [hy123]; exact H) | exact H
                          have Ny123 := Aside0.mk hy123
                          clear hy123
                          by_cases c34 : y123.length + ((rd_T24 l0 x31_2).f1).length < 140737488355328
                          · rw [if_pos c34] at H
                            have LMc34 := Aside0.mk c34
                            clear c34
                            obtain ⟨y126, hy126⟩ : ∃ y_ : List Int, y_ = (y123 ++ ((rd_T24 l0 x31_2).f1)) := ⟨_, rfl⟩
                            replace H : (meta_Pack.l1 k2 l0 y126 l0 (l0.length : Int) (wrap64 (x31_2 + 1))) = some (r1, r2) := by first | (rw [hy126]; with_reducible exact H) | (have H2_ := (Option.bind_some _ _).symm.trans H; rw [hy126]; with_reducible exact H2_) | (have H2_ := (Option.bind_some _ _).symm.trans H; with_reducible exact H2_) | with_reducible exact H | (rw [hy126]; exact H) | exact H
                            have Ny126 := Aside0.mk hy126
                            clear hy126
                            have H' := Aside0.mk H
                            clear H
                            have p109 : 0 ≤ (x31_2 : Int) := of_decide_eq_true (by first | (with_reducible assumption) | assumption)
                            have q109 : x31_2 < (l0.length : Int) := of_decide_eq_true (by first | (with_reducible assumption) | assumption)
                            obtain ⟨ad109, A109_1, c109_1, e109, hx109_0, hx109_1, hl109_1, hi109_1⟩ := at_T24 HR0.out x31_2 p109 q109
                            cases e109
                            replace hx109_0 := (HB.out.cell (World.block_lt_of_cell? w _ hx109_0)).trans hx109_0
                            replace hx109_1 := (HB.out.cell (World.block_lt_of_cell? w _ hx109_1)).trans hx109_1
                            have HR109_1 := Aside0.mk hi109_1
                            have HC109_1 := Aside0.mk hl109_1
                            clear hi109_1 hl109_1
                            replace p109 := eq_true p109
                            replace q109 := eq_true q109
                            go_wp2_with (first | ((with_reducible refine gate_dst (N := 9) rfl ?_); refine box_event ?hg (N := 9) ?hd (cs := #[.int .i64 0, .slice none 0 0]) (t := 24) ?hr ?_; (case hd => rfl); (case hg => rfl); (case hr => first | (go_simp; done) | (go_simp; rfl)); intro gb110 hg w35 hbox hb; have n0_ := Aside0.mk (RM_below (by (with_reducible repeat (first | apply RM_alloc | apply RM_drewN | apply RM_drew)); exact HO_7.out) hb); have n1_ := Aside0.mk (below_step (by repeat (first | (with_reducible first | exact HB.out | apply below_alloc | apply pw_below_drewN | apply below_drew1) | exact HB.out)) hb); have n2_ := Aside0.mk (hbox); have n3_ := Aside0.mk ((by rw [hg]; exact (below_size (by repeat (first | (with_reducible first | exact HB.out | apply below_alloc | apply pw_below_drewN | apply below_drew1) | exact HB.out))) : w.heap.size ≤ gb110)); have n4_ := Aside0.mk ((by rw [hg]; exact (below_size (by repeat (first | (with_reducible first | exact HB.out | apply below_alloc | apply pw_below_drewN | apply below_drew1) | exact HB.out))) : w.heap.size ≤ gb110)); clear HO_7; clear HB; have HO_7 := n0_; have HB := n1_; have BK110 := n2_; have GW110 := n3_; have GE110 := n4_; clear n0_ n1_ n2_ n3_ n4_; clear hb hbox hg; have hcz36_0 : w35.cell? ⟨gb110, 0, none⟩ = some (.int .i64 0) := (blk_cell BK110.out 0).trans rfl; have hcz36_1 : w35.cell? ⟨gb110, 1, none⟩ = some (.slice none 0 0) := (blk_cell BK110.out 1).trans rfl; have hfz36_0 := blk_frozen BK110.out 0; have hfz36_1 := blk_frozen BK110.out 1) | ((with_reducible refine gate_dst (N := 65) rfl ?_); refine Kd.R_lit (Kd.int .u8) _ 5 ?hg (N := 65) ?hd (xs := ([((rd_T24 l0 x31_2).f0) % 256, ((((rd_T24 l0 x31_2).f1).length : Int) / 65536) % 256, ((((rd_T24 l0 x31_2).f1).length : Int) / 256) % 256, ((((rd_T24 l0 x31_2).f1).length : Int)) % 256] : List Int)) (inner := [.int .u8 (((rd_T24 l0 x31_2).f0) % 256), .int .u8 (((((rd_T24 l0 x31_2).f1).length : Int) / 65536) % 256), .int .u8 (((((rd_T24 l0 x31_2).f1).length : Int) / 256) % 256), .int .u8 (((((rd_T24 l0 x31_2).f1).length : Int)) % 256)]) (ok := fun _ => True) (okp := fun _ => True) ?hr ?hp (fun _ hk => hk) trivial (Below.refl _ _) (Nat.le_refl _) (by simp) ?_; (case hd => rfl); (case hg => rfl); (case hr => first | (go_simp; done) | (go_simp; rfl)); (case hp => exact (Reps.one (show Kd.M (Kd.int .u8) _ _ _ (((rd_T24 l0 x31_2).f0) % 256) [.int .u8 (((rd_T24 l0 x31_2).f0) % 256)] from rfl) (Reps.one (show Kd.M (Kd.int .u8) _ _ _ (((((rd_T24 l0 x31_2).f1).length : Int) / 65536) % 256) [.int .u8 (((((rd_T24 l0 x31_2).f1).length : Int) / 65536) % 256)] from rfl) (Reps.one (show Kd.M (Kd.int .u8) _ _ _ (((((rd_T24 l0 x31_2).f1).length : Int) / 256) % 256) [.int .u8 (((((rd_T24 l0 x31_2).f1).length : Int) / 256) % 256)] from rfl) (Reps.one (show Kd.M (Kd.int .u8) _ _ _ (((((rd_T24 l0 x31_2).f1).length : Int)) % 256) [.int .u8 (((((rd_T24 l0 x31_2).f1).length : Int)) % 256)] from rfl) (Reps.none _ _)))))); intro v121 w37 ho38 hb hg_ hnew_; clear hg_ hnew_; (first | rw [← Ny120.out] at ho38 | (simp only [Int.reduceToNat] at ho38; rw [← Ny120.out] at ho38)); have n0_ := Aside0.mk (RM_elder (by (with_reducible repeat (first | apply RM_alloc | apply RM_drewN | apply RM_drew)); exact (RM_mono (RM_far (p := ⟨gb110, 1, none⟩) (RM_far (p := ⟨gb110, 0, none⟩) (RM_types HO_7.out BK110.out (by decide)) (fun _ hk => hk.2) (.int .i64 ((rd_T24 l0 x31_2).f0))) (fun _ hk => hk.2) (.slice A109_1 ((rd_T24 l0 x31_2).f1).length c109_1)) (fun _ h_ => h_.1))) (Kd.R_base ho38) hb); have n1_ := Aside0.mk (Kd.R_lower (Kd.R_new' ho38 (RM_lt (by (with_reducible repeat (first | apply RM_alloc | apply RM_drewN | apply RM_drew)); exact (RM_mono (RM_far (p := ⟨gb110, 1, none⟩) (RM_far (p := ⟨gb110, 0, none⟩) (RM_types HO_7.out BK110.out (by decide)) (fun _ hk => hk.2) (.int .i64 ((rd_T24 l0 x31_2).f0))) (fun _ hk => hk.2) (.slice A109_1 ((rd_T24 l0 x31_2).f1).length c109_1)) (fun _ h_ => h_.1))))) (below_size (by repeat (first | (with_reducible first | exact HB.out | apply below_alloc | apply pw_below_drewN | apply below_drew1 | refine below_set ?_ GE110.out) | exact HB.out)))); have n2_ := Aside0.mk (blk_below (g := gb110) (o := .cells #[.int .i64 ((rd_T24 l0 x31_2).f0), .slice A109_1 ((rd_T24 l0 x31_2).f1).length c109_1] 24 (0, 0)) (by (with_reducible repeat (first | refine blk_drewN ?_ _ | refine blk_drew ?_ | refine blk_alloc ?_ _)); refine blk_put (cs := #[.int .i64 ((rd_T24 l0 x31_2).f0), .slice none 0 0]) ?_ 1 _ rfl; (with_reducible repeat (first | refine blk_drewN ?_ _ | refine blk_drew ?_ | refine blk_alloc ?_ _)); refine blk_put (cs := #[.int .i64 0, .slice none 0 0]) ?_ 0 _ rfl; (with_reducible repeat (first | refine blk_drewN ?_ _ | refine blk_drew ?_ | refine blk_alloc ?_ _)); exact BK110.out) hb); have n3_ := Aside0.mk (below_step (by repeat (first | (with_reducible first | exact HB.out | apply below_alloc | apply pw_below_drewN | apply below_drew1 | refine below_set ?_ GE110.out) | exact HB.out)) hb); clear HO_7; clear BK110; clear HB; have HO_7 := n0_; have HO122 := n1_; have BK110 := n2_; have HB := n3_; clear n0_ n1_ n2_ n3_; clear hb ho38; obtain ⟨Ao40, co40, eo40⟩ := Kd.R_slice HO122.out; subst eo40) | ((with_reducible refine gate_builtin (b := .append) (xs := #[.tmp 55, .tmp 65]) rfl ?_); at_builtin; refine RM_append_rows (i := x31_2) (w0 := w) w.heap.size rfl (.tmp 55) (.tmp 65) 22 5 (.int .u8 0) 1 rfl Try.underlying22 info5 rfl rfl (by omega) u7 x7_2 y120 _ _ _ (fun k_ => some k_ ≠ (.slice Ao40 y120.length co40 : Value).ownBlock) rfl rfl (by rw [Ny120.out]; exact Nat.succ_pos _) ?aO ?aR ?aF ?aB ?aS ?aL ?_; (case aR => repeat (first | exact (Kd.R_reads' HO122.out).2.2 | (with_reducible refine Kd.C_alloc ?_ _) | (with_reducible refine Kd.C_drewN ?_ _) | (with_reducible refine Kd.C_drew ?_))); (case aB => exact (by repeat (first | (with_reducible first | exact HB.out | apply below_alloc | apply pw_below_drewN | apply below_drew1 | refine below_set ?_ GE110.out) | exact HB.out))); (case aF => exact (fun k_ hk => Kd.fresh' (Kd.R_lt (by (with_reducible repeat (first | apply Kd.R_alloc | apply Kd.R_drewN | apply Kd.R_drew)); exact HO122.out)) k_ hk)); (case aO => exact (by (with_reducible repeat (first | apply RM_alloc | apply RM_drewN | apply RM_drew)); exact RM_mono HO_7.out (fun _ hk => hk.2))); (case aS => exact (below_size (by repeat (first | (with_reducible first | exact HB.out | apply below_alloc | apply pw_below_drewN | apply below_drew1 | refine below_set ?_ GE110.out) | exact HB.out)))); (case aL => have := LMc33.out; omega); intro v124 w39 ho hb hg hat; rw [← Ny123.out] at ho; have n0_ := Aside0.mk (blk_grown (g := gb110) (o := .cells #[.int .i64 ((rd_T24 l0 x31_2).f0), .slice A109_1 ((rd_T24 l0 x31_2).f1).length c109_1] 24 (0, 0)) (by (with_reducible repeat (first | refine blk_drewN ?_ _ | refine blk_drew ?_ | refine blk_alloc ?_ _)); exact BK110.out) hg (RM_ne HO_7.out BK110.out (by decide))); have n1_ := Aside0.mk (Kd.R_after (ok := (fun _ => True)) (by (with_reducible repeat (first | apply Kd.R_alloc | apply Kd.R_drewN | apply Kd.R_drew)); exact HO122.out) hg hat); have n2_ := Aside0.mk (hb); have n3_ := Aside0.mk (ho); clear BK110; clear HO122; clear HB; clear HO_7; have BK110 := n0_; have HO122 := n1_; have HB := n2_; have HO125 := n3_; clear n0_ n1_ n2_ n3_; clear ho hb hg hat; have hcz41_0 : w39.cell? ⟨gb110, 0, none⟩ = some (.int .i64 ((rd_T24 l0 x31_2).f0)) := (blk_cell BK110.out 0).trans rfl; have hcz41_1 : w39.cell? ⟨gb110, 1, none⟩ = some (.slice A109_1 ((rd_T24 l0 x31_2).f1).length c109_1) := (blk_cell BK110.out 1).trans rfl; have hfz41_0 := blk_frozen BK110.out 0; have hfz41_1 := blk_frozen BK110.out 1) | ((with_reducible refine gate_builtin (b := .append) (xs := #[.tmp 67, .tmp 69]) rfl ?_); at_builtin; refine Kd.R_append_rows (Kd.int .u8) (w0 := w) w.heap.size rfl (.tmp 67) (.tmp 69) 22 5 (.int .u8 0) 1 rfl Try.underlying22 info5 rfl (by decide) (by omega) v124 y123 ((rd_T24 l0 x31_2).f1) _ _ _ (fun k_ => some k_ ≠ (.slice Ao40 y120.length co40 : Value).ownBlock) (fun _ => False) rfl rfl ?aO ?aR (fun _ _ h => h) (fun _ h => h.elim) ?aF ?aB ?aS ?aL ?_; (case aR => repeat (first | exact (Kd.C_below HR109_1.out HB.out) | (with_reducible refine Kd.C_alloc ?_ _) | (with_reducible refine Kd.C_drewN ?_ _) | (with_reducible refine Kd.C_drew ?_))); (case aB => exact (by repeat (first | (with_reducible first | exact HB.out | apply below_alloc | apply pw_below_drewN | apply below_drew1 | refine below_set ?_ GE110.out) | exact HB.out))); (case aF => exact (fun k_ hk => Kd.fresh' (Kd.R_lt (by (with_reducible repeat (first | apply Kd.R_alloc | apply Kd.R_drewN | apply Kd.R_drew)); exact HO122.out)) k_ hk)); (case aO => exact (by (with_reducible repeat (first | apply Kd.R_alloc | apply Kd.R_drewN | apply Kd.R_drew)); exact HO125.out)); (case aS => exact (below_size (by repeat (first | (with_reducible first | exact HB.out | apply below_alloc | apply pw_below_drewN | apply below_drew1 | refine below_set ?_ GE110.out) | exact HB.out)))); (case aL => have := LMc34.out; omega); intro v127 w42 ho hb hg hat; rw [← Ny126.out] at ho; have n0_ := Aside0.mk (blk_grown (g := gb110) (o := .cells #[.int .i64 ((rd_T24 l0 x31_2).f0), .slice A109_1 ((rd_T24 l0 x31_2).f1).length c109_1] 24 (0, 0)) (by (with_reducible repeat (first | refine blk_drewN ?_ _ | refine blk_drew ?_ | refine blk_alloc ?_ _)); exact BK110.out) hg (Kd.R_ne HO125.out BK110.out (by decide))); have n1_ := Aside0.mk (Kd.R_after (ok := (fun _ => True)) (by (with_reducible repeat (first | apply Kd.R_alloc | apply Kd.R_drewN | apply Kd.R_drew)); exact HO122.out) hg hat); have n2_ := Aside0.mk (hb); have n3_ := Aside0.mk (ho); clear BK110; clear HO122; clear HB; clear HO125; have BK110 := n0_; have HO122 := n1_; have HB := n2_; have HO128 := n3_; clear n0_ n1_ n2_ n3_; clear ho hb hg hat))
                            go_roundg k2
                            case measure => have := HK1.out; have := HK2.out; omega
                            case rel => exact ⟨(y126), (wrap64 (x31_2 + 1)), (by first | rfl | (simp; done) | (simp [*]; done)), H', ⟨by have := HK1.out; have := HK2.out; omega⟩, ⟨Or.inl (by (with_reducible repeat (first | apply Kd.R_alloc | apply Kd.R_drewN | apply Kd.R_drew)); exact Kd.R_mono HO128.out (fun _ hk => trivial))⟩, ⟨by repeat (first | (with_reducible first | exact HB.out | apply below_alloc | apply pw_below_drewN | apply below_drew1 | refine below_set ?_ GE110.out) | exact HB.out)⟩⟩
                          · rw [if_neg c34] at H
                            exact absurd H (by simp)
                        · rw [if_neg c33] at H
                          exact absurd H (by simp)
                  · rw [if_neg c18] at H
                    exact absurd H (by simp)
                · rw [if_neg c17] at H
                  exact absurd H (by simp)
              · rw [if_neg c16] at H
                have HO_Z := Aside0.mk (HO_7.out.elim (fun h_ => h_) (fun h_ => absurd h_.1 (by have := HNE.out; omega)))
                clear HO_7
                have HO_7 := HO_Z
                clear HO_Z
                have c16b0 : decide (x31_2 < (l0.length : Int)) = false := decide_eq_false c16
                clear c16
                simp only [Option.some.injEq, Prod.mk.injEq] at H
                obtain ⟨rfl, rfl⟩ := H
                go_wp2
                go_ret2
                exact ⟨_, by first | rfl | (simp [errW_none, errW_some] <;> rfl) | (simp [*, errW_none, errW_some] <;> rfl), by (with_reducible repeat (first | apply Kd.R_alloc | apply Kd.R_drewN | apply Kd.R_drew)); exact HO_7.out, by repeat (first | (with_reducible first | exact HB.out | apply below_alloc | apply pw_below_drewN | apply below_drew1) | exact HB.out)⟩

end Go.Proofs.Ytpeejdmbnlhjmaa.PMetaSizes
