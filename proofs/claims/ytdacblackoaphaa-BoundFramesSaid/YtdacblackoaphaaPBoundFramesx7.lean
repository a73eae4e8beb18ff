-- written by this session's program wip/reprint.sh (a turned copy of the kit's print): the session's own text
import Derived.Test.YtdacblackoaphaaPBoundFramesx0
import Derived.Test.YtdacblackoaphaaPBoundFramesx6
import Derived.Lib.SlBytesConst
namespace Go.Proofs.Ytdacblackoaphaa.PBoundFrames
open Go.RowKit Go.Proofs.YtdacblackoaphaaW.PrintWords Go.Proofs.YtdacblackoaphaaW.PrintLast Go.Proofs.YtdacblackoaphaaW.PrintMore Go.Proofs.Ytdacblackoaphaa.H
attribute [local go_sem] max2_int min2_int max_two min_two max_three min_three max_four min_four   -- for this text's walks alone
set_option linter.unusedVariables false
set_option linter.unusedSimpArgs false

/-! ### serinetteref18_Pack: function 27 -/
/-- The row of '[]byte("fLaC")': it bears the run-time's mark behind its last cell. -/
def MK (W : World) (base : Nat) (v : Value) (xs : List Int) : Prop := ∃ g, v = .slice (some ⟨g, 0, none⟩) 4 4 ∧ base ≤ g ∧ xs = [102, 76, 97, 67] ∧ W.heap[g]? = some (.cells #[.int .u8 102, .int .u8 76, .int .u8 97, .int .u8 67] 5 (4, 5))
/-- A row of the call's own; or, ahead of the first round, the marked one. -/
def RM (W : World) (base : Nat) (v : Value) (xs : List Int) (i : Int) : Prop := Kd.R (Kd.int .u8) 5 W base (fun _ => True) v xs ∨ (i = 0 ∧ MK W base v xs)
theorem cell_block_ {w : World} {g : Nat} {cs : Array Value} {t : TypeId} {fr : Nat × Nat} (h : w.heap[g]? = some (.cells cs t fr)) (i : Nat) : w.cell? ⟨g, i, none⟩ = cs[i]? := by simp [World.cell?, h]
theorem own_le_ {w : World} {base base' size n : Nat} {e : TypeId} {v : Value} {xs : List Value} (h : w.ownsRow base e size v n xs) (hb : base' ≤ base) : w.ownsRow base' e size v n xs :=
  ⟨h.1, h.2.elim Or.inl (fun ⟨g, cap, cur, hv, hg, r⟩ => Or.inr ⟨g, cap, cur, hv, Nat.le_trans hb hg, r⟩)⟩
section
variable {W w1 : World} {base : Nat} {v : Value} {xs : List Int} {i : Int}
theorem MK_below (h : MK W base v xs) (hb : Below W.heap.size W w1) : MK w1 base v xs := by
  obtain ⟨g, h1, h2, h3, h4⟩ := h
  exact ⟨g, h1, h2, h3, blk_below h4 hb⟩
theorem RM_below (h : RM W base v xs i) (hb : Below W.heap.size W w1) : RM w1 base v xs i := h.imp (fun h => Kd.R_below h hb) (fun h => ⟨h.1, MK_below h.2 hb⟩)
theorem RM_alloc (h : RM W base v xs i) (o : Obj) : RM (W.alloc o) base v xs i := RM_below h (below_alloc (Below.refl _ _) _)
theorem RM_drew (h : RM W base v xs i) : RM W.drew base v xs i := h.imp (fun h => Kd.R_drew h) (fun ⟨a, g, h1, h2, h3, h4⟩ => ⟨a, g, h1, h2, h3, blk_drew h4⟩)
theorem RM_drewN (h : RM W base v xs i) (m : Nat) : RM (W.drewN m) base v xs i := h.imp (fun h => Kd.R_drewN h m) (fun ⟨a, g, h1, h2, h3, h4⟩ => ⟨a, g, h1, h2, h3, blk_drewN h4 m⟩)
theorem RM_append {P : Program} {ops : Array Oper} {rest : List Oper} {o : Oper} {a : Act} {Q : Exit → Act → World → Prop} {w0 W : World} (base : Nat) (hgd : o.guard = none) (s x : Operand) (t e : TypeId) (z : Value) (bytes : Nat)
    (ho : o.op = .call { callee := .builtin .append, args := #[s, x], argTypes := #[t, t] })
    (ht : P.underlying t = some (.slice e)) (hinfo : (P.info? e).map (fun i => (i.zero, i.size, i.bytes)) = some (some z, 1, bytes)) (hz : z.cells.size = 1) (he : e = 5) (hb0 : 0 < bytes)
    (v : Value) (xs : List Int) (p : Int) (hs : a.eval s = v) (hx : a.eval x = .slice (some ⟨W.heap.size, 0, none⟩) 1 1)
    (HO : RM W base v xs i) (HB : Below base w0 W) (hbase : base ≤ W.heap.size) (hl : (xs.length + 1) * bytes ≤ 140737488355328)
    (h : ∀ v1 w1, Kd.R (Kd.int .u8) e w1 base (fun _ => True) v1 (xs ++ [p]) → Below base w0 w1 → wpList P ops Q rest (a.put o.dst v1) w1) :
    wpList P ops Q (o :: rest) a (W.alloc (.cells #[.int .u8 p] e)) := by
  subst he
  rcases HO with HO | ⟨_, g, rfl, hg0, rfl, hblk⟩
  · exact Kd.R_append (Kd.int .u8) (w0 := w0) base hgd s x t 5 z bytes ho ht hinfo hz (by decide) hb0 v xs p [.int .u8 p] (fun _ => True) (fun _ => False) hs hx rfl (fun _ hk => hk.elim) (fun _ _ => trivial) HO HB hbase hl (fun v1 w1 h1 h2 _ _ => h v1 w1 h1 h2)
  · obtain ⟨i0, hi, hzz⟩ := Option.map_eq_some_iff.1 hinfo
    simp only [Prod.mk.injEq] at hzz
    obtain ⟨hz0, hz1, hz2⟩ := hzz
    have hb4 := blk_alloc hblk (.cells #[.int .u8 p] 5)
    have hn4 : (W.alloc (.cells #[.int .u8 p] 5)).heap[W.heap.size]? = some (.cells #[.int .u8 p] 5) := heap_alloc_new _ _
    refine wpList_append_grows (W.alloc (.cells #[.int .u8 p] 5)) hgd s x t ho 5 i0 z 1 bytes ht hi hz0 hz1 hz2 hz (by decide) (some ⟨g, 0, none⟩) 4 4 [.int .u8 102, .int .u8 76, .int .u8 97, .int .u8 67] hs (by simp) rfl ?_ ⟨W.heap.size, 0, none⟩ 1 1 [.int .u8 p] hx rfl ?_ (by simp [Value.oneCell']) (by decide) (by decide) (by simpa using hl) ?_
    · intro b hb j u hj
      cases hb
      rw [add_plain, cell_block_ hb4 j]
      rw [← hj]; simp
    · intro j u hj
      rw [add_plain, cell_block_ hn4 j]
      rw [← hj]; simp
    · intro v' w' hown hgr
      have hsz : (W.alloc (.cells #[.int .u8 p] 5)).heap.size = W.heap.size + 1 := by simp
      refine h v' w' (Kd.R_of_own (enc := Value.int .u8) (h1 := fun _ => rfl) (xs := [102, 76, 97, 67] ++ [p]) ?_ (fun _ _ => trivial)) ?_
      · exact own_le_ hown (by omega)
      · exact (HB.alloc hbase _).grown hgr (by omega) (fun k hk => by cases hk)
end
mutual
def serinetteref18_Pack.l0 : Nat → List (S57) → Int → Option (List Int × Int)
  | 0, _, _ => none
  | k + 1, x0, x4 => if x4 < (x0.length : Int) then (if 0 ≤ x4 then ((serinetteref18_Odd.f k ((rd_T57 x0 x4).f0) ((rd_T57 x0 x4).f1)).bind fun t194 => (if t194 = 0 then (serinetteref18_Pack.l0 k x0 (wrap64 (x4 + 1))) else (some (([] : List Int), t194)))) else (none)) else (serinetteref18_Pack.l1 k x0 (([102, 76, 97, 67] : List Int)) 0)
def serinetteref18_Pack.l1 : Nat → List (S57) → List Int → Int → Option (List Int × Int)
  | 0, _, _, _ => none
  | k + 1, x0, x6, x7 => if x7 < (x0.length : Int) then (if 0 ≤ x7 then (if ((rd_T57 x0 x7).f0) = 0 then (if x7 > 0 then (serinetteref18_Pack.j2 k x0 x6 x7 true) else (serinetteref18_Pack.j2 k x0 x6 x7 false)) else (serinetteref18_Pack.j2 k x0 x6 x7 (x7 == 0))) else (none)) else (some (x6, 0))
def serinetteref18_Pack.j2 : Nat → List (S57) → List Int → Int → Bool → Option (List Int × Int)
  | 0, _, _, _, _ => none
  | k + 1, x0, x6, x7, x55 => if x55 = true then (some (([] : List Int), 5)) else (if 0 ≤ x7 then (if x7 < (x0.length : Int) then (if x7 = (wrap64 ((x0.length : Int) - 1)) then (if x6.length < 140737488355328 then ((some (x6 ++ [(wrap64 (((rd_T57 x0 x7).f0) + 128)) % 256] : List Int)).bind fun y202 => ((serinetteref18_Number.f k (((rd_T57 x0 x7).f1).length : Int) 3).bind fun t206 => (if y202.length + t206.length < 140737488355328 then ((some (y202 ++ t206 : List Int)).bind fun y209 => (if y209.length + ((rd_T57 x0 x7).f1).length < 140737488355328 then (serinetteref18_Pack.l1 k x0 (y209 ++ ((rd_T57 x0 x7).f1)) (wrap64 (x7 + 1))) else (none))) else (none)))) else (none)) else (if x6.length < 140737488355328 then ((some (x6 ++ [((rd_T57 x0 x7).f0) % 256] : List Int)).bind fun y216 => ((serinetteref18_Number.f k (((rd_T57 x0 x7).f1).length : Int) 3).bind fun t220 => (if y216.length + t220.length < 140737488355328 then ((some (y216 ++ t220 : List Int)).bind fun y223 => (if y223.length + ((rd_T57 x0 x7).f1).length < 140737488355328 then (serinetteref18_Pack.l1 k x0 (y223 ++ ((rd_T57 x0 x7).f1)) (wrap64 (x7 + 1))) else (none))) else (none)))) else (none))) else (none)) else (none))
end
def serinetteref18_Pack.f (k : Nat) (l0 : List (S57)) : Option (List Int × Int) := if (l0.length : Int) = 0 then (some (([] : List Int), 2)) else (serinetteref18_Pack.l0 k l0 0)
theorem serinetteref18_Pack.mono_l : ∀ k, (∀ y0 y1, LeO (serinetteref18_Pack.l0 k y0 y1) (serinetteref18_Pack.l0 (k + 1) y0 y1)) ∧ (∀ y0 y1 y2, LeO (serinetteref18_Pack.l1 k y0 y1 y2) (serinetteref18_Pack.l1 (k + 1) y0 y1 y2)) ∧ (∀ y0 y1 y2 y3, LeO (serinetteref18_Pack.j2 k y0 y1 y2 y3) (serinetteref18_Pack.j2 (k + 1) y0 y1 y2 y3))
  | 0 => ⟨fun _ _ r h => by simp [serinetteref18_Pack.l0] at h, fun _ _ _ r h => by simp [serinetteref18_Pack.l1] at h, fun _ _ _ _ r h => by simp [serinetteref18_Pack.j2] at h⟩
  | k + 1 => by
    obtain ⟨ih0, ih1, ih2⟩ := serinetteref18_Pack.mono_l k
    refine ⟨?_, ?_, ?_⟩
    · intro y0 y1
      unfold serinetteref18_Pack.l0
      repeat' first
      | (with_reducible exact ih0 _ _)
      | (with_reducible exact ih1 _ _ _)
      | (with_reducible exact ih2 _ _ _ _)
      | (with_reducible exact serinetteref18_Number.mono _ _ _)
      | (with_reducible exact serinetteref18_Odd.mono _ _ _)
      | (with_reducible exact LeO.refl _)
      | (with_reducible exact LeO.none _)
      | (with_reducible refine LeO.ite ?_ ?_)
      | (with_reducible refine LeO.bind ?_ (fun _ => ?_))
      | exact ih0 _ _
      | exact ih1 _ _ _
      | exact ih2 _ _ _ _
      | exact serinetteref18_Number.mono _ _ _
      | exact serinetteref18_Odd.mono _ _ _
      | exact LeO.none _
      | refine LeO.ite ?_ ?_
      | refine LeO.bind ?_ (fun _ => ?_)
    · intro y0 y1 y2
      unfold serinetteref18_Pack.l1
      repeat' first
      | (with_reducible exact ih0 _ _)
      | (with_reducible exact ih1 _ _ _)
      | (with_reducible exact ih2 _ _ _ _)
      | (with_reducible exact serinetteref18_Number.mono _ _ _)
      | (with_reducible exact serinetteref18_Odd.mono _ _ _)
      | (with_reducible exact LeO.refl _)
      | (with_reducible exact LeO.none _)
      | (with_reducible refine LeO.ite ?_ ?_)
      | (with_reducible refine LeO.bind ?_ (fun _ => ?_))
      | exact ih0 _ _
      | exact ih1 _ _ _
      | exact ih2 _ _ _ _
      | exact serinetteref18_Number.mono _ _ _
      | exact serinetteref18_Odd.mono _ _ _
      | exact LeO.none _
      | refine LeO.ite ?_ ?_
      | refine LeO.bind ?_ (fun _ => ?_)
    · intro y0 y1 y2 y3
      unfold serinetteref18_Pack.j2
      repeat' first
      | (with_reducible exact ih0 _ _)
      | (with_reducible exact ih1 _ _ _)
      | (with_reducible exact ih2 _ _ _ _)
      | (with_reducible exact serinetteref18_Number.mono _ _ _)
      | (with_reducible exact serinetteref18_Odd.mono _ _ _)
      | (with_reducible exact LeO.refl _)
      | (with_reducible exact LeO.none _)
      | (with_reducible refine LeO.ite ?_ ?_)
      | (with_reducible refine LeO.bind ?_ (fun _ => ?_))
      | exact ih0 _ _
      | exact ih1 _ _ _
      | exact ih2 _ _ _ _
      | exact serinetteref18_Number.mono _ _ _
      | exact serinetteref18_Odd.mono _ _ _
      | exact LeO.none _
      | refine LeO.ite ?_ ?_
      | refine LeO.bind ?_ (fun _ => ?_)
theorem serinetteref18_Pack.mono : ∀ a0 k, LeO (serinetteref18_Pack.f k a0) (serinetteref18_Pack.f (k + 1) a0) := by
  intro a0 k
  obtain ⟨ih0, ih1, ih2⟩ := serinetteref18_Pack.mono_l k
  unfold serinetteref18_Pack.f
  repeat' first
      | (with_reducible exact ih0 _ _)
      | (with_reducible exact ih1 _ _ _)
      | (with_reducible exact ih2 _ _ _ _)
      | (with_reducible exact serinetteref18_Number.mono _ _ _)
      | (with_reducible exact serinetteref18_Odd.mono _ _ _)
      | (with_reducible exact LeO.refl _)
      | (with_reducible exact LeO.none _)
      | (with_reducible refine LeO.ite ?_ ?_)
      | (with_reducible refine LeO.bind ?_ (fun _ => ?_))
      | exact ih0 _ _
      | exact ih1 _ _ _
      | exact ih2 _ _ _ _
      | exact serinetteref18_Number.mono _ _ _
      | exact serinetteref18_Odd.mono _ _ _
      | exact LeO.none _
      | refine LeO.ite ?_ ?_
      | refine LeO.bind ?_ (fun _ => ?_)
set_option maxHeartbeats 8000000 in
set_option maxRecDepth 100000 in
theorem serinetteref18_Pack.calls (k : Nat) (A0 : Option Addr) (c0 : Nat) (l0 : List (S57)) (r1 : List Int) (r2 : Int) (w : World) (hr0 : Kd.C k57 w A0 l0.length l0) (hc0 : l0.length ≤ c0) (h : serinetteref18_Pack.f k l0 = some (r1, r2)) :
    Calls Try.prog 27 #[.slice A0 l0.length c0] w fun e w' => ∃ v0_ : Value, e = .returned (.tuple #[v0_, .int .i64 r2]) ∧ Kd.R (Kd.int .u8) 5 w' w.heap.size (fun _ => True) v0_ r1 ∧ Below w.heap.size w w' := by
  have hu57 := Try.underlying57
  have HR0 := Aside0.mk hr0
  have HC0 := Aside0.mk hc0
  clear hr0 hc0
  have HB := Aside0.mk (Below.refl w.heap.size w)
  have H : (if (l0.length : Int) = 0 then (some (([] : List Int), 2)) else (serinetteref18_Pack.l0 k l0 0)) = some (r1, r2) := h
  clear h
  by_cases c2 : (l0.length : Int) = 0
  · rw [if_pos c2] at H
    have c2b0 : ((l0.length : Int) == 0) = true := beq_iff_eq.mpr c2
    have c2b1 : ((l0.length : Int) != 0) = false := bne_eq_false_iff_eq.mpr c2
    clear c2
    simp only [Option.some.injEq, Prod.mk.injEq] at H
    obtain ⟨rfl, rfl⟩ := H
    go_enter Try.func27, Try.ntmps27
    go_wp2
    go_ret2
    exact ⟨_, by first | rfl | (simp [errW_none, errW_some] <;> rfl) | (simp [*, errW_none, errW_some] <;> rfl), by first | exact Kd.R_nil _ _ _ _ _ | exact Kd.N_nil _ _ _ _ _ | exact Kd.V_nil _ _ _ _ _ | exact Kd.Q_nil _ _ _ _ _ | exact Kd.S_nil _ _ _ _ _, by repeat (first | (with_reducible first | exact HB.out | apply below_alloc | apply pw_below_drewN | apply below_drew1) | exact HB.out)⟩
  · rw [if_neg c2] at H
    have c2b0 : ((l0.length : Int) == 0) = false := beq_eq_false_iff_ne.mpr c2
    have c2b1 : ((l0.length : Int) != 0) = true := bne_iff_ne.mpr c2
    have c2b2 : ¬ (l0 = []) := fun h_ => c2 (by rw [h_]; rfl)
    have HNE := Aside0.mk c2
    have H' := Aside0.mk H
    clear H
    go_enter Try.func27, Try.ntmps27
    go_wp2
    go_loopg [4] k (fun kq v4 w' => ∃ (x4_1 : Int), v4 = .int .i64 x4_1 ∧ Aside0 (serinetteref18_Pack.l0 kq l0 x4_1 = some (r1, r2)) ∧ Aside0 (kq ≤ k) ∧ Aside0 (Below w.heap.size w w'))
    case atStart => exact ⟨(0), (by first | rfl | (simp; done) | (simp [*]; done)), H', ⟨Nat.le_refl _⟩, ⟨by repeat (first | (with_reducible first | exact HB.out | apply below_alloc | apply pw_below_drewN | apply below_drew1) | exact HB.out)⟩⟩
    case round =>
      clear H'
      try clear c2
      try clear c2b0
      try clear c2b1
      try clear c2b2
      try clear p2
      obtain ⟨x4_1, rfl, HA, HK1, HB⟩ := hrel
      cases gk with
      | zero => exact absurd HA.out (by simp [serinetteref18_Pack.l0])
      | succ k1 =>
        have H := HA.out
        clear HA
        simp only [serinetteref18_Pack.l0] at H
        by_cases c3 : x4_1 < (l0.length : Int)
        · rw [if_pos c3] at H
          have c3b0 : decide (x4_1 < (l0.length : Int)) = true := decide_eq_true c3
          clear c3
          by_cases c4 : 0 ≤ x4_1
          · rw [if_pos c4] at H
            have c4b0 : decide (0 ≤ x4_1) = true := decide_eq_true c4
            clear c4
            replace H := Option.bind_eq_some_iff.mp H
            obtain ⟨t194, A50, H⟩ := H
            replace H : (if t194 = 0 then (serinetteref18_Pack.l0 k1 l0 (wrap64 (x4_1 + 1))) else (some (([] : List Int), t194))) = some (r1, r2) := H
            have A5 := Aside0.mk A50
            clear A50
            by_cases c6 : t194 = 0
            · rw [if_pos c6] at H
              have c6b0 : (t194 == 0) = true := beq_iff_eq.mpr c6
              have c6b1 : (t194 != 0) = false := bne_eq_false_iff_eq.mpr c6
              clear c6
              have H' := Aside0.mk H
              clear H
              have p193 : 0 ≤ (x4_1 : Int) := of_decide_eq_true (by first | (with_reducible assumption) | assumption)
              have q193 : x4_1 < (l0.length : Int) := of_decide_eq_true (by first | (with_reducible assumption) | assumption)
              obtain ⟨ad193, A193_1, c193_1, e193, hx193_0, hx193_1, hl193_1, hi193_1⟩ := at_T57 HR0.out x4_1 p193 q193
              cases e193
              replace hx193_0 := (HB.out.cell (World.block_lt_of_cell? w _ hx193_0)).trans hx193_0
              replace hx193_1 := (HB.out.cell (World.block_lt_of_cell? w _ hx193_1)).trans hx193_1
              have HR193_1 := Aside0.mk hi193_1
              have HC193_1 := Aside0.mk hl193_1
              clear hi193_1 hl193_1
              replace p193 := eq_true p193
              replace q193 := eq_true q193
              go_wp2_with (first | ((with_reducible refine gate_callee (f := 36) rfl ?_); refine goesL_ (some 22) rfl rfl Try.func36 (by kernel_rfl) rfl #[.agg #[.int .i64 ((rd_T57 l0 x4_1).f0), .slice A193_1 ((rd_T57 l0 x4_1).f1).length c193_1]] rfl (by (try simp only [List.map_toArray, List.map_cons, List.map_nil]); first | done | rfl | (simp only [List.length_drop, List.length_take]; rfl)) ?_; (with_reducible refine (serinetteref18_Odd.calls k1 ((rd_T57 l0 x4_1).f0) _ _ ((rd_T57 l0 x4_1).f1) t194 _ ?side1 ?side2 A5.out).mono ?_); (case side1 => repeat (first | exact (Kd.C_below HR193_1.out HB.out) | (with_reducible refine Kd.C_alloc ?_ _) | (with_reducible refine Kd.C_drewN ?_ _) | (with_reducible refine Kd.C_drew ?_))); (case side2 => exact HC193_1.out); rintro e w7 ⟨rfl, hb⟩; refine ⟨_, rfl, ?_⟩; have n0_ := Aside0.mk (below_step (by repeat (first | (with_reducible first | exact HB.out | apply below_alloc | apply pw_below_drewN | apply below_drew1) | exact HB.out)) hb); clear HB; have HB := n0_; clear n0_; (try clear hb); (try clear hb2); (try clear hk); (try clear hi)))
              go_roundg k1
              case measure => have := HK1.out; omega
              case rel => exact ⟨(wrap64 (x4_1 + 1)), (by first | rfl | (simp; done) | (simp [*]; done)), H', ⟨by have := HK1.out; omega⟩, ⟨by repeat (first | (with_reducible first | exact HB.out | apply below_alloc | apply pw_below_drewN | apply below_drew1) | exact HB.out)⟩⟩
            · rw [if_neg c6] at H
              have c6b0 : (t194 == 0) = false := beq_eq_false_iff_ne.mpr c6
              have c6b1 : (t194 != 0) = true := bne_iff_ne.mpr c6
              simp only [Option.some.injEq, Prod.mk.injEq] at H
              obtain ⟨rfl, rfl⟩ := H
              have p193 : 0 ≤ (x4_1 : Int) := of_decide_eq_true (by first | (with_reducible assumption) | assumption)
              have q193 : x4_1 < (l0.length : Int) := of_decide_eq_true (by first | (with_reducible assumption) | assumption)
              obtain ⟨ad193, A193_1, c193_1, e193, hx193_0, hx193_1, hl193_1, hi193_1⟩ := at_T57 HR0.out x4_1 p193 q193
              cases e193
              replace hx193_0 := (HB.out.cell (World.block_lt_of_cell? w _ hx193_0)).trans hx193_0
              replace hx193_1 := (HB.out.cell (World.block_lt_of_cell? w _ hx193_1)).trans hx193_1
              have HR193_1 := Aside0.mk hi193_1
              have HC193_1 := Aside0.mk hl193_1
              clear hi193_1 hl193_1
              replace p193 := eq_true p193
              replace q193 := eq_true q193
              go_wp2_with (first | ((with_reducible refine gate_callee (f := 36) rfl ?_); refine goesL_ (some 22) rfl rfl Try.func36 (by kernel_rfl) rfl #[.agg #[.int .i64 ((rd_T57 l0 x4_1).f0), .slice A193_1 ((rd_T57 l0 x4_1).f1).length c193_1]] rfl (by (try simp only [List.map_toArray, List.map_cons, List.map_nil]); first | done | rfl | (simp only [List.length_drop, List.length_take]; rfl)) ?_; (with_reducible refine (serinetteref18_Odd.calls k1 ((rd_T57 l0 x4_1).f0) _ _ ((rd_T57 l0 x4_1).f1) t194 _ ?side1 ?side2 A5.out).mono ?_); (case side1 => repeat (first | exact (Kd.C_below HR193_1.out HB.out) | (with_reducible refine Kd.C_alloc ?_ _) | (with_reducible refine Kd.C_drewN ?_ _) | (with_reducible refine Kd.C_drew ?_))); (case side2 => exact HC193_1.out); rintro e w8 ⟨rfl, hb⟩; refine ⟨_, rfl, ?_⟩; have n0_ := Aside0.mk (below_step (by repeat (first | (with_reducible first | exact HB.out | apply below_alloc | apply pw_below_drewN | apply below_drew1) | exact HB.out)) hb); clear HB; have HB := n0_; clear n0_; (try clear hb); (try clear hb2); (try clear hk); (try clear hi)))
              go_ret2
              exact ⟨_, by first | rfl | (simp [errW_none, errW_some] <;> rfl) | (simp [*, errW_none, errW_some] <;> rfl), by first | exact Kd.R_nil _ _ _ _ _ | exact Kd.N_nil _ _ _ _ _ | exact Kd.V_nil _ _ _ _ _ | exact Kd.Q_nil _ _ _ _ _ | exact Kd.S_nil _ _ _ _ _, by repeat (first | (with_reducible first | exact HB.out | apply below_alloc | apply pw_below_drewN | apply below_drew1) | exact HB.out)⟩
          · rw [if_neg c4] at H
            exact absurd H (by simp)
        · rw [if_neg c3] at H
          have c3b0 : decide (x4_1 < (l0.length : Int)) = false := decide_eq_false c3
          clear c3
          obtain ⟨y195, hy195⟩ : ∃ y_ : List Int, y_ = (([102, 76, 97, 67] : List Int)) := ⟨_, rfl⟩
          replace H : (serinetteref18_Pack.l1 k1 l0 y195 0) = some (r1, r2) := by first | (rw [hy195]; with_reducible exact H) | (have H2_ := (Option.bind_some _ _).symm.trans H; rw [hy195]; with_reducible exact H2_) | (have H2_ := (Option.bind_some _ _).symm.trans H; with_reducible exact H2_) | with_reducible exact H | (rw [hy195]; exact H) | exact H
          have Ny195 := Aside0.mk hy195
          clear hy195
          have H' := Aside0.mk H
          clear H
          have kc_ := fun (w : World) (C : Array Value) (n c : Nat) => Lib.run_convert_bytes_const (P := Try.prog) w 23 5 C n c Try.underlying23 Try.underlying5
          go_wp2
          go_loopg [6, 7] k1 (fun kq v6 v7 w' => ∃ (x6_2 : List Int) (x7_2 : Int), v7 = .int .i64 x7_2 ∧ Aside0 (serinetteref18_Pack.l1 kq l0 x6_2 x7_2 = some (r1, r2)) ∧ Aside0 (kq ≤ k1) ∧ Aside0 (RM w' w.heap.size v6 x6_2 x7_2) ∧ Aside0 (Below w.heap.size w w'))
          case atStart => exact ⟨(y195), (0), (by first | rfl | (simp; done) | (simp [*]; done)), H', ⟨Nat.le_refl _⟩, ⟨Or.inr ⟨rfl, _, rfl, below_size HB.out, Ny195.out, heap_alloc_new _ _⟩⟩, ⟨by repeat (first | (with_reducible first | exact HB.out | apply below_alloc | apply pw_below_drewN | apply below_drew1) | exact HB.out)⟩⟩
          case round =>
            clear H'
            try clear c1
            try clear p1
            try clear q1
            try clear hx1
            try clear c2
            try clear c2b0
            try clear c2b1
            try clear c2b2
            try clear p2
            try clear c3
            try clear c3b0
            try clear c4
            try clear c4b0
            try clear c6
            try clear c6b0
            try clear c6b1
            try clear p6
            try clear hx193_0
            try clear hx193_1
            try clear p193
            try clear p2
            try clear q193
            obtain ⟨x6_2, x7_2, rfl, HA, HK2, HO_6, HB⟩ := hrel
            cases gk with
            | zero => exact absurd HA.out (by simp [serinetteref18_Pack.l1])
            | succ k2 =>
              have H := HA.out
              clear HA
              simp only [serinetteref18_Pack.l1] at H
              by_cases c11 : x7_2 < (l0.length : Int)
              · rw [if_pos c11] at H
                have c11b0 : decide (x7_2 < (l0.length : Int)) = true := decide_eq_true c11
                clear c11
                have HC12 := Aside0.mk H
                clear H
                go_upto_region 13 with (fail)
                go_cut [55] (fun v55 wc => ∃ (kq : Nat) (x55_11 : Bool), v55 = .bool x55_11 ∧ Aside0 (serinetteref18_Pack.j2 kq l0 x6_2 x7_2 x55_11 = some (r1, r2)) ∧ Aside0 (kq ≤ k2) ∧ Aside0 (RM wc w.heap.size u6 x6_2 x7_2) ∧ Aside0 (Below w.heap.size w wc))
                case first =>
                  have H := HC12.out
                  clear HC12
                  by_cases c13 : 0 ≤ x7_2
                  · rw [if_pos c13] at H
                    have c13b0 : decide (0 ≤ x7_2) = true := decide_eq_true c13
                    clear c13
                    (first | rw [c13b0] | (simp only [i64_w, i32_w]; rw [c13b0]) | skip)
                    by_cases c14 : ((rd_T57 l0 x7_2).f0) = 0
                    · rw [if_pos c14] at H
                      have c14b0 : (((rd_T57 l0 x7_2).f0) == 0) = true := beq_iff_eq.mpr c14
                      have c14b1 : (((rd_T57 l0 x7_2).f0) != 0) = false := bne_eq_false_iff_eq.mpr c14
                      clear c14
                      by_cases c15 : x7_2 > 0
                      · rw [if_pos c15] at H
                        have c15b0 : decide (0 < x7_2) = true := decide_eq_true c15
                        clear c15
                        have H' := Aside0.mk H
                        clear H
                        have p198 : 0 ≤ (x7_2 : Int) := of_decide_eq_true (by first | (with_reducible assumption) | assumption)
                        have q198 : x7_2 < (l0.length : Int) := of_decide_eq_true (by first | (with_reducible assumption) | assumption)
                        obtain ⟨ad198, A198_1, c198_1, e198, hx198_0, hx198_1, hl198_1, hi198_1⟩ := at_T57 HR0.out x7_2 p198 q198
                        cases e198
                        replace hx198_0 := (HB.out.cell (World.block_lt_of_cell? w _ hx198_0)).trans hx198_0
                        replace hx198_1 := (HB.out.cell (World.block_lt_of_cell? w _ hx198_1)).trans hx198_1
                        have HR198_1 := Aside0.mk hi198_1
                        have HC198_1 := Aside0.mk hl198_1
                        clear hi198_1 hl198_1
                        replace p198 := eq_true p198
                        replace q198 := eq_true q198
                        go_wp2
                        go_meet
                        case rel => exact ⟨_, (true), (by first | rfl | (simp; done) | (simp [*]; done)), H', ⟨by have := HK1.out; have := HK2.out; first | omega | exact Nat.le_refl _⟩, ⟨by (with_reducible repeat (first | apply RM_alloc | apply RM_drewN | apply RM_drew)); exact HO_6.out⟩, ⟨by repeat (first | (with_reducible first | exact HB.out | apply below_alloc | apply pw_below_drewN | apply below_drew1) | exact HB.out)⟩⟩
                      · rw [if_neg c15] at H
                        have c15b0 : decide (0 < x7_2) = false := decide_eq_false c15
                        clear c15
                        have H' := Aside0.mk H
                        clear H
                        have p198 : 0 ≤ (x7_2 : Int) := of_decide_eq_true (by first | (with_reducible assumption) | assumption)
                        have q198 : x7_2 < (l0.length : Int) := of_decide_eq_true (by first | (with_reducible assumption) | assumption)
                        obtain ⟨ad198, A198_1, c198_1, e198, hx198_0, hx198_1, hl198_1, hi198_1⟩ := at_T57 HR0.out x7_2 p198 q198
                        cases e198
                        replace hx198_0 := (HB.out.cell (World.block_lt_of_cell? w _ hx198_0)).trans hx198_0
                        replace hx198_1 := (HB.out.cell (World.block_lt_of_cell? w _ hx198_1)).trans hx198_1
                        have HR198_1 := Aside0.mk hi198_1
                        have HC198_1 := Aside0.mk hl198_1
                        clear hi198_1 hl198_1
                        replace p198 := eq_true p198
                        replace q198 := eq_true q198
                        have p199 : 0 ≤ (x7_2 : Int) := of_decide_eq_true (by first | (with_reducible assumption) | assumption)
                        have q199 : x7_2 < (l0.length : Int) := of_decide_eq_true (by first | (with_reducible assumption) | assumption)
                        obtain ⟨ad199, A199_1, c199_1, e199, hx199_0, hx199_1, hl199_1, hi199_1⟩ := at_T57 HR0.out x7_2 p199 q199
                        obtain rfl : ad198 = ad199 := (by injection e199)
                        replace hx199_0 := (HB.out.cell (World.block_lt_of_cell? w _ hx199_0)).trans hx199_0
                        replace hx199_1 := (HB.out.cell (World.block_lt_of_cell? w _ hx199_1)).trans hx199_1
                        have HR199_1 := Aside0.mk hi199_1
                        have HC199_1 := Aside0.mk hl199_1
                        clear hi199_1 hl199_1
                        replace p199 := eq_true p199
                        replace q199 := eq_true q199
                        have ea_ := Option.some.inj (hx198_1.symm.trans hx199_1)
                        injection ea_ with ea_ en_ ec_
                        subst ea_
                        subst ec_
                        clear en_
                        go_wp2
                        go_meet
                        case rel => exact ⟨_, (false), (by first | rfl | (simp; done) | (simp [*]; done)), H', ⟨by have := HK1.out; have := HK2.out; first | omega | exact Nat.le_refl _⟩, ⟨by (with_reducible repeat (first | apply RM_alloc | apply RM_drewN | apply RM_drew)); exact HO_6.out⟩, ⟨by repeat (first | (with_reducible first | exact HB.out | apply below_alloc | apply pw_below_drewN | apply below_drew1) | exact HB.out)⟩⟩
                    · rw [if_neg c14] at H
                      have c14b0 : (((rd_T57 l0 x7_2).f0) == 0) = false := beq_eq_false_iff_ne.mpr c14
                      have c14b1 : (((rd_T57 l0 x7_2).f0) != 0) = true := bne_iff_ne.mpr c14
                      have H' := Aside0.mk H
                      clear H
                      have p198 : 0 ≤ (x7_2 : Int) := of_decide_eq_true (by first | (with_reducible assumption) | assumption)
                      have q198 : x7_2 < (l0.length : Int) := of_decide_eq_true (by first | (with_reducible assumption) | assumption)
                      obtain ⟨ad198, A198_1, c198_1, e198, hx198_0, hx198_1, hl198_1, hi198_1⟩ := at_T57 HR0.out x7_2 p198 q198
                      cases e198
                      replace hx198_0 := (HB.out.cell (World.block_lt_of_cell? w _ hx198_0)).trans hx198_0
                      replace hx198_1 := (HB.out.cell (World.block_lt_of_cell? w _ hx198_1)).trans hx198_1
                      have HR198_1 := Aside0.mk hi198_1
                      have HC198_1 := Aside0.mk hl198_1
                      clear hi198_1 hl198_1
                      replace p198 := eq_true p198
                      replace q198 := eq_true q198
                      have p200 : 0 ≤ (x7_2 : Int) := of_decide_eq_true (by first | (with_reducible assumption) | assumption)
                      have q200 : x7_2 < (l0.length : Int) := of_decide_eq_true (by first | (with_reducible assumption) | assumption)
                      obtain ⟨ad200, A200_1, c200_1, e200, hx200_0, hx200_1, hl200_1, hi200_1⟩ := at_T57 HR0.out x7_2 p200 q200
                      obtain rfl : ad198 = ad200 := (by injection e200)
                      replace hx200_0 := (HB.out.cell (World.block_lt_of_cell? w _ hx200_0)).trans hx200_0
                      replace hx200_1 := (HB.out.cell (World.block_lt_of_cell? w _ hx200_1)).trans hx200_1
                      have HR200_1 := Aside0.mk hi200_1
                      have HC200_1 := Aside0.mk hl200_1
                      clear hi200_1 hl200_1
                      replace p200 := eq_true p200
                      replace q200 := eq_true q200
                      have ea_ := Option.some.inj (hx198_1.symm.trans hx200_1)
                      injection ea_ with ea_ en_ ec_
                      subst ea_
                      subst ec_
                      clear en_
                      go_wp2
                      go_meet
                      case rel => exact ⟨_, ((x7_2 == 0)), (by first | rfl | (simp; done) | (simp [*]; done)), H', ⟨by have := HK1.out; have := HK2.out; first | omega | exact Nat.le_refl _⟩, ⟨by (with_reducible repeat (first | apply RM_alloc | apply RM_drewN | apply RM_drew)); exact HO_6.out⟩, ⟨by repeat (first | (with_reducible first | exact HB.out | apply below_alloc | apply pw_below_drewN | apply below_drew1) | exact HB.out)⟩⟩
                  · rw [if_neg c13] at H
                    exact absurd H (by simp)
                case rest =>
                  clear HC12
                  try clear c1
                  try clear p1
                  try clear q1
                  try clear hx1
                  try clear c2
                  try clear c2b0
                  try clear c2b1
                  try clear c2b2
                  try clear p2
                  try clear q2
                  try clear hx2
                  try clear c3
                  try clear c3b0
                  try clear c4
                  try clear c4b0
                  try clear c6
                  try clear c6b0
                  try clear c6b1
                  try clear p6
                  try clear c11
                  try clear c11b0
                  try clear c13
                  try clear c13b0
                  try clear c14
                  try clear c14b0
                  try clear c14b1
                  try clear c15
                  try clear c15b0
                  try clear hx193_0
                  try clear hx193_1
                  try clear hx198_0
                  try clear hx198_1
                  try clear hx199_0
                  try clear hx199_1
                  try clear hx200_0
                  try clear hx200_1
                  try clear p1
                  try clear p193
                  try clear p198
                  try clear p199
                  try clear p2
                  try clear p200
                  try clear p6
                  try clear q1
                  try clear q193
                  try clear q198
                  try clear q199
                  try clear q200
                  obtain ⟨kq, x55_11, rfl, HA, HJ11, HO_6, HB⟩ := hcut
                  cases kq with
                  | zero => exact absurd HA.out (by simp [serinetteref18_Pack.j2])
                  | succ kj11 =>
                    have H := HA.out
                    clear HA
                    simp only [serinetteref18_Pack.j2] at H
                    by_cases c16 : x55_11 = true
                    · subst c16
                      have H1 : (some (([] : List Int), 5)) = some (r1, r2) := by rw [if_pos rfl] at H; exact H
                      clear H
                      have H := H1
                      clear H1
                      simp only [Option.some.injEq, Prod.mk.injEq] at H
                      obtain ⟨rfl, rfl⟩ := H
                      go_wp2
                      go_ret2
                      exact ⟨_, by first | rfl | (simp [errW_none, errW_some] <;> rfl) | (simp [*, errW_none, errW_some] <;> rfl), by first | exact Kd.R_nil _ _ _ _ _ | exact Kd.N_nil _ _ _ _ _ | exact Kd.V_nil _ _ _ _ _ | exact Kd.Q_nil _ _ _ _ _ | exact Kd.S_nil _ _ _ _ _, by repeat (first | (with_reducible first | exact HB.out | apply below_alloc | apply pw_below_drewN | apply below_drew1) | exact HB.out)⟩
                    · replace c16 := Bool.eq_false_iff.mpr c16
                      subst c16
                      have H1 : (if 0 ≤ x7_2 then (if x7_2 < (l0.length : Int) then (if x7_2 = (wrap64 ((l0.length : Int) - 1)) then (if x6_2.length < 140737488355328 then ((some (x6_2 ++ [(wrap64 (((rd_T57 l0 x7_2).f0) + 128)) % 256] : List Int)).bind fun y202 => ((serinetteref18_Number.f kj11 (((rd_T57 l0 x7_2).f1).length : Int) 3).bind fun t206 => (if y202.length + t206.length < 140737488355328 then ((some (y202 ++ t206 : List Int)).bind fun y209 => (if y209.length + ((rd_T57 l0 x7_2).f1).length < 140737488355328 then (serinetteref18_Pack.l1 kj11 l0 (y209 ++ ((rd_T57 l0 x7_2).f1)) (wrap64 (x7_2 + 1))) else (none))) else (none)))) else (none)) else (if x6_2.length < 140737488355328 then ((some (x6_2 ++ [((rd_T57 l0 x7_2).f0) % 256] : List Int)).bind fun y216 => ((serinetteref18_Number.f kj11 (((rd_T57 l0 x7_2).f1).length : Int) 3).bind fun t220 => (if y216.length + t220.length < 140737488355328 then ((some (y216 ++ t220 : List Int)).bind fun y223 => (if y223.length + ((rd_T57 l0 x7_2).f1).length < 140737488355328 then (serinetteref18_Pack.l1 kj11 l0 (y223 ++ ((rd_T57 l0 x7_2).f1)) (wrap64 (x7_2 + 1))) else (none))) else (none)))) else (none))) else (none)) else (none)) = some (r1, r2) := by rw [if_neg (show ¬ (false = true) by decide)] at H; exact H
                      clear H
                      have H := H1
                      clear H1
                      by_cases c17 : 0 ≤ x7_2
                      · rw [if_pos c17] at H
                        have c17b0 : decide (0 ≤ x7_2) = true := decide_eq_true c17
                        clear c17
                        by_cases c18 : x7_2 < (l0.length : Int)
                        · rw [if_pos c18] at H
                          have c18b0 : decide (x7_2 < (l0.length : Int)) = true := decide_eq_true c18
                          clear c18
                          by_cases c19 : x7_2 = (wrap64 ((l0.length : Int) - 1))
                          · rw [if_pos c19] at H
                            have c19b0 : (x7_2 == (wrap64 ((l0.length : Int) - 1))) = true := beq_iff_eq.mpr c19
                            have c19b1 : (x7_2 != (wrap64 ((l0.length : Int) - 1))) = false := bne_eq_false_iff_eq.mpr c19
                            clear c19
                            by_cases c20 : x6_2.length < 140737488355328
                            · rw [if_pos c20] at H
                              have LMc20 := Aside0.mk c20
                              clear c20
                              obtain ⟨y202, hy202⟩ : ∃ y_ : List Int, y_ = (x6_2 ++ [(wrap64 (((rd_T57 l0 x7_2).f0) + 128)) % 256]) := ⟨_, rfl⟩
                              replace H : ((serinetteref18_Number.f kj11 (((rd_T57 l0 x7_2).f1).length : Int) 3).bind fun t206 => (if y202.length + t206.length < 140737488355328 then ((some (y202 ++ t206 : List Int)).bind fun y209 => (if y209.length + ((rd_T57 l0 x7_2).f1).length < 140737488355328 then (serinetteref18_Pack.l1 kj11 l0 (y209 ++ ((rd_T57 l0 x7_2).f1)) (wrap64 (x7_2 + 1))) else (none))) else (none))) = some (r1, r2) := by first | (rw [hy202]; with_reducible exact H) | (have H2_ := (Option.bind_some _ _).symm.trans H; rw [hy202]; with_reducible exact H2_) | (have H2_ := (Option.bind_some _ _).symm.trans H; with_reducible exact H2_) | with_reducible exact H | (rw [hy202]; exact H) | exact H
                              have Ny202 := Aside0.mk hy202
                              clear hy202
                              replace H := Option.bind_eq_some_iff.mp H
                              obtain ⟨t206, A210, H⟩ := H
                              replace H : (if y202.length + t206.length < 140737488355328 then ((some (y202 ++ t206 : List Int)).bind fun y209 => (if y209.length + ((rd_T57 l0 x7_2).f1).length < 140737488355328 then (serinetteref18_Pack.l1 kj11 l0 (y209 ++ ((rd_T57 l0 x7_2).f1)) (wrap64 (x7_2 + 1))) else (none))) else (none)) = some (r1, r2) := H
                              have A21 := Aside0.mk A210
                              clear A210
                              by_cases c22 : y202.length + t206.length < 140737488355328
                              · rw [if_pos c22] at H
                                have LMc22 := Aside0.mk c22
                                clear c22
                                obtain ⟨y209, hy209⟩ : ∃ y_ : List Int, y_ = (y202 ++ t206) := ⟨_, rfl⟩
                                replace H : (if y209.length + ((rd_T57 l0 x7_2).f1).length < 140737488355328 then (serinetteref18_Pack.l1 kj11 l0 (y209 ++ ((rd_T57 l0 x7_2).f1)) (wrap64 (x7_2 + 1))) else (none)) = some (r1, r2) := by first | (rw [hy209]; with_reducible exact H) | (have H2_ := (Option.bind_some _ _).symm.trans H; rw [hy209]; with_reducible exact H2_) | (have H2_ := (Option.bind_some _ _).symm.trans H; with_reducible exact H2_) | with_reducible exact H | (rw [hy209]; exact H) | exact H
                                have Ny209 := Aside0.mk hy209
                                clear hy209
                                by_cases c23 : y209.length + ((rd_T57 l0 x7_2).f1).length < 140737488355328
                                · rw [if_pos c23] at H
                                  have LMc23 := Aside0.mk c23
                                  clear c23
                                  obtain ⟨y213, hy213⟩ : ∃ y_ : List Int, y_ = (y209 ++ ((rd_T57 l0 x7_2).f1)) := ⟨_, rfl⟩
                                  replace H : (serinetteref18_Pack.l1 kj11 l0 y213 (wrap64 (x7_2 + 1))) = some (r1, r2) := by first | (rw [hy213]; with_reducible exact H) | (have H2_ := (Option.bind_some _ _).symm.trans H; rw [hy213]; with_reducible exact H2_) | (have H2_ := (Option.bind_some _ _).symm.trans H; with_reducible exact H2_) | with_reducible exact H | (rw [hy213]; exact H) | exact H
                                  have Ny213 := Aside0.mk hy213
                                  clear hy213
                                  have H' := Aside0.mk H
                                  clear H
                                  have p201 : 0 ≤ (x7_2 : Int) := of_decide_eq_true (by first | (with_reducible assumption) | assumption)
                                  have q201 : x7_2 < (l0.length : Int) := of_decide_eq_true (by first | (with_reducible assumption) | assumption)
                                  obtain ⟨ad201, A201_1, c201_1, e201, hx201_0, hx201_1, hl201_1, hi201_1⟩ := at_T57 HR0.out x7_2 p201 q201
                                  cases e201
                                  replace hx201_0 := (HB.out.cell (World.block_lt_of_cell? w _ hx201_0)).trans hx201_0
                                  replace hx201_1 := (HB.out.cell (World.block_lt_of_cell? w _ hx201_1)).trans hx201_1
                                  have HR201_1 := Aside0.mk hi201_1
                                  have HC201_1 := Aside0.mk hl201_1
                                  clear hi201_1 hl201_1
                                  replace p201 := eq_true p201
                                  replace q201 := eq_true q201
                                  go_wp2_with (first | ((with_reducible refine gate_builtin (b := .append) (xs := #[.tmp 68, .tmp 71]) rfl ?_); at_builtin; refine RM_append (i := x7_2) (w0 := w) w.heap.size rfl (.tmp 68) (.tmp 71) 23 5 (.int .u8 0) 1 rfl Try.underlying23 info5 rfl rfl (by omega) u6 x6_2 ((wrap64 (((rd_T57 l0 x7_2).f0) + 128)) % 256) rfl rfl ?aO ?aB ?aS ?aL ?_; (case aB => exact (by repeat (first | (with_reducible first | exact HB.out | apply below_alloc | apply pw_below_drewN | apply below_drew1) | exact HB.out))); (case aO => exact (by (with_reducible repeat (first | apply RM_alloc | apply RM_drewN | apply RM_drew)); exact HO_6.out)); (case aS => exact (below_size (by repeat (first | (with_reducible first | exact HB.out | apply below_alloc | apply pw_below_drewN | apply below_drew1) | exact HB.out)))); (case aL => have := LMc20.out; omega); intro v203 w24 ho hb; rw [← Ny202.out] at ho; have n0_ := Aside0.mk (hb); have n1_ := Aside0.mk (ho); clear HB; clear HO_6; have HB := n0_; have HO204 := n1_; clear n0_ n1_; clear ho hb; have p205 : 0 ≤ (x7_2 : Int) := of_decide_eq_true (by first | (with_reducible assumption) | assumption); have q205 : x7_2 < (l0.length : Int) := of_decide_eq_true (by first | (with_reducible assumption) | assumption); obtain ⟨ad205, A205_1, c205_1, e205, hx205_0, hx205_1, hl205_1, hi205_1⟩ := at_T57 HR0.out x7_2 p205 q205; obtain rfl : ad201 = ad205 := (by injection e205); replace hx205_0 := (HB.out.cell (World.block_lt_of_cell? w _ hx205_0)).trans hx205_0; replace hx205_1 := (HB.out.cell (World.block_lt_of_cell? w _ hx205_1)).trans hx205_1; have HR205_1 := Aside0.mk hi205_1; have HC205_1 := Aside0.mk hl205_1; clear hi205_1 hl205_1; replace p205 := eq_true p205; replace q205 := eq_true q205) | ((with_reducible refine gate_callee (f := 37) rfl ?_); refine goesL_ (some 80) rfl rfl Try.func37 (by kernel_rfl) rfl #[.int .i64 (((rd_T57 l0 x7_2).f1).length : Int), .int .i64 3] rfl (by (try simp only [List.map_toArray, List.map_cons, List.map_nil]); first | done | rfl | (simp only [List.length_drop, List.length_take]; rfl)) ?_; (with_reducible refine (serinetteref18_Number.calls kj11 (((rd_T57 l0 x7_2).f1).length : Int) 3 t206 _ A21.out).mono ?_); rintro e w25 ⟨v207, rfl, ho0, hb⟩; refine ⟨_, rfl, ?_⟩; have n0_ := Aside0.mk (Kd.R_elder' (by (with_reducible repeat (first | apply Kd.R_alloc | apply Kd.R_drewN | apply Kd.R_drew)); exact HO204.out) (Kd.R_base ho0) hb); have n1_ := Aside0.mk (Kd.R_lower (Kd.R_new' ho0 (Kd.R_lt (by (with_reducible repeat (first | apply Kd.R_alloc | apply Kd.R_drewN | apply Kd.R_drew)); exact HO204.out))) (below_size (by repeat (first | (with_reducible first | exact HB.out | apply below_alloc | apply pw_below_drewN | apply below_drew1) | exact HB.out)))); have n2_ := Aside0.mk (below_step (by repeat (first | (with_reducible first | exact HB.out | apply below_alloc | apply pw_below_drewN | apply below_drew1) | exact HB.out)) hb); clear HO204; clear HB; have HO204 := n0_; have HO208 := n1_; have HB := n2_; clear n0_ n1_ n2_; (try clear hb); (try clear hb2); (try clear hk); (try clear hi); (try clear ho0); obtain ⟨Ao27, co27, eo27⟩ := Kd.R_slice HO208.out; subst eo27) | ((with_reducible refine gate_builtin (b := .append) (xs := #[.tmp 73, .tmp 80]) rfl ?_); at_builtin; refine Kd.R_append_rows (Kd.int .u8) (w0 := w) w.heap.size rfl (.tmp 73) (.tmp 80) 23 5 (.int .u8 0) 1 rfl Try.underlying23 info5 rfl (by decide) (by omega) v203 y202 t206 _ _ _ (fun k_ => some k_ ≠ (.slice Ao27 t206.length co27 : Value).ownBlock) (fun _ => False) rfl rfl ?aO ?aR (fun _ _ h => h) (fun _ h => h.elim) ?aF ?aB ?aS ?aL ?_; (case aR => repeat (first | exact (Kd.R_reads' HO208.out).2.2 | (with_reducible refine Kd.C_alloc ?_ _) | (with_reducible refine Kd.C_drewN ?_ _) | (with_reducible refine Kd.C_drew ?_))); (case aB => exact (by repeat (first | (with_reducible first | exact HB.out | apply below_alloc | apply pw_below_drewN | apply below_drew1) | exact HB.out))); (case aF => exact (fun k_ hk => Kd.fresh' (Kd.R_lt (by (with_reducible repeat (first | apply Kd.R_alloc | apply Kd.R_drewN | apply Kd.R_drew)); exact HO208.out)) k_ hk)); (case aO => exact (by (with_reducible repeat (first | apply Kd.R_alloc | apply Kd.R_drewN | apply Kd.R_drew)); exact Kd.R_mono HO204.out (fun _ hk => hk.2))); (case aS => exact (below_size (by repeat (first | (with_reducible first | exact HB.out | apply below_alloc | apply pw_below_drewN | apply below_drew1) | exact HB.out)))); (case aL => have := LMc22.out; omega); intro v210 w26 ho hb hg hat; rw [← Ny209.out] at ho; have n0_ := Aside0.mk (Kd.R_after (ok := (fun _ => True)) (by (with_reducible repeat (first | apply Kd.R_alloc | apply Kd.R_drewN | apply Kd.R_drew)); exact HO208.out) hg hat); have n1_ := Aside0.mk (hb); have n2_ := Aside0.mk (ho); clear HO208; clear HB; clear HO204; have HO208 := n0_; have HB := n1_; have HO211 := n2_; clear n0_ n1_ n2_; clear ho hb hg hat; have p212 : 0 ≤ (x7_2 : Int) := of_decide_eq_true (by first | (with_reducible assumption) | assumption); have q212 : x7_2 < (l0.length : Int) := of_decide_eq_true (by first | (with_reducible assumption) | assumption); obtain ⟨ad212, A212_1, c212_1, e212, hx212_0, hx212_1, hl212_1, hi212_1⟩ := at_T57 HR0.out x7_2 p212 q212; obtain rfl : ad201 = ad212 := (by injection e212); replace hx212_0 := (HB.out.cell (World.block_lt_of_cell? w _ hx212_0)).trans hx212_0; replace hx212_1 := (HB.out.cell (World.block_lt_of_cell? w _ hx212_1)).trans hx212_1; have HR212_1 := Aside0.mk hi212_1; have HC212_1 := Aside0.mk hl212_1; clear hi212_1 hl212_1; replace p212 := eq_true p212; replace q212 := eq_true q212) | ((with_reducible refine gate_builtin (b := .append) (xs := #[.tmp 82, .tmp 87]) rfl ?_); at_builtin; refine Kd.R_append_rows (Kd.int .u8) (w0 := w) w.heap.size rfl (.tmp 82) (.tmp 87) 23 5 (.int .u8 0) 1 rfl Try.underlying23 info5 rfl (by decide) (by omega) v210 y209 ((rd_T57 l0 x7_2).f1) _ _ _ (fun k_ => some k_ ≠ (.slice Ao27 t206.length co27 : Value).ownBlock) (fun _ => False) rfl rfl ?aO ?aR (fun _ _ h => h) (fun _ h => h.elim) ?aF ?aB ?aS ?aL ?_; (case aR => repeat (first | exact (Kd.C_below HR212_1.out HB.out) | (with_reducible refine Kd.C_alloc ?_ _) | (with_reducible refine Kd.C_drewN ?_ _) | (with_reducible refine Kd.C_drew ?_))); (case aB => exact (by repeat (first | (with_reducible first | exact HB.out | apply below_alloc | apply pw_below_drewN | apply below_drew1) | exact HB.out))); (case aF => exact (fun k_ hk => Kd.fresh' (Kd.R_lt (by (with_reducible repeat (first | apply Kd.R_alloc | apply Kd.R_drewN | apply Kd.R_drew)); exact HO208.out)) k_ hk)); (case aO => exact (by (with_reducible repeat (first | apply Kd.R_alloc | apply Kd.R_drewN | apply Kd.R_drew)); exact HO211.out)); (case aS => exact (below_size (by repeat (first | (with_reducible first | exact HB.out | apply below_alloc | apply pw_below_drewN | apply below_drew1) | exact HB.out)))); (case aL => have := LMc23.out; omega); intro v214 w28 ho hb hg hat; rw [← Ny213.out] at ho; have n0_ := Aside0.mk (Kd.R_after (ok := (fun _ => True)) (by (with_reducible repeat (first | apply Kd.R_alloc | apply Kd.R_drewN | apply Kd.R_drew)); exact HO208.out) hg hat); have n1_ := Aside0.mk (hb); have n2_ := Aside0.mk (ho); clear HO208; clear HB; clear HO211; have HO208 := n0_; have HB := n1_; have HO215 := n2_; clear n0_ n1_ n2_; clear ho hb hg hat))
                                  go_roundg kj11
                                  case measure => have := HK1.out; have := HK2.out; have := HJ11.out; omega
                                  case rel => exact ⟨(y213), (wrap64 (x7_2 + 1)), (by first | rfl | (simp; done) | (simp [*]; done)), H', ⟨by have := HK1.out; have := HK2.out; have := HJ11.out; omega⟩, ⟨by exact Or.inl (Kd.R_mono HO215.out (fun _ hk => trivial))⟩, ⟨by repeat (first | (with_reducible first | exact HB.out | apply below_alloc | apply pw_below_drewN | apply below_drew1) | exact HB.out)⟩⟩
                                · rw [if_neg c23] at H
                                  exact absurd H (by simp)
                              · rw [if_neg c22] at H
                                exact absurd H (by simp)
                            · rw [if_neg c20] at H
                              exact absurd H (by simp)
                          · rw [if_neg c19] at H
                            have c19b0 : (x7_2 == (wrap64 ((l0.length : Int) - 1))) = false := beq_eq_false_iff_ne.mpr c19
                            have c19b1 : (x7_2 != (wrap64 ((l0.length : Int) - 1))) = true := bne_iff_ne.mpr c19
                            by_cases c29 : x6_2.length < 140737488355328
                            · rw [if_pos c29] at H
                              have LMc29 := Aside0.mk c29
                              clear c29
                              obtain ⟨y216, hy216⟩ : ∃ y_ : List Int, y_ = (x6_2 ++ [((rd_T57 l0 x7_2).f0) % 256]) := ⟨_, rfl⟩
                              replace H : ((serinetteref18_Number.f kj11 (((rd_T57 l0 x7_2).f1).length : Int) 3).bind fun t220 => (if y216.length + t220.length < 140737488355328 then ((some (y216 ++ t220 : List Int)).bind fun y223 => (if y223.length + ((rd_T57 l0 x7_2).f1).length < 140737488355328 then (serinetteref18_Pack.l1 kj11 l0 (y223 ++ ((rd_T57 l0 x7_2).f1)) (wrap64 (x7_2 + 1))) else (none))) else (none))) = some (r1, r2) := by first | (rw [hy216]; with_reducible exact H) | (have H2_ := (Option.bind_some _ _).symm.trans H; rw [hy216]; with_reducible exact H2_) | (have H2_ := (Option.bind_some _ _).symm.trans H; with_reducible exact H2_) | with_reducible exact H | (rw [hy216]; exact H) | exact H
                              have Ny216 := Aside0.mk hy216
                              clear hy216
                              replace H := Option.bind_eq_some_iff.mp H
                              obtain ⟨t220, A300, H⟩ := H
                              replace H : (if y216.length + t220.length < 140737488355328 then ((some (y216 ++ t220 : List Int)).bind fun y223 => (if y223.length + ((rd_T57 l0 x7_2).f1).length < 140737488355328 then (serinetteref18_Pack.l1 kj11 l0 (y223 ++ ((rd_T57 l0 x7_2).f1)) (wrap64 (x7_2 + 1))) else (none))) else (none)) = some (r1, r2) := H
                              have A30 := Aside0.mk A300
                              clear A300
                              by_cases c31 : y216.length + t220.length < 140737488355328
                              · rw [if_pos c31] at H
                                have LMc31 := Aside0.mk c31
                                clear c31
                                obtain ⟨y223, hy223⟩ : ∃ y_ : List Int, y_ = (y216 ++ t220) := ⟨_, rfl⟩
                                replace H : (if y223.length + ((rd_T57 l0 x7_2).f1).length < 140737488355328 then (serinetteref18_Pack.l1 kj11 l0 (y223 ++ ((rd_T57 l0 x7_2).f1)) (wrap64 (x7_2 + 1))) else (none)) = some (r1, r2) := by first | (rw [hy223]; with_reducible exact H) | (have H2_ := (Option.bind_some _ _).symm.trans H; rw [hy223]; with_reducible exact H2_) | (have H2_ := (Option.bind_some _ _).symm.trans H; with_reducible exact H2_) | with_reducible exact H | (rw [hy223]; exact H) | exact H
                                have Ny223 := Aside0.mk hy223
                                clear hy223
                                by_cases c32 : y223.length + ((rd_T57 l0 x7_2).f1).length < 140737488355328
                                · rw [if_pos c32] at H
                                  have LMc32 := Aside0.mk c32
                                  clear c32
                                  obtain ⟨y227, hy227⟩ : ∃ y_ : List Int, y_ = (y223 ++ ((rd_T57 l0 x7_2).f1)) := ⟨_, rfl⟩
                                  replace H : (serinetteref18_Pack.l1 kj11 l0 y227 (wrap64 (x7_2 + 1))) = some (r1, r2) := by first | (rw [hy227]; with_reducible exact H) | (have H2_ := (Option.bind_some _ _).symm.trans H; rw [hy227]; with_reducible exact H2_) | (have H2_ := (Option.bind_some _ _).symm.trans H; with_reducible exact H2_) | with_reducible exact H | (rw [hy227]; exact H) | exact H
                                  have Ny227 := Aside0.mk hy227
                                  clear hy227
                                  have H' := Aside0.mk H
                                  clear H
                                  have p201 : 0 ≤ (x7_2 : Int) := of_decide_eq_true (by first | (with_reducible assumption) | assumption)
                                  have q201 : x7_2 < (l0.length : Int) := of_decide_eq_true (by first | (with_reducible assumption) | assumption)
                                  obtain ⟨ad201, A201_1, c201_1, e201, hx201_0, hx201_1, hl201_1, hi201_1⟩ := at_T57 HR0.out x7_2 p201 q201
                                  cases e201
                                  replace hx201_0 := (HB.out.cell (World.block_lt_of_cell? w _ hx201_0)).trans hx201_0
                                  replace hx201_1 := (HB.out.cell (World.block_lt_of_cell? w _ hx201_1)).trans hx201_1
                                  have HR201_1 := Aside0.mk hi201_1
                                  have HC201_1 := Aside0.mk hl201_1
                                  clear hi201_1 hl201_1
                                  replace p201 := eq_true p201
                                  replace q201 := eq_true q201
                                  go_wp2_with (first | ((with_reducible refine gate_builtin (b := .append) (xs := #[.tmp 68, .tmp 71]) rfl ?_); at_builtin; refine RM_append (i := x7_2) (w0 := w) w.heap.size rfl (.tmp 68) (.tmp 71) 23 5 (.int .u8 0) 1 rfl Try.underlying23 info5 rfl rfl (by omega) u6 x6_2 (((rd_T57 l0 x7_2).f0) % 256) rfl rfl ?aO ?aB ?aS ?aL ?_; (case aB => exact (by repeat (first | (with_reducible first | exact HB.out | apply below_alloc | apply pw_below_drewN | apply below_drew1) | exact HB.out))); (case aO => exact (by (with_reducible repeat (first | apply RM_alloc | apply RM_drewN | apply RM_drew)); exact HO_6.out)); (case aS => exact (below_size (by repeat (first | (with_reducible first | exact HB.out | apply below_alloc | apply pw_below_drewN | apply below_drew1) | exact HB.out)))); (case aL => have := LMc29.out; omega); intro v217 w33 ho hb; rw [← Ny216.out] at ho; have n0_ := Aside0.mk (hb); have n1_ := Aside0.mk (ho); clear HB; clear HO_6; have HB := n0_; have HO218 := n1_; clear n0_ n1_; clear ho hb; have p219 : 0 ≤ (x7_2 : Int) := of_decide_eq_true (by first | (with_reducible assumption) | assumption); have q219 : x7_2 < (l0.length : Int) := of_decide_eq_true (by first | (with_reducible assumption) | assumption); obtain ⟨ad219, A219_1, c219_1, e219, hx219_0, hx219_1, hl219_1, hi219_1⟩ := at_T57 HR0.out x7_2 p219 q219; obtain rfl : ad201 = ad219 := (by injection e219); replace hx219_0 := (HB.out.cell (World.block_lt_of_cell? w _ hx219_0)).trans hx219_0; replace hx219_1 := (HB.out.cell (World.block_lt_of_cell? w _ hx219_1)).trans hx219_1; have HR219_1 := Aside0.mk hi219_1; have HC219_1 := Aside0.mk hl219_1; clear hi219_1 hl219_1; replace p219 := eq_true p219; replace q219 := eq_true q219) | ((with_reducible refine gate_callee (f := 37) rfl ?_); refine goesL_ (some 80) rfl rfl Try.func37 (by kernel_rfl) rfl #[.int .i64 (((rd_T57 l0 x7_2).f1).length : Int), .int .i64 3] rfl (by (try simp only [List.map_toArray, List.map_cons, List.map_nil]); first | done | rfl | (simp only [List.length_drop, List.length_take]; rfl)) ?_; (with_reducible refine (serinetteref18_Number.calls kj11 (((rd_T57 l0 x7_2).f1).length : Int) 3 t220 _ A30.out).mono ?_); rintro e w34 ⟨v221, rfl, ho0, hb⟩; refine ⟨_, rfl, ?_⟩; have n0_ := Aside0.mk (Kd.R_elder' (by (with_reducible repeat (first | apply Kd.R_alloc | apply Kd.R_drewN | apply Kd.R_drew)); exact HO218.out) (Kd.R_base ho0) hb); have n1_ := Aside0.mk (Kd.R_lower (Kd.R_new' ho0 (Kd.R_lt (by (with_reducible repeat (first | apply Kd.R_alloc | apply Kd.R_drewN | apply Kd.R_drew)); exact HO218.out))) (below_size (by repeat (first | (with_reducible first | exact HB.out | apply below_alloc | apply pw_below_drewN | apply below_drew1) | exact HB.out)))); have n2_ := Aside0.mk (below_step (by repeat (first | (with_reducible first | exact HB.out | apply below_alloc | apply pw_below_drewN | apply below_drew1) | exact HB.out)) hb); clear HO218; clear HB; have HO218 := n0_; have HO222 := n1_; have HB := n2_; clear n0_ n1_ n2_; (try clear hb); (try clear hb2); (try clear hk); (try clear hi); (try clear ho0); obtain ⟨Ao36, co36, eo36⟩ := Kd.R_slice HO222.out; subst eo36) | ((with_reducible refine gate_builtin (b := .append) (xs := #[.tmp 73, .tmp 80]) rfl ?_); at_builtin; refine Kd.R_append_rows (Kd.int .u8) (w0 := w) w.heap.size rfl (.tmp 73) (.tmp 80) 23 5 (.int .u8 0) 1 rfl Try.underlying23 info5 rfl (by decide) (by omega) v217 y216 t220 _ _ _ (fun k_ => some k_ ≠ (.slice Ao36 t220.length co36 : Value).ownBlock) (fun _ => False) rfl rfl ?aO ?aR (fun _ _ h => h) (fun _ h => h.elim) ?aF ?aB ?aS ?aL ?_; (case aR => repeat (first | exact (Kd.R_reads' HO222.out).2.2 | (with_reducible refine Kd.C_alloc ?_ _) | (with_reducible refine Kd.C_drewN ?_ _) | (with_reducible refine Kd.C_drew ?_))); (case aB => exact (by repeat (first | (with_reducible first | exact HB.out | apply below_alloc | apply pw_below_drewN | apply below_drew1) | exact HB.out))); (case aF => exact (fun k_ hk => Kd.fresh' (Kd.R_lt (by (with_reducible repeat (first | apply Kd.R_alloc | apply Kd.R_drewN | apply Kd.R_drew)); exact HO222.out)) k_ hk)); (case aO => exact (by (with_reducible repeat (first | apply Kd.R_alloc | apply Kd.R_drewN | apply Kd.R_drew)); exact Kd.R_mono HO218.out (fun _ hk => hk.2))); (case aS => exact (below_size (by repeat (first | (with_reducible first | exact HB.out | apply below_alloc | apply pw_below_drewN | apply below_drew1) | exact HB.out)))); (case aL => have := LMc31.out; omega); intro v224 w35 ho hb hg hat; rw [← Ny223.out] at ho; have n0_ := Aside0.mk (Kd.R_after (ok := (fun _ => True)) (by (with_reducible repeat (first | apply Kd.R_alloc | apply Kd.R_drewN | apply Kd.R_drew)); exact HO222.out) hg hat); have n1_ := Aside0.mk (hb); have n2_ := Aside0.mk (ho); clear HO222; clear HB; clear HO218; have HO222 := n0_; have HB := n1_; have HO225 := n2_; clear n0_ n1_ n2_; clear ho hb hg hat; have p226 : 0 ≤ (x7_2 : Int) := of_decide_eq_true (by first | (with_reducible assumption) | assumption); have q226 : x7_2 < (l0.length : Int) := of_decide_eq_true (by first | (with_reducible assumption) | assumption); obtain ⟨ad226, A226_1, c226_1, e226, hx226_0, hx226_1, hl226_1, hi226_1⟩ := at_T57 HR0.out x7_2 p226 q226; obtain rfl : ad201 = ad226 := (by injection e226); replace hx226_0 := (HB.out.cell (World.block_lt_of_cell? w _ hx226_0)).trans hx226_0; replace hx226_1 := (HB.out.cell (World.block_lt_of_cell? w _ hx226_1)).trans hx226_1; have HR226_1 := Aside0.mk hi226_1; have HC226_1 := Aside0.mk hl226_1; clear hi226_1 hl226_1; replace p226 := eq_true p226; replace q226 := eq_true q226) | ((with_reducible refine gate_builtin (b := .append) (xs := #[.tmp 82, .tmp 87]) rfl ?_); at_builtin; refine Kd.R_append_rows (Kd.int .u8) (w0 := w) w.heap.size rfl (.tmp 82) (.tmp 87) 23 5 (.int .u8 0) 1 rfl Try.underlying23 info5 rfl (by decide) (by omega) v224 y223 ((rd_T57 l0 x7_2).f1) _ _ _ (fun k_ => some k_ ≠ (.slice Ao36 t220.length co36 : Value).ownBlock) (fun _ => False) rfl rfl ?aO ?aR (fun _ _ h => h) (fun _ h => h.elim) ?aF ?aB ?aS ?aL ?_; (case aR => repeat (first | exact (Kd.C_below HR226_1.out HB.out) | (with_reducible refine Kd.C_alloc ?_ _) | (with_reducible refine Kd.C_drewN ?_ _) | (with_reducible refine Kd.C_drew ?_))); (case aB => exact (by repeat (first | (with_reducible first | exact HB.out | apply below_alloc | apply pw_below_drewN | apply below_drew1) | exact HB.out))); (case aF => exact (fun k_ hk => Kd.fresh' (Kd.R_lt (by (with_reducible repeat (first | apply Kd.R_alloc | apply Kd.R_drewN | apply Kd.R_drew)); exact HO222.out)) k_ hk)); (case aO => exact (by (with_reducible repeat (first | apply Kd.R_alloc | apply Kd.R_drewN | apply Kd.R_drew)); exact HO225.out)); (case aS => exact (below_size (by repeat (first | (with_reducible first | exact HB.out | apply below_alloc | apply pw_below_drewN | apply below_drew1) | exact HB.out)))); (case aL => have := LMc32.out; omega); intro v228 w37 ho hb hg hat; rw [← Ny227.out] at ho; have n0_ := Aside0.mk (Kd.R_after (ok := (fun _ => True)) (by (with_reducible repeat (first | apply Kd.R_alloc | apply Kd.R_drewN | apply Kd.R_drew)); exact HO222.out) hg hat); have n1_ := Aside0.mk (hb); have n2_ := Aside0.mk (ho); clear HO222; clear HB; clear HO225; have HO222 := n0_; have HB := n1_; have HO229 := n2_; clear n0_ n1_ n2_; clear ho hb hg hat))
                                  go_roundg kj11
                                  case measure => have := HK1.out; have := HK2.out; have := HJ11.out; omega
                                  case rel => exact ⟨(y227), (wrap64 (x7_2 + 1)), (by first | rfl | (simp; done) | (simp [*]; done)), H', ⟨by have := HK1.out; have := HK2.out; have := HJ11.out; omega⟩, ⟨by exact Or.inl (Kd.R_mono HO229.out (fun _ hk => trivial))⟩, ⟨by repeat (first | (with_reducible first | exact HB.out | apply below_alloc | apply pw_below_drewN | apply below_drew1) | exact HB.out)⟩⟩
                                · rw [if_neg c32] at H
                                  exact absurd H (by simp)
                              · rw [if_neg c31] at H
                                exact absurd H (by simp)
                            · rw [if_neg c29] at H
                              exact absurd H (by simp)
                        · rw [if_neg c18] at H
                          exact absurd H (by simp)
                      · rw [if_neg c17] at H
                        exact absurd H (by simp)
              · rw [if_neg c11] at H
                have HO_7 := Aside0.mk (HO_6.out.elim (fun h_ => h_) (fun h_ => absurd h_.1 (by have := HNE.out; omega)))
                clear HO_6
                have HO_6 := HO_7
                clear HO_7
                have c11b0 : decide (x7_2 < (l0.length : Int)) = false := decide_eq_false c11
                clear c11
                simp only [Option.some.injEq, Prod.mk.injEq] at H
                obtain ⟨rfl, rfl⟩ := H
                go_wp2
                go_ret2
                exact ⟨_, by first | rfl | (simp [errW_none, errW_some] <;> rfl) | (simp [*, errW_none, errW_some] <;> rfl), by (with_reducible repeat (first | apply Kd.R_alloc | apply Kd.R_drewN | apply Kd.R_drew)); exact HO_6.out, by repeat (first | (with_reducible first | exact HB.out | apply below_alloc | apply pw_below_drewN | apply below_drew1) | exact HB.out)⟩

end Go.Proofs.Ytdacblackoaphaa.PBoundFrames
