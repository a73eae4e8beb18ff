-- written by this session's program wip/reprint.sh (a turned copy of the kit's print): the session's own text
import Derived.Test.YtpeejdmbnlhjmaaPMetaAgainx0
import Derived.Test.YtpeejdmbnlhjmaaPMetaAgainx1
import Derived.Lib.SlBytesConst
namespace Go.Proofs.Ytpeejdmbnlhjmaa.PMetaAgain
open Go.RowKit Go.Proofs.YtpeejdmbnlhjmaaW.PrintWords Go.Proofs.YtpeejdmbnlhjmaaW.PrintLast Go.Proofs.YtpeejdmbnlhjmaaW.PrintMore Go.Proofs.Ytpeejdmbnlhjmaa.H
attribute [local go_sem] max2_int min2_int max_two min_two max_three min_three max_four min_four   -- for this text's walks alone
set_option linter.unusedVariables false
set_option linter.unusedSimpArgs false

/-! ### meta_Unpack: function 42 -/
def meta_Unpack.l0 : Nat → List Int → List (S24) → Int → Bool → Option ((List (S24)) × Int × Int)
  | 0, _, _, _, _ => none
  | k + 1, x0, x5, x6, x7 => if x7 = true then (if (x0.length : Int) < (wrap64 (x6 + 4)) then (some (([] : List (S24)), 0, 2)) else (if 0 ≤ x6 then (if x6 < (x0.length : Int) then (if 0 ≤ (wrap64 (x6 + 1)) then (if (wrap64 (x6 + 1)) < (x0.length : Int) then (if 0 ≤ (wrap64 (x6 + 2)) then (if (wrap64 (x6 + 2)) < (x0.length : Int) then (if 0 ≤ (wrap64 (x6 + 3)) then (if (wrap64 (x6 + 3)) < (x0.length : Int) then (if (wrap64 (Go.bits .andNot .u8 (rd x0 x6) 128)) = 127 then (some (([] : List (S24)), 0, 8)) else (if (((wrap64 (Go.bits .andNot .u8 (rd x0 x6) 128)) == 0) != ((x5.length : Int) == 0)) = true then (some (([] : List (S24)), 0, 5)) else (if (x0.length : Int) < (wrap64 ((wrap64 (x6 + 4)) + (Go.bits .or .i64 (Go.bits .or .i64 (wrap64 ((wrap64 (rd x0 (wrap64 (x6 + 1)))) * 65536)) (wrap64 ((wrap64 (rd x0 (wrap64 (x6 + 2)))) * 256))) (wrap64 (rd x0 (wrap64 (x6 + 3))))))) then (some (([] : List (S24)), 0, 2)) else (if 0 ≤ (wrap64 ((wrap64 (x6 + (wrap64 (4 + (Go.bits .or .i64 (Go.bits .or .i64 (wrap64 ((wrap64 (rd x0 (wrap64 (x6 + 1)))) * 65536)) (wrap64 ((wrap64 (rd x0 (wrap64 (x6 + 2)))) * 256))) (wrap64 (rd x0 (wrap64 (x6 + 3))))))))) - (Go.bits .or .i64 (Go.bits .or .i64 (wrap64 ((wrap64 (rd x0 (wrap64 (x6 + 1)))) * 65536)) (wrap64 ((wrap64 (rd x0 (wrap64 (x6 + 2)))) * 256))) (wrap64 (rd x0 (wrap64 (x6 + 3))))))) then (if (wrap64 ((wrap64 (x6 + (wrap64 (4 + (Go.bits .or .i64 (Go.bits .or .i64 (wrap64 ((wrap64 (rd x0 (wrap64 (x6 + 1)))) * 65536)) (wrap64 ((wrap64 (rd x0 (wrap64 (x6 + 2)))) * 256))) (wrap64 (rd x0 (wrap64 (x6 + 3))))))))) - (Go.bits .or .i64 (Go.bits .or .i64 (wrap64 ((wrap64 (rd x0 (wrap64 (x6 + 1)))) * 65536)) (wrap64 ((wrap64 (rd x0 (wrap64 (x6 + 2)))) * 256))) (wrap64 (rd x0 (wrap64 (x6 + 3))))))) ≤ (wrap64 (x6 + (wrap64 (4 + (Go.bits .or .i64 (Go.bits .or .i64 (wrap64 ((wrap64 (rd x0 (wrap64 (x6 + 1)))) * 65536)) (wrap64 ((wrap64 (rd x0 (wrap64 (x6 + 2)))) * 256))) (wrap64 (rd x0 (wrap64 (x6 + 3))))))))) then (if (wrap64 (x6 + (wrap64 (4 + (Go.bits .or .i64 (Go.bits .or .i64 (wrap64 ((wrap64 (rd x0 (wrap64 (x6 + 1)))) * 65536)) (wrap64 ((wrap64 (rd x0 (wrap64 (x6 + 2)))) * 256))) (wrap64 (rd x0 (wrap64 (x6 + 3))))))))) ≤ (x0.length : Int) then ((bytes_Clone.f ((x0.take ((wrap64 (x6 + (wrap64 (4 + (Go.bits .or .i64 (Go.bits .or .i64 (wrap64 ((wrap64 (rd x0 (wrap64 (x6 + 1)))) * 65536)) (wrap64 ((wrap64 (rd x0 (wrap64 (x6 + 2)))) * 256))) (wrap64 (rd x0 (wrap64 (x6 + 3))))))))) : Int).toNat).drop ((wrap64 ((wrap64 (x6 + (wrap64 (4 + (Go.bits .or .i64 (Go.bits .or .i64 (wrap64 ((wrap64 (rd x0 (wrap64 (x6 + 1)))) * 65536)) (wrap64 ((wrap64 (rd x0 (wrap64 (x6 + 2)))) * 256))) (wrap64 (rd x0 (wrap64 (x6 + 3))))))))) - (Go.bits .or .i64 (Go.bits .or .i64 (wrap64 ((wrap64 (rd x0 (wrap64 (x6 + 1)))) * 65536)) (wrap64 ((wrap64 (rd x0 (wrap64 (x6 + 2)))) * 256))) (wrap64 (rd x0 (wrap64 (x6 + 3))))))) : Int).toNat)).bind fun t143 => (if x5.length < 4398046511104 then (meta_Unpack.l0 k x0 (x5 ++ [(⟨wrap64 (Go.bits .andNot .u8 (rd x0 x6) 128), t143⟩ : S24)]) (wrap64 (x6 + (wrap64 (4 + (Go.bits .or .i64 (Go.bits .or .i64 (wrap64 ((wrap64 (rd x0 (wrap64 (x6 + 1)))) * 65536)) (wrap64 ((wrap64 (rd x0 (wrap64 (x6 + 2)))) * 256))) (wrap64 (rd x0 (wrap64 (x6 + 3))))))))) ((Go.bits .and .u8 (rd x0 x6) 128) == 0)) else (none))) else (none)) else (none)) else (none))))) else (none)) else (none)) else (none)) else (none)) else (none)) else (none)) else (none)) else (none))) else (some (x5, x6, 0))
def meta_Unpack.f (k : Nat) (l0 : List Int) : Option ((List (S24)) × Int × Int) := if (l0.length : Int) < 4 then (some (([] : List (S24)), 0, 2)) else ((bytes_HasPrefix.f l0 (([102, 76, 97, 67] : List Int))).bind fun t136 => (if t136 = true then (meta_Unpack.l0 k l0 ([] : List (S24)) 4 true) else (some (([] : List (S24)), 0, 9))))
theorem meta_Unpack.mono_l : ∀ k, (∀ y0 y1 y2 y3, LeO (meta_Unpack.l0 k y0 y1 y2 y3) (meta_Unpack.l0 (k + 1) y0 y1 y2 y3))
  | 0 => fun _ _ _ _ r h => by simp [meta_Unpack.l0] at h
  | k + 1 => by
    have ih0 := meta_Unpack.mono_l k
    · intro y0 y1 y2 y3
      unfold meta_Unpack.l0
      repeat' first
      | (with_reducible exact ih0 _ _ _ _)
      | (with_reducible exact LeO.refl _)
      | (with_reducible exact LeO.none _)
      | (with_reducible refine LeO.ite ?_ ?_)
      | (with_reducible refine LeO.bind ?_ (fun _ => ?_))
      | exact ih0 _ _ _ _
      | exact LeO.none _
      | refine LeO.ite ?_ ?_
      | refine LeO.bind ?_ (fun _ => ?_)
theorem meta_Unpack.mono : ∀ a0 k, LeO (meta_Unpack.f k a0) (meta_Unpack.f (k + 1) a0) := by
  intro a0 k
  have ih0 := meta_Unpack.mono_l k
  unfold meta_Unpack.f
  repeat' first
      | (with_reducible exact ih0 _ _ _ _)
      | (with_reducible exact LeO.refl _)
      | (with_reducible exact LeO.none _)
      | (with_reducible refine LeO.ite ?_ ?_)
      | (with_reducible refine LeO.bind ?_ (fun _ => ?_))
      | exact ih0 _ _ _ _
      | exact LeO.none _
      | refine LeO.ite ?_ ?_
      | refine LeO.bind ?_ (fun _ => ?_)
set_option maxHeartbeats 8000000 in
theorem lit_C {W : World} {g : Nat} (hb : W.heap[g]? = some (.cells #[.int .u8 102, .int .u8 76, .int .u8 97, .int .u8 67] 5 (4, 5))) : Kd.C (Kd.int .u8) W (some ⟨g, 0, none⟩) 4 [102, 76, 97, 67] := by
  refine Kd.C_of_reads (d := (0 : Int)) (h1 := fun _ => rfl) ⟨rfl, by decide, fun _ => ⟨_, rfl, fun j hj => ?_⟩⟩
  rw [add_plain, cell_block_ hb j]
  match j, hj with
  | 0, _ => rfl
  | 1, _ => rfl
  | 2, _ => rfl
  | 3, _ => rfl
theorem hp_lit (A0 : Option Addr) (c0 : Nat) (l0 : List Int) (r : Bool) (W : World) (g : Nat) (hr0 : Kd.C (Kd.int .u8) W A0 l0.length l0) (hc0 : l0.length ≤ c0) (hb : W.heap[g]? = some (.cells #[.int .u8 102, .int .u8 76, .int .u8 97, .int .u8 67] 5 (4, 5))) (h : bytes_HasPrefix.f l0 [102, 76, 97, 67] = some r) :
    Calls Try.prog 75 #[.slice A0 l0.length c0, .slice (some ⟨g, 0, none⟩) 4 4] W fun e w' => e = .returned (.bool r) ∧ Drawn0 W w' :=
  bytes_HasPrefix.calls A0 c0 l0 (some ⟨g, 0, none⟩) 4 [102, 76, 97, 67] r W hr0 hc0 (lit_C hb) (by decide) h
set_option maxRecDepth 100000 in
theorem meta_Unpack.calls (k : Nat) (A0 : Option Addr) (c0 : Nat) (l0 : List Int) (r1 : List (S24)) (r2 : Int) (r3 : Int) (w : World) (hr0 : Kd.C (Kd.int .u8) w A0 l0.length l0) (hc0 : l0.length ≤ c0) (h : meta_Unpack.f k l0 = some (r1, r2, r3)) :
    Calls Try.prog 42 #[.slice A0 l0.length c0] w fun e w' => ∃ v0_ : Value, e = .returned (.tuple #[v0_, .int .i64 r2, .int .i64 r3]) ∧ Kd.S k24 24 w' w.heap.size (fun _ => True) v0_ r1 ∧ Below w.heap.size w w' := by
  have hu24 := Try.underlying24
  have HR0 := Aside0.mk hr0
  have HC0 := Aside0.mk hc0
  clear hr0 hc0
  have HB := Aside0.mk (Below.refl w.heap.size w)
  have H : (if (l0.length : Int) < 4 then (some (([] : List (S24)), 0, 2)) else ((bytes_HasPrefix.f l0 (([102, 76, 97, 67] : List Int))).bind fun t136 => (if t136 = true then (meta_Unpack.l0 k l0 ([] : List (S24)) 4 true) else (some (([] : List (S24)), 0, 9))))) = some (r1, r2, r3) := h
  clear h
  by_cases c2 : (l0.length : Int) < 4
  · rw [if_pos c2] at H
    have c2b0 : decide ((l0.length : Int) < 4) = true := decide_eq_true c2
    have c2b1 : decide (l0.length < 4) = true := decide_eq_true (by omega)
    clear c2
    simp only [Option.some.injEq, Prod.mk.injEq] at H
    obtain ⟨rfl, rfl, rfl⟩ := H
    go_enter Try.func42, Try.ntmps42
    go_wp2
    repeat (go_quiet (fail); try go_wp2)
    go_ret3
    exact ⟨_, by first | rfl | (simp [errW_none, errW_some] <;> rfl) | (simp [*, errW_none, errW_some] <;> rfl), by first | exact Kd.S_nil _ _ _ _ _ | exact Kd.N_nil _ _ _ _ _ | exact Kd.V_nil _ _ _ _ _ | exact Kd.Q_nil _ _ _ _ _ | exact Kd.R_nil _ _ _ _ _, by repeat (first | (with_reducible first | exact HB.out | apply below_alloc | apply pw_below_drewN | apply below_drew1) | exact HB.out)⟩
  · rw [if_neg c2] at H
    have c2b0 : decide ((l0.length : Int) < 4) = false := decide_eq_false c2
    have c2b1 : decide (l0.length < 4) = false := decide_eq_false (by omega)
    clear c2
    obtain ⟨y133, hy133⟩ : ∃ y_ : List Int, y_ = (([102, 76, 97, 67] : List Int)) := ⟨_, rfl⟩
    replace H : ((bytes_HasPrefix.f l0 y133).bind fun t136 => (if t136 = true then (meta_Unpack.l0 k l0 ([] : List (S24)) 4 true) else (some (([] : List (S24)), 0, 9)))) = some (r1, r2, r3) := by first | (rw [hy133]; with_reducible exact H) | (have H2_ := (Option.bind_some _ _).symm.trans H; rw [hy133]; with_reducible exact H2_) | (have H2_ := (Option.bind_some _ _).symm.trans H; with_reducible exact H2_) | with_reducible exact H | (rw [hy133]; exact H) | exact H
    have Ny133 := Aside0.mk hy133
    clear hy133
    replace H := Option.bind_eq_some_iff.mp H
    obtain ⟨t136, A30, H⟩ := H
    replace H : (if t136 = true then (meta_Unpack.l0 k l0 ([] : List (S24)) 4 true) else (some (([] : List (S24)), 0, 9))) = some (r1, r2, r3) := H
    have A3 := Aside0.mk A30
    clear A30
    by_cases c4 : t136 = true
    · subst c4
      have H1 : (meta_Unpack.l0 k l0 ([] : List (S24)) 4 true) = some (r1, r2, r3) := by rw [if_pos rfl] at H; exact H
      clear H
      have H := H1
      clear H1
      have H' := Aside0.mk H
      clear H
      go_enter Try.func42, Try.ntmps42
      have hyy_ := Ny133.out
      subst hyy_
      have kc_ := fun (w : World) (C : Array Value) (n c : Nat) => Lib.run_convert_bytes_const (P := Try.prog) w 22 5 C n c Try.underlying22 Try.underlying5
      go_wp2_with (first | (go_at_call 75; (with_reducible refine (hp_lit A0 c0 l0 true _ w.heap.size (Kd.C_alloc HR0.out _) HC0.out (blk_new w _) A3.out).mono ?_); rintro e w' ⟨rfl, ⟨nd, rfl⟩⟩; clear kc_))
      go_loopg [5, 6, 7] k (fun kq v5 v6 v7 w' => ∃ (x5_1 : List (S24)) (x6_1 : Int) (x7_1 : Bool), v6 = .int .i64 x6_1 ∧ v7 = .bool x7_1 ∧ Aside0 (meta_Unpack.l0 kq l0 x5_1 x6_1 x7_1 = some (r1, r2, r3)) ∧ Aside0 (kq ≤ k) ∧ Aside0 (Kd.S k24 24 w' w.heap.size (fun _ => True) v5 x5_1) ∧ Aside0 (Below w.heap.size w w'))
      case atStart => exact ⟨(([] : List (S24))), (4), (true), (by first | rfl | (simp; done) | (simp [*]; done)), (by first | rfl | (simp; done) | (simp [*]; done)), H', ⟨Nat.le_refl _⟩, ⟨by first | exact Kd.S_nil _ _ _ _ _ | exact Kd.N_nil _ _ _ _ _ | exact Kd.V_nil _ _ _ _ _ | exact Kd.Q_nil _ _ _ _ _ | exact Kd.R_nil _ _ _ _ _⟩, ⟨by repeat (first | (with_reducible first | exact HB.out | apply below_alloc | apply pw_below_drewN | apply below_drew1) | exact HB.out)⟩⟩
      case round =>
        clear H'
        try clear c2
        try clear c2b0
        try clear c2b1
        try clear p2
        try clear c4
        obtain ⟨x5_1, x6_1, x7_1, rfl, rfl, HA, HK1, HO_5, HB⟩ := hrel
        cases gk with
        | zero => exact absurd HA.out (by simp [meta_Unpack.l0])
        | succ k1 =>
          have H := HA.out
          clear HA
          simp only [meta_Unpack.l0] at H
          by_cases c8 : x7_1 = true
          · subst c8
            have H1 : (if (l0.length : Int) < (wrap64 (x6_1 + 4)) then (some (([] : List (S24)), 0, 2)) else (if 0 ≤ x6_1 then (if x6_1 < (l0.length : Int) then (if 0 ≤ (wrap64 (x6_1 + 1)) then (if (wrap64 (x6_1 + 1)) < (l0.length : Int) then (if 0 ≤ (wrap64 (x6_1 + 2)) then (if (wrap64 (x6_1 + 2)) < (l0.length : Int) then (if 0 ≤ (wrap64 (x6_1 + 3)) then (if (wrap64 (x6_1 + 3)) < (l0.length : Int) then (if (wrap64 (Go.bits .andNot .u8 (rd l0 x6_1) 128)) = 127 then (some (([] : List (S24)), 0, 8)) else (if (((wrap64 (Go.bits .andNot .u8 (rd l0 x6_1) 128)) == 0) != ((x5_1.length : Int) == 0)) = true then (some (([] : List (S24)), 0, 5)) else (if (l0.length : Int) < (wrap64 ((wrap64 (x6_1 + 4)) + (Go.bits .or .i64 (Go.bits .or .i64 (wrap64 ((wrap64 (rd l0 (wrap64 (x6_1 + 1)))) * 65536)) (wrap64 ((wrap64 (rd l0 (wrap64 (x6_1 + 2)))) * 256))) (wrap64 (rd l0 (wrap64 (x6_1 + 3))))))) then (some (([] : List (S24)), 0, 2)) else (if 0 ≤ (wrap64 ((wrap64 (x6_1 + (wrap64 (4 + (Go.bits .or .i64 (Go.bits .or .i64 (wrap64 ((wrap64 (rd l0 (wrap64 (x6_1 + 1)))) * 65536)) (wrap64 ((wrap64 (rd l0 (wrap64 (x6_1 + 2)))) * 256))) (wrap64 (rd l0 (wrap64 (x6_1 + 3))))))))) - (Go.bits .or .i64 (Go.bits .or .i64 (wrap64 ((wrap64 (rd l0 (wrap64 (x6_1 + 1)))) * 65536)) (wrap64 ((wrap64 (rd l0 (wrap64 (x6_1 + 2)))) * 256))) (wrap64 (rd l0 (wrap64 (x6_1 + 3))))))) then (if (wrap64 ((wrap64 (x6_1 + (wrap64 (4 + (Go.bits .or .i64 (Go.bits .or .i64 (wrap64 ((wrap64 (rd l0 (wrap64 (x6_1 + 1)))) * 65536)) (wrap64 ((wrap64 (rd l0 (wrap64 (x6_1 + 2)))) * 256))) (wrap64 (rd l0 (wrap64 (x6_1 + 3))))))))) - (Go.bits .or .i64 (Go.bits .or .i64 (wrap64 ((wrap64 (rd l0 (wrap64 (x6_1 + 1)))) * 65536)) (wrap64 ((wrap64 (rd l0 (wrap64 (x6_1 + 2)))) * 256))) (wrap64 (rd l0 (wrap64 (x6_1 + 3))))))) ≤ (wrap64 (x6_1 + (wrap64 (4 + (Go.bits .or .i64 (Go.bits .or .i64 (wrap64 ((wrap64 (rd l0 (wrap64 (x6_1 + 1)))) * 65536)) (wrap64 ((wrap64 (rd l0 (wrap64 (x6_1 + 2)))) * 256))) (wrap64 (rd l0 (wrap64 (x6_1 + 3))))))))) then (if (wrap64 (x6_1 + (wrap64 (4 + (Go.bits .or .i64 (Go.bits .or .i64 (wrap64 ((wrap64 (rd l0 (wrap64 (x6_1 + 1)))) * 65536)) (wrap64 ((wrap64 (rd l0 (wrap64 (x6_1 + 2)))) * 256))) (wrap64 (rd l0 (wrap64 (x6_1 + 3))))))))) ≤ (l0.length : Int) then ((bytes_Clone.f ((l0.take ((wrap64 (x6_1 + (wrap64 (4 + (Go.bits .or .i64 (Go.bits .or .i64 (wrap64 ((wrap64 (rd l0 (wrap64 (x6_1 + 1)))) * 65536)) (wrap64 ((wrap64 (rd l0 (wrap64 (x6_1 + 2)))) * 256))) (wrap64 (rd l0 (wrap64 (x6_1 + 3))))))))) : Int).toNat).drop ((wrap64 ((wrap64 (x6_1 + (wrap64 (4 + (Go.bits .or .i64 (Go.bits .or .i64 (wrap64 ((wrap64 (rd l0 (wrap64 (x6_1 + 1)))) * 65536)) (wrap64 ((wrap64 (rd l0 (wrap64 (x6_1 + 2)))) * 256))) (wrap64 (rd l0 (wrap64 (x6_1 + 3))))))))) - (Go.bits .or .i64 (Go.bits .or .i64 (wrap64 ((wrap64 (rd l0 (wrap64 (x6_1 + 1)))) * 65536)) (wrap64 ((wrap64 (rd l0 (wrap64 (x6_1 + 2)))) * 256))) (wrap64 (rd l0 (wrap64 (x6_1 + 3))))))) : Int).toNat)).bind fun t143 => (if x5_1.length < 4398046511104 then (meta_Unpack.l0 k1 l0 (x5_1 ++ [(⟨wrap64 (Go.bits .andNot .u8 (rd l0 x6_1) 128), t143⟩ : S24)]) (wrap64 (x6_1 + (wrap64 (4 + (Go.bits .or .i64 (Go.bits .or .i64 (wrap64 ((wrap64 (rd l0 (wrap64 (x6_1 + 1)))) * 65536)) (wrap64 ((wrap64 (rd l0 (wrap64 (x6_1 + 2)))) * 256))) (wrap64 (rd l0 (wrap64 (x6_1 + 3))))))))) ((Go.bits .and .u8 (rd l0 x6_1) 128) == 0)) else (none))) else (none)) else (none)) else (none))))) else (none)) else (none)) else (none)) else (none)) else (none)) else (none)) else (none)) else (none))) = some (r1, r2, r3) := by rw [if_pos rfl] at H; exact H
            clear H
            have H := H1
            clear H1
            by_cases c9 : (l0.length : Int) < (wrap64 (x6_1 + 4))
            · rw [if_pos c9] at H
              have c9b0 : decide ((l0.length : Int) < (wrap64 (x6_1 + 4))) = true := decide_eq_true c9
              clear c9
              simp only [Option.some.injEq, Prod.mk.injEq] at H
              obtain ⟨rfl, rfl, rfl⟩ := H
              go_wp2
              repeat (go_quiet (fail); try go_wp2)
              go_ret3
              exact ⟨_, by first | rfl | (simp [errW_none, errW_some] <;> rfl) | (simp [*, errW_none, errW_some] <;> rfl), by first | exact Kd.S_nil _ _ _ _ _ | exact Kd.N_nil _ _ _ _ _ | exact Kd.V_nil _ _ _ _ _ | exact Kd.Q_nil _ _ _ _ _ | exact Kd.R_nil _ _ _ _ _, by repeat (first | (with_reducible first | exact HB.out | apply below_alloc | apply pw_below_drewN | apply below_drew1) | exact HB.out)⟩
            · rw [if_neg c9] at H
              have c9b0 : decide ((l0.length : Int) < (wrap64 (x6_1 + 4))) = false := decide_eq_false c9
              clear c9
              by_cases c10 : 0 ≤ x6_1
              · rw [if_pos c10] at H
                have c10b0 : decide (0 ≤ x6_1) = true := decide_eq_true c10
                clear c10
                by_cases c11 : x6_1 < (l0.length : Int)
                · rw [if_pos c11] at H
                  have c11b0 : decide (x6_1 < (l0.length : Int)) = true := decide_eq_true c11
                  clear c11
                  obtain ⟨ji12, hji12⟩ : ∃ j_ : Int, (wrap64 (x6_1 + 1)) = j_ := ⟨_, rfl⟩
                  replace H : (if 0 ≤ (ji12) then (if (ji12) < (l0.length : Int) then (if 0 ≤ (wrap64 (x6_1 + 2)) then (if (wrap64 (x6_1 + 2)) < (l0.length : Int) then (if 0 ≤ (wrap64 (x6_1 + 3)) then (if (wrap64 (x6_1 + 3)) < (l0.length : Int) then (if (wrap64 (Go.bits .andNot .u8 (rd l0 x6_1) 128)) = 127 then (some (([] : List (S24)), 0, 8)) else (if (((wrap64 (Go.bits .andNot .u8 (rd l0 x6_1) 128)) == 0) != ((x5_1.length : Int) == 0)) = true then (some (([] : List (S24)), 0, 5)) else (if (l0.length : Int) < (wrap64 ((wrap64 (x6_1 + 4)) + (Go.bits .or .i64 (Go.bits .or .i64 (wrap64 ((wrap64 (rd l0 (ji12))) * 65536)) (wrap64 ((wrap64 (rd l0 (wrap64 (x6_1 + 2)))) * 256))) (wrap64 (rd l0 (wrap64 (x6_1 + 3))))))) then (some (([] : List (S24)), 0, 2)) else (if 0 ≤ (wrap64 ((wrap64 (x6_1 + (wrap64 (4 + (Go.bits .or .i64 (Go.bits .or .i64 (wrap64 ((wrap64 (rd l0 (ji12))) * 65536)) (wrap64 ((wrap64 (rd l0 (wrap64 (x6_1 + 2)))) * 256))) (wrap64 (rd l0 (wrap64 (x6_1 + 3))))))))) - (Go.bits .or .i64 (Go.bits .or .i64 (wrap64 ((wrap64 (rd l0 (ji12))) * 65536)) (wrap64 ((wrap64 (rd l0 (wrap64 (x6_1 + 2)))) * 256))) (wrap64 (rd l0 (wrap64 (x6_1 + 3))))))) then (if (wrap64 ((wrap64 (x6_1 + (wrap64 (4 + (Go.bits .or .i64 (Go.bits .or .i64 (wrap64 ((wrap64 (rd l0 (ji12))) * 65536)) (wrap64 ((wrap64 (rd l0 (wrap64 (x6_1 + 2)))) * 256))) (wrap64 (rd l0 (wrap64 (x6_1 + 3))))))))) - (Go.bits .or .i64 (Go.bits .or .i64 (wrap64 ((wrap64 (rd l0 (ji12))) * 65536)) (wrap64 ((wrap64 (rd l0 (wrap64 (x6_1 + 2)))) * 256))) (wrap64 (rd l0 (wrap64 (x6_1 + 3))))))) ≤ (wrap64 (x6_1 + (wrap64 (4 + (Go.bits .or .i64 (Go.bits .or .i64 (wrap64 ((wrap64 (rd l0 (ji12))) * 65536)) (wrap64 ((wrap64 (rd l0 (wrap64 (x6_1 + 2)))) * 256))) (wrap64 (rd l0 (wrap64 (x6_1 + 3))))))))) then (if (wrap64 (x6_1 + (wrap64 (4 + (Go.bits .or .i64 (Go.bits .or .i64 (wrap64 ((wrap64 (rd l0 (ji12))) * 65536)) (wrap64 ((wrap64 (rd l0 (wrap64 (x6_1 + 2)))) * 256))) (wrap64 (rd l0 (wrap64 (x6_1 + 3))))))))) ≤ (l0.length : Int) then ((bytes_Clone.f ((l0.take ((wrap64 (x6_1 + (wrap64 (4 + (Go.bits .or .i64 (Go.bits .or .i64 (wrap64 ((wrap64 (rd l0 (ji12))) * 65536)) (wrap64 ((wrap64 (rd l0 (wrap64 (x6_1 + 2)))) * 256))) (wrap64 (rd l0 (wrap64 (x6_1 + 3))))))))) : Int).toNat).drop ((wrap64 ((wrap64 (x6_1 + (wrap64 (4 + (Go.bits .or .i64 (Go.bits .or .i64 (wrap64 ((wrap64 (rd l0 (ji12))) * 65536)) (wrap64 ((wrap64 (rd l0 (wrap64 (x6_1 + 2)))) * 256))) (wrap64 (rd l0 (wrap64 (x6_1 + 3))))))))) - (Go.bits .or .i64 (Go.bits .or .i64 (wrap64 ((wrap64 (rd l0 (ji12))) * 65536)) (wrap64 ((wrap64 (rd l0 (wrap64 (x6_1 + 2)))) * 256))) (wrap64 (rd l0 (wrap64 (x6_1 + 3))))))) : Int).toNat)).bind fun t143 => (if x5_1.length < 4398046511104 then (meta_Unpack.l0 k1 l0 (x5_1 ++ [(⟨wrap64 (Go.bits .andNot .u8 (rd l0 x6_1) 128), t143⟩ : S24)]) (wrap64 (x6_1 + (wrap64 (4 + (Go.bits .or .i64 (Go.bits .or .i64 (wrap64 ((wrap64 (rd l0 (ji12))) * 65536)) (wrap64 ((wrap64 (rd l0 (wrap64 (x6_1 + 2)))) * 256))) (wrap64 (rd l0 (wrap64 (x6_1 + 3))))))))) ((Go.bits .and .u8 (rd l0 x6_1) 128) == 0)) else (none))) else (none)) else (none)) else (none))))) else (none)) else (none)) else (none)) else (none)) else (none)) else (none)) = some (r1, r2, r3) := by first | (rw [hji12] at H; exact H) | (simp only [hji12] at H ⊢; exact H)
                  have hji12w : (IntKind.i64.wrap (x6_1 + 1)) = ji12 := (i64_w _).trans hji12
                  by_cases c13 : 0 ≤ (ji12)
                  · rw [if_pos c13] at H
                    have c13b0 : decide (0 ≤ (ji12)) = true := decide_eq_true c13
                    clear c13
                    by_cases c14 : (ji12) < (l0.length : Int)
                    · rw [if_pos c14] at H
                      have c14b0 : decide ((ji12) < (l0.length : Int)) = true := decide_eq_true c14
                      clear c14
                      obtain ⟨ji15, hji15⟩ : ∃ j_ : Int, (wrap64 (x6_1 + 2)) = j_ := ⟨_, rfl⟩
                      replace H : (if 0 ≤ (ji15) then (if (ji15) < (l0.length : Int) then (if 0 ≤ (wrap64 (x6_1 + 3)) then (if (wrap64 (x6_1 + 3)) < (l0.length : Int) then (if (wrap64 (Go.bits .andNot .u8 (rd l0 x6_1) 128)) = 127 then (some (([] : List (S24)), 0, 8)) else (if (((wrap64 (Go.bits .andNot .u8 (rd l0 x6_1) 128)) == 0) != ((x5_1.length : Int) == 0)) = true then (some (([] : List (S24)), 0, 5)) else (if (l0.length : Int) < (wrap64 ((wrap64 (x6_1 + 4)) + (Go.bits .or .i64 (Go.bits .or .i64 (wrap64 ((wrap64 (rd l0 (ji12))) * 65536)) (wrap64 ((wrap64 (rd l0 (ji15))) * 256))) (wrap64 (rd l0 (wrap64 (x6_1 + 3))))))) then (some (([] : List (S24)), 0, 2)) else (if 0 ≤ (wrap64 ((wrap64 (x6_1 + (wrap64 (4 + (Go.bits .or .i64 (Go.bits .or .i64 (wrap64 ((wrap64 (rd l0 (ji12))) * 65536)) (wrap64 ((wrap64 (rd l0 (ji15))) * 256))) (wrap64 (rd l0 (wrap64 (x6_1 + 3))))))))) - (Go.bits .or .i64 (Go.bits .or .i64 (wrap64 ((wrap64 (rd l0 (ji12))) * 65536)) (wrap64 ((wrap64 (rd l0 (ji15))) * 256))) (wrap64 (rd l0 (wrap64 (x6_1 + 3))))))) then (if (wrap64 ((wrap64 (x6_1 + (wrap64 (4 + (Go.bits .or .i64 (Go.bits .or .i64 (wrap64 ((wrap64 (rd l0 (ji12))) * 65536)) (wrap64 ((wrap64 (rd l0 (ji15))) * 256))) (wrap64 (rd l0 (wrap64 (x6_1 + 3))))))))) - (Go.bits .or .i64 (Go.bits .or .i64 (wrap64 ((wrap64 (rd l0 (ji12))) * 65536)) (wrap64 ((wrap64 (rd l0 (ji15))) * 256))) (wrap64 (rd l0 (wrap64 (x6_1 + 3))))))) ≤ (wrap64 (x6_1 + (wrap64 (4 + (Go.bits .or .i64 (Go.bits .or .i64 (wrap64 ((wrap64 (rd l0 (ji12))) * 65536)) (wrap64 ((wrap64 (rd l0 (ji15))) * 256))) (wrap64 (rd l0 (wrap64 (x6_1 + 3))))))))) then (if (wrap64 (x6_1 + (wrap64 (4 + (Go.bits .or .i64 (Go.bits .or .i64 (wrap64 ((wrap64 (rd l0 (ji12))) * 65536)) (wrap64 ((wrap64 (rd l0 (ji15))) * 256))) (wrap64 (rd l0 (wrap64 (x6_1 + 3))))))))) ≤ (l0.length : Int) then ((bytes_Clone.f ((l0.take ((wrap64 (x6_1 + (wrap64 (4 + (Go.bits .or .i64 (Go.bits .or .i64 (wrap64 ((wrap64 (rd l0 (ji12))) * 65536)) (wrap64 ((wrap64 (rd l0 (ji15))) * 256))) (wrap64 (rd l0 (wrap64 (x6_1 + 3))))))))) : Int).toNat).drop ((wrap64 ((wrap64 (x6_1 + (wrap64 (4 + (Go.bits .or .i64 (Go.bits .or .i64 (wrap64 ((wrap64 (rd l0 (ji12))) * 65536)) (wrap64 ((wrap64 (rd l0 (ji15))) * 256))) (wrap64 (rd l0 (wrap64 (x6_1 + 3))))))))) - (Go.bits .or .i64 (Go.bits .or .i64 (wrap64 ((wrap64 (rd l0 (ji12))) * 65536)) (wrap64 ((wrap64 (rd l0 (ji15))) * 256))) (wrap64 (rd l0 (wrap64 (x6_1 + 3))))))) : Int).toNat)).bind fun t143 => (if x5_1.length < 4398046511104 then (meta_Unpack.l0 k1 l0 (x5_1 ++ [(⟨wrap64 (Go.bits .andNot .u8 (rd l0 x6_1) 128), t143⟩ : S24)]) (wrap64 (x6_1 + (wrap64 (4 + (Go.bits .or .i64 (Go.bits .or .i64 (wrap64 ((wrap64 (rd l0 (ji12))) * 65536)) (wrap64 ((wrap64 (rd l0 (ji15))) * 256))) (wrap64 (rd l0 (wrap64 (x6_1 + 3))))))))) ((Go.bits .and .u8 (rd l0 x6_1) 128) == 0)) else (none))) else (none)) else (none)) else (none))))) else (none)) else (none)) else (none)) else (none)) = some (r1, r2, r3) := by first | (rw [hji15] at H; exact H) | (simp only [hji15] at H ⊢; exact H)
                      have hji15w : (IntKind.i64.wrap (x6_1 + 2)) = ji15 := (i64_w _).trans hji15
                      by_cases c16 : 0 ≤ (ji15)
                      · rw [if_pos c16] at H
                        have c16b0 : decide (0 ≤ (ji15)) = true := decide_eq_true c16
                        clear c16
                        by_cases c17 : (ji15) < (l0.length : Int)
                        · rw [if_pos c17] at H
                          have c17b0 : decide ((ji15) < (l0.length : Int)) = true := decide_eq_true c17
                          clear c17
                          obtain ⟨ji18, hji18⟩ : ∃ j_ : Int, (wrap64 (x6_1 + 3)) = j_ := ⟨_, rfl⟩
                          replace H : (if 0 ≤ (ji18) then (if (ji18) < (l0.length : Int) then (if (wrap64 (Go.bits .andNot .u8 (rd l0 x6_1) 128)) = 127 then (some (([] : List (S24)), 0, 8)) else (if (((wrap64 (Go.bits .andNot .u8 (rd l0 x6_1) 128)) == 0) != ((x5_1.length : Int) == 0)) = true then (some (([] : List (S24)), 0, 5)) else (if (l0.length : Int) < (wrap64 ((wrap64 (x6_1 + 4)) + (Go.bits .or .i64 (Go.bits .or .i64 (wrap64 ((wrap64 (rd l0 (ji12))) * 65536)) (wrap64 ((wrap64 (rd l0 (ji15))) * 256))) (wrap64 (rd l0 (ji18)))))) then (some (([] : List (S24)), 0, 2)) else (if 0 ≤ (wrap64 ((wrap64 (x6_1 + (wrap64 (4 + (Go.bits .or .i64 (Go.bits .or .i64 (wrap64 ((wrap64 (rd l0 (ji12))) * 65536)) (wrap64 ((wrap64 (rd l0 (ji15))) * 256))) (wrap64 (rd l0 (ji18)))))))) - (Go.bits .or .i64 (Go.bits .or .i64 (wrap64 ((wrap64 (rd l0 (ji12))) * 65536)) (wrap64 ((wrap64 (rd l0 (ji15))) * 256))) (wrap64 (rd l0 (ji18)))))) then (if (wrap64 ((wrap64 (x6_1 + (wrap64 (4 + (Go.bits .or .i64 (Go.bits .or .i64 (wrap64 ((wrap64 (rd l0 (ji12))) * 65536)) (wrap64 ((wrap64 (rd l0 (ji15))) * 256))) (wrap64 (rd l0 (ji18)))))))) - (Go.bits .or .i64 (Go.bits .or .i64 (wrap64 ((wrap64 (rd l0 (ji12))) * 65536)) (wrap64 ((wrap64 (rd l0 (ji15))) * 256))) (wrap64 (rd l0 (ji18)))))) ≤ (wrap64 (x6_1 + (wrap64 (4 + (Go.bits .or .i64 (Go.bits .or .i64 (wrap64 ((wrap64 (rd l0 (ji12))) * 65536)) (wrap64 ((wrap64 (rd l0 (ji15))) * 256))) (wrap64 (rd l0 (ji18)))))))) then (if (wrap64 (x6_1 + (wrap64 (4 + (Go.bits .or .i64 (Go.bits .or .i64 (wrap64 ((wrap64 (rd l0 (ji12))) * 65536)) (wrap64 ((wrap64 (rd l0 (ji15))) * 256))) (wrap64 (rd l0 (ji18)))))))) ≤ (l0.length : Int) then ((bytes_Clone.f ((l0.take ((wrap64 (x6_1 + (wrap64 (4 + (Go.bits .or .i64 (Go.bits .or .i64 (wrap64 ((wrap64 (rd l0 (ji12))) * 65536)) (wrap64 ((wrap64 (rd l0 (ji15))) * 256))) (wrap64 (rd l0 (ji18)))))))) : Int).toNat).drop ((wrap64 ((wrap64 (x6_1 + (wrap64 (4 + (Go.bits .or .i64 (Go.bits .or .i64 (wrap64 ((wrap64 (rd l0 (ji12))) * 65536)) (wrap64 ((wrap64 (rd l0 (ji15))) * 256))) (wrap64 (rd l0 (ji18)))))))) - (Go.bits .or .i64 (Go.bits .or .i64 (wrap64 ((wrap64 (rd l0 (ji12))) * 65536)) (wrap64 ((wrap64 (rd l0 (ji15))) * 256))) (wrap64 (rd l0 (ji18)))))) : Int).toNat)).bind fun t143 => (if x5_1.length < 4398046511104 then (meta_Unpack.l0 k1 l0 (x5_1 ++ [(⟨wrap64 (Go.bits .andNot .u8 (rd l0 x6_1) 128), t143⟩ : S24)]) (wrap64 (x6_1 + (wrap64 (4 + (Go.bits .or .i64 (Go.bits .or .i64 (wrap64 ((wrap64 (rd l0 (ji12))) * 65536)) (wrap64 ((wrap64 (rd l0 (ji15))) * 256))) (wrap64 (rd l0 (ji18)))))))) ((Go.bits .and .u8 (rd l0 x6_1) 128) == 0)) else (none))) else (none)) else (none)) else (none))))) else (none)) else (none)) = some (r1, r2, r3) := by first | (rw [hji18] at H; exact H) | (simp only [hji18] at H ⊢; exact H)
                          have hji18w : (IntKind.i64.wrap (x6_1 + 3)) = ji18 := (i64_w _).trans hji18
                          by_cases c19 : 0 ≤ (ji18)
                          · rw [if_pos c19] at H
                            have c19b0 : decide (0 ≤ (ji18)) = true := decide_eq_true c19
                            clear c19
                            by_cases c20 : (ji18) < (l0.length : Int)
                            · rw [if_pos c20] at H
                              have c20b0 : decide ((ji18) < (l0.length : Int)) = true := decide_eq_true c20
                              clear c20
                              by_cases c21 : (wrap64 (Go.bits .andNot .u8 (rd l0 x6_1) 128)) = 127
                              · rw [if_pos c21] at H
                                have c21b0 : ((wrap64 (Go.bits .andNot .u8 (rd l0 x6_1) 128)) == 127) = true := beq_iff_eq.mpr c21
                                have c21b1 : ((wrap64 (Go.bits .andNot .u8 (rd l0 x6_1) 128)) != 127) = false := bne_eq_false_iff_eq.mpr c21
                                clear c21
                                simp only [Option.some.injEq, Prod.mk.injEq] at H
                                obtain ⟨rfl, rfl, rfl⟩ := H
                                have p137 : 0 ≤ (x6_1 : Int) := of_decide_eq_true (by first | (with_reducible assumption) | assumption)
                                have q137 : x6_1 < (l0.length : Int) := of_decide_eq_true (by first | (with_reducible assumption) | assumption)
                                obtain ⟨ad137, e137, hx137_0⟩ := Kd.at_int HR0.out x6_1 p137 q137
                                cases e137
                                replace hx137_0 := (HB.out.cell (World.block_lt_of_cell? w _ hx137_0)).trans hx137_0
                                replace p137 := eq_true p137
                                replace q137 := eq_true q137
                                have p138 : 0 ≤ ((ji12) : Int) := of_decide_eq_true (by first | (with_reducible assumption) | assumption)
                                have q138 : (ji12) < (l0.length : Int) := of_decide_eq_true (by first | (with_reducible assumption) | assumption)
                                obtain ⟨ad138, e138, hx138_0⟩ := Kd.at_int HR0.out (ji12) p138 q138
                                obtain rfl : ad137 = ad138 := (by injection e138)
                                replace hx138_0 := (HB.out.cell (World.block_lt_of_cell? w _ hx138_0)).trans hx138_0
                                replace p138 := eq_true p138
                                replace q138 := eq_true q138
                                have p139 : 0 ≤ ((ji15) : Int) := of_decide_eq_true (by first | (with_reducible assumption) | assumption)
                                have q139 : (ji15) < (l0.length : Int) := of_decide_eq_true (by first | (with_reducible assumption) | assumption)
                                obtain ⟨ad139, e139, hx139_0⟩ := Kd.at_int HR0.out (ji15) p139 q139
                                obtain rfl : ad137 = ad139 := (by injection e139)
                                replace hx139_0 := (HB.out.cell (World.block_lt_of_cell? w _ hx139_0)).trans hx139_0
                                replace p139 := eq_true p139
                                replace q139 := eq_true q139
                                have p140 : 0 ≤ ((ji18) : Int) := of_decide_eq_true (by first | (with_reducible assumption) | assumption)
                                have q140 : (ji18) < (l0.length : Int) := of_decide_eq_true (by first | (with_reducible assumption) | assumption)
                                obtain ⟨ad140, e140, hx140_0⟩ := Kd.at_int HR0.out (ji18) p140 q140
                                obtain rfl : ad137 = ad140 := (by injection e140)
                                replace hx140_0 := (HB.out.cell (World.block_lt_of_cell? w _ hx140_0)).trans hx140_0
                                replace p140 := eq_true p140
                                replace q140 := eq_true q140
                                go_wp2
                                repeat (go_quiet (fail); try go_wp2)
                                go_ret3
                                exact ⟨_, by first | rfl | (simp [errW_none, errW_some] <;> rfl) | (simp only [← hji12, ← hji15, ← hji18]; first | rfl | (simp [errW_none, errW_some] <;> rfl)) | (simp [*, errW_none, errW_some] <;> rfl), by first | exact Kd.S_nil _ _ _ _ _ | exact Kd.N_nil _ _ _ _ _ | exact Kd.V_nil _ _ _ _ _ | exact Kd.Q_nil _ _ _ _ _ | exact Kd.R_nil _ _ _ _ _, by repeat (first | (with_reducible first | exact HB.out | apply below_alloc | apply pw_below_drewN | apply below_drew1) | exact HB.out)⟩
                              · rw [if_neg c21] at H
                                have c21b0 : ((wrap64 (Go.bits .andNot .u8 (rd l0 x6_1) 128)) == 127) = false := beq_eq_false_iff_ne.mpr c21
                                have c21b1 : ((wrap64 (Go.bits .andNot .u8 (rd l0 x6_1) 128)) != 127) = true := bne_iff_ne.mpr c21
                                by_cases c22 : (((wrap64 (Go.bits .andNot .u8 (rd l0 x6_1) 128)) == 0) != ((x5_1.length : Int) == 0)) = true
                                · rw [if_pos c22] at H
                                  have c22b0 : (((wrap64 (Go.bits .andNot .u8 (rd l0 x6_1) 128)) == 0) != ((x5_1.length : Int) == 0)) = true := c22
                                  (try (have c22b1 : decide (((wrap64 (Go.bits .andNot .u8 (rd l0 x6_1) 128)) == 0) = ((x5_1.length : Int) == 0)) = false := by simpa using c22))
                                  (try (have c22b2 : (((wrap64 (Go.bits .andNot .u8 (rd l0 x6_1) 128)) == 0) == ((x5_1.length : Int) == 0)) = false := by simpa using c22))
                                  (try (have c22b3 : ¬ (((wrap64 (Go.bits .andNot .u8 (rd l0 x6_1) 128)) == 0) = ((x5_1.length : Int) == 0)) := by simpa using c22))
                                  clear c22
                                  simp only [Option.some.injEq, Prod.mk.injEq] at H
                                  obtain ⟨rfl, rfl, rfl⟩ := H
                                  have p137 : 0 ≤ (x6_1 : Int) := of_decide_eq_true (by first | (with_reducible assumption) | assumption)
                                  have q137 : x6_1 < (l0.length : Int) := of_decide_eq_true (by first | (with_reducible assumption) | assumption)
                                  obtain ⟨ad137, e137, hx137_0⟩ := Kd.at_int HR0.out x6_1 p137 q137
                                  cases e137
                                  replace hx137_0 := (HB.out.cell (World.block_lt_of_cell? w _ hx137_0)).trans hx137_0
                                  replace p137 := eq_true p137
                                  replace q137 := eq_true q137
                                  have p138 : 0 ≤ ((ji12) : Int) := of_decide_eq_true (by first | (with_reducible assumption) | assumption)
                                  have q138 : (ji12) < (l0.length : Int) := of_decide_eq_true (by first | (with_reducible assumption) | assumption)
                                  obtain ⟨ad138, e138, hx138_0⟩ := Kd.at_int HR0.out (ji12) p138 q138
                                  obtain rfl : ad137 = ad138 := (by injection e138)
                                  replace hx138_0 := (HB.out.cell (World.block_lt_of_cell? w _ hx138_0)).trans hx138_0
                                  replace p138 := eq_true p138
                                  replace q138 := eq_true q138
                                  have p139 : 0 ≤ ((ji15) : Int) := of_decide_eq_true (by first | (with_reducible assumption) | assumption)
                                  have q139 : (ji15) < (l0.length : Int) := of_decide_eq_true (by first | (with_reducible assumption) | assumption)
                                  obtain ⟨ad139, e139, hx139_0⟩ := Kd.at_int HR0.out (ji15) p139 q139
                                  obtain rfl : ad137 = ad139 := (by injection e139)
                                  replace hx139_0 := (HB.out.cell (World.block_lt_of_cell? w _ hx139_0)).trans hx139_0
                                  replace p139 := eq_true p139
                                  replace q139 := eq_true q139
                                  have p140 : 0 ≤ ((ji18) : Int) := of_decide_eq_true (by first | (with_reducible assumption) | assumption)
                                  have q140 : (ji18) < (l0.length : Int) := of_decide_eq_true (by first | (with_reducible assumption) | assumption)
                                  obtain ⟨ad140, e140, hx140_0⟩ := Kd.at_int HR0.out (ji18) p140 q140
                                  obtain rfl : ad137 = ad140 := (by injection e140)
                                  replace hx140_0 := (HB.out.cell (World.block_lt_of_cell? w _ hx140_0)).trans hx140_0
                                  replace p140 := eq_true p140
                                  replace q140 := eq_true q140
                                  obtain ⟨Ao23, co23, eo23⟩ := Kd.S_slice HO_5.out
                                  subst eo23
                                  go_wp2
                                  repeat (go_quiet (fail); try go_wp2)
                                  go_ret3
                                  exact ⟨_, by first | rfl | (simp [errW_none, errW_some] <;> rfl) | (simp only [← hji12, ← hji15, ← hji18]; first | rfl | (simp [errW_none, errW_some] <;> rfl)) | (simp [*, errW_none, errW_some] <;> rfl), by first | exact Kd.S_nil _ _ _ _ _ | exact Kd.N_nil _ _ _ _ _ | exact Kd.V_nil _ _ _ _ _ | exact Kd.Q_nil _ _ _ _ _ | exact Kd.R_nil _ _ _ _ _, by repeat (first | (with_reducible first | exact HB.out | apply below_alloc | apply pw_below_drewN | apply below_drew1) | exact HB.out)⟩
                                · rw [if_neg c22] at H
                                  have c22b0 : (((wrap64 (Go.bits .andNot .u8 (rd l0 x6_1) 128)) == 0) != ((x5_1.length : Int) == 0)) = false := by simpa using c22
                                  (try (have c22b1 : decide (((wrap64 (Go.bits .andNot .u8 (rd l0 x6_1) 128)) == 0) = ((x5_1.length : Int) == 0)) = true := by simpa using c22))
                                  (try (have c22b2 : (((wrap64 (Go.bits .andNot .u8 (rd l0 x6_1) 128)) == 0) == ((x5_1.length : Int) == 0)) = true := by simpa using c22))
                                  clear c22
                                  by_cases c24 : (l0.length : Int) < (wrap64 ((wrap64 (x6_1 + 4)) + (Go.bits .or .i64 (Go.bits .or .i64 (wrap64 ((wrap64 (rd l0 (ji12))) * 65536)) (wrap64 ((wrap64 (rd l0 (ji15))) * 256))) (wrap64 (rd l0 (ji18))))))
                                  · rw [if_pos c24] at H
                                    have c24b0 : decide ((l0.length : Int) < (wrap64 ((wrap64 (x6_1 + 4)) + (Go.bits .or .i64 (Go.bits .or .i64 (wrap64 ((wrap64 (rd l0 (ji12))) * 65536)) (wrap64 ((wrap64 (rd l0 (ji15))) * 256))) (wrap64 (rd l0 (ji18))))))) = true := decide_eq_true c24
                                    clear c24
                                    simp only [Option.some.injEq, Prod.mk.injEq] at H
                                    obtain ⟨rfl, rfl, rfl⟩ := H
                                    have p137 : 0 ≤ (x6_1 : Int) := of_decide_eq_true (by first | (with_reducible assumption) | assumption)
                                    have q137 : x6_1 < (l0.length : Int) := of_decide_eq_true (by first | (with_reducible assumption) | assumption)
                                    obtain ⟨ad137, e137, hx137_0⟩ := Kd.at_int HR0.out x6_1 p137 q137
                                    cases e137
                                    replace hx137_0 := (HB.out.cell (World.block_lt_of_cell? w _ hx137_0)).trans hx137_0
                                    replace p137 := eq_true p137
                                    replace q137 := eq_true q137
                                    have p138 : 0 ≤ ((ji12) : Int) := of_decide_eq_true (by first | (with_reducible assumption) | assumption)
                                    have q138 : (ji12) < (l0.length : Int) := of_decide_eq_true (by first | (with_reducible assumption) | assumption)
                                    obtain ⟨ad138, e138, hx138_0⟩ := Kd.at_int HR0.out (ji12) p138 q138
                                    obtain rfl : ad137 = ad138 := (by injection e138)
                                    replace hx138_0 := (HB.out.cell (World.block_lt_of_cell? w _ hx138_0)).trans hx138_0
                                    replace p138 := eq_true p138
                                    replace q138 := eq_true q138
                                    have p139 : 0 ≤ ((ji15) : Int) := of_decide_eq_true (by first | (with_reducible assumption) | assumption)
                                    have q139 : (ji15) < (l0.length : Int) := of_decide_eq_true (by first | (with_reducible assumption) | assumption)
                                    obtain ⟨ad139, e139, hx139_0⟩ := Kd.at_int HR0.out (ji15) p139 q139
                                    obtain rfl : ad137 = ad139 := (by injection e139)
                                    replace hx139_0 := (HB.out.cell (World.block_lt_of_cell? w _ hx139_0)).trans hx139_0
                                    replace p139 := eq_true p139
                                    replace q139 := eq_true q139
                                    have p140 : 0 ≤ ((ji18) : Int) := of_decide_eq_true (by first | (with_reducible assumption) | assumption)
                                    have q140 : (ji18) < (l0.length : Int) := of_decide_eq_true (by first | (with_reducible assumption) | assumption)
                                    obtain ⟨ad140, e140, hx140_0⟩ := Kd.at_int HR0.out (ji18) p140 q140
                                    obtain rfl : ad137 = ad140 := (by injection e140)
                                    replace hx140_0 := (HB.out.cell (World.block_lt_of_cell? w _ hx140_0)).trans hx140_0
                                    replace p140 := eq_true p140
                                    replace q140 := eq_true q140
                                    obtain ⟨Ao25, co25, eo25⟩ := Kd.S_slice HO_5.out
                                    subst eo25
                                    go_wp2
                                    repeat (go_quiet (fail); try go_wp2)
                                    go_ret3
                                    exact ⟨_, by first | rfl | (simp [errW_none, errW_some] <;> rfl) | (simp only [← hji12, ← hji15, ← hji18]; first | rfl | (simp [errW_none, errW_some] <;> rfl)) | (simp [*, errW_none, errW_some] <;> rfl), by first | exact Kd.S_nil _ _ _ _ _ | exact Kd.N_nil _ _ _ _ _ | exact Kd.V_nil _ _ _ _ _ | exact Kd.Q_nil _ _ _ _ _ | exact Kd.R_nil _ _ _ _ _, by repeat (first | (with_reducible first | exact HB.out | apply below_alloc | apply pw_below_drewN | apply below_drew1) | exact HB.out)⟩
                                  · rw [if_neg c24] at H
                                    have c24b0 : decide ((l0.length : Int) < (wrap64 ((wrap64 (x6_1 + 4)) + (Go.bits .or .i64 (Go.bits .or .i64 (wrap64 ((wrap64 (rd l0 (ji12))) * 65536)) (wrap64 ((wrap64 (rd l0 (ji15))) * 256))) (wrap64 (rd l0 (ji18))))))) = false := decide_eq_false c24
                                    clear c24
                                    obtain ⟨ji26, hji26⟩ : ∃ j_ : Int, (wrap64 ((wrap64 (x6_1 + (wrap64 (4 + (Go.bits .or .i64 (Go.bits .or .i64 (wrap64 ((wrap64 (rd l0 (ji12))) * 65536)) (wrap64 ((wrap64 (rd l0 (ji15))) * 256))) (wrap64 (rd l0 (ji18)))))))) - (Go.bits .or .i64 (Go.bits .or .i64 (wrap64 ((wrap64 (rd l0 (ji12))) * 65536)) (wrap64 ((wrap64 (rd l0 (ji15))) * 256))) (wrap64 (rd l0 (ji18)))))) = j_ := ⟨_, rfl⟩
                                    replace H : (if 0 ≤ (ji26) then (if (ji26) ≤ (wrap64 (x6_1 + (wrap64 (4 + (Go.bits .or .i64 (Go.bits .or .i64 (wrap64 ((wrap64 (rd l0 (ji12))) * 65536)) (wrap64 ((wrap64 (rd l0 (ji15))) * 256))) (wrap64 (rd l0 (ji18)))))))) then (if (wrap64 (x6_1 + (wrap64 (4 + (Go.bits .or .i64 (Go.bits .or .i64 (wrap64 ((wrap64 (rd l0 (ji12))) * 65536)) (wrap64 ((wrap64 (rd l0 (ji15))) * 256))) (wrap64 (rd l0 (ji18)))))))) ≤ (l0.length : Int) then ((bytes_Clone.f ((l0.take ((wrap64 (x6_1 + (wrap64 (4 + (Go.bits .or .i64 (Go.bits .or .i64 (wrap64 ((wrap64 (rd l0 (ji12))) * 65536)) (wrap64 ((wrap64 (rd l0 (ji15))) * 256))) (wrap64 (rd l0 (ji18)))))))) : Int).toNat).drop ((ji26) : Int).toNat)).bind fun t143 => (if x5_1.length < 4398046511104 then (meta_Unpack.l0 k1 l0 (x5_1 ++ [(⟨wrap64 (Go.bits .andNot .u8 (rd l0 x6_1) 128), t143⟩ : S24)]) (wrap64 (x6_1 + (wrap64 (4 + (Go.bits .or .i64 (Go.bits .or .i64 (wrap64 ((wrap64 (rd l0 (ji12))) * 65536)) (wrap64 ((wrap64 (rd l0 (ji15))) * 256))) (wrap64 (rd l0 (ji18)))))))) ((Go.bits .and .u8 (rd l0 x6_1) 128) == 0)) else (none))) else (none)) else (none)) else (none)) = some (r1, r2, r3) := by first | (rw [hji26] at H; exact H) | (simp only [hji26] at H ⊢; exact H)
                                    have hji26w : (IntKind.i64.wrap ((wrap64 (x6_1 + (wrap64 (4 + (Go.bits .or .i64 (Go.bits .or .i64 (wrap64 ((wrap64 (rd l0 (ji12))) * 65536)) (wrap64 ((wrap64 (rd l0 (ji15))) * 256))) (wrap64 (rd l0 (ji18)))))))) - (Go.bits .or .i64 (Go.bits .or .i64 (wrap64 ((wrap64 (rd l0 (ji12))) * 65536)) (wrap64 ((wrap64 (rd l0 (ji15))) * 256))) (wrap64 (rd l0 (ji18)))))) = ji26 := (i64_w _).trans hji26
                                    by_cases c27 : 0 ≤ (ji26)
                                    · rw [if_pos c27] at H
                                      have c27b0 := eq_true c27
                                      have c27b1 : decide (0 ≤ (ji26)) = true := decide_eq_true c27
                                      clear c27
                                      by_cases c28 : (ji26) ≤ (wrap64 (x6_1 + (wrap64 (4 + (Go.bits .or .i64 (Go.bits .or .i64 (wrap64 ((wrap64 (rd l0 (ji12))) * 65536)) (wrap64 ((wrap64 (rd l0 (ji15))) * 256))) (wrap64 (rd l0 (ji18))))))))
                                      · rw [if_pos c28] at H
                                        have c28b0 := eq_true c28
                                        have c28b1 : decide ((ji26) ≤ (wrap64 (x6_1 + (wrap64 (4 + (Go.bits .or .i64 (Go.bits .or .i64 (wrap64 ((wrap64 (rd l0 (ji12))) * 65536)) (wrap64 ((wrap64 (rd l0 (ji15))) * 256))) (wrap64 (rd l0 (ji18))))))))) = true := decide_eq_true c28
                                        by_cases c29 : (wrap64 (x6_1 + (wrap64 (4 + (Go.bits .or .i64 (Go.bits .or .i64 (wrap64 ((wrap64 (rd l0 (ji12))) * 65536)) (wrap64 ((wrap64 (rd l0 (ji15))) * 256))) (wrap64 (rd l0 (ji18)))))))) ≤ (l0.length : Int)
                                        · rw [if_pos c29] at H
                                          have c29b0 := eq_true c29
                                          have c29b1 : decide ((wrap64 (x6_1 + (wrap64 (4 + (Go.bits .or .i64 (Go.bits .or .i64 (wrap64 ((wrap64 (rd l0 (ji12))) * 65536)) (wrap64 ((wrap64 (rd l0 (ji15))) * 256))) (wrap64 (rd l0 (ji18)))))))) ≤ (l0.length : Int)) = true := decide_eq_true c29
                                          replace H := Option.bind_eq_some_iff.mp H
                                          obtain ⟨t143, A300, H⟩ := H
                                          replace H : (if x5_1.length < 4398046511104 then (meta_Unpack.l0 k1 l0 (x5_1 ++ [(⟨wrap64 (Go.bits .andNot .u8 (rd l0 x6_1) 128), t143⟩ : S24)]) (wrap64 (x6_1 + (wrap64 (4 + (Go.bits .or .i64 (Go.bits .or .i64 (wrap64 ((wrap64 (rd l0 (ji12))) * 65536)) (wrap64 ((wrap64 (rd l0 (ji15))) * 256))) (wrap64 (rd l0 (ji18)))))))) ((Go.bits .and .u8 (rd l0 x6_1) 128) == 0)) else (none)) = some (r1, r2, r3) := H
                                          have A30 := Aside0.mk A300
                                          clear A300
                                          by_cases c31 : x5_1.length < 4398046511104
                                          · rw [if_pos c31] at H
                                            have LMc31 := Aside0.mk c31
                                            clear c31
                                            obtain ⟨y146, hy146⟩ : ∃ y_ : List (S24), y_ = (x5_1 ++ [(⟨wrap64 (Go.bits .andNot .u8 (rd l0 x6_1) 128), t143⟩ : S24)]) := ⟨_, rfl⟩
                                            replace H : (meta_Unpack.l0 k1 l0 y146 (wrap64 (x6_1 + (wrap64 (4 + (Go.bits .or .i64 (Go.bits .or .i64 (wrap64 ((wrap64 (rd l0 (ji12))) * 65536)) (wrap64 ((wrap64 (rd l0 (ji15))) * 256))) (wrap64 (rd l0 (ji18)))))))) ((Go.bits .and .u8 (rd l0 x6_1) 128) == 0)) = some (r1, r2, r3) := by first | (rw [hy146]; with_reducible exact H) | (have H2_ := (Option.bind_some _ _).symm.trans H; rw [hy146]; with_reducible exact H2_) | (have H2_ := (Option.bind_some _ _).symm.trans H; with_reducible exact H2_) | with_reducible exact H | (rw [hy146]; exact H) | exact H
                                            have Ny146 := Aside0.mk hy146
                                            clear hy146
                                            have H' := Aside0.mk H
                                            clear H
                                            have p137 : 0 ≤ (x6_1 : Int) := of_decide_eq_true (by first | (with_reducible assumption) | assumption)
                                            have q137 : x6_1 < (l0.length : Int) := of_decide_eq_true (by first | (with_reducible assumption) | assumption)
                                            obtain ⟨ad137, e137, hx137_0⟩ := Kd.at_int HR0.out x6_1 p137 q137
                                            cases e137
                                            replace hx137_0 := (HB.out.cell (World.block_lt_of_cell? w _ hx137_0)).trans hx137_0
                                            replace p137 := eq_true p137
                                            replace q137 := eq_true q137
                                            have p138 : 0 ≤ ((ji12) : Int) := of_decide_eq_true (by first | (with_reducible assumption) | assumption)
                                            have q138 : (ji12) < (l0.length : Int) := of_decide_eq_true (by first | (with_reducible assumption) | assumption)
                                            obtain ⟨ad138, e138, hx138_0⟩ := Kd.at_int HR0.out (ji12) p138 q138
                                            obtain rfl : ad137 = ad138 := (by injection e138)
                                            replace hx138_0 := (HB.out.cell (World.block_lt_of_cell? w _ hx138_0)).trans hx138_0
                                            replace p138 := eq_true p138
                                            replace q138 := eq_true q138
                                            have p139 : 0 ≤ ((ji15) : Int) := of_decide_eq_true (by first | (with_reducible assumption) | assumption)
                                            have q139 : (ji15) < (l0.length : Int) := of_decide_eq_true (by first | (with_reducible assumption) | assumption)
                                            obtain ⟨ad139, e139, hx139_0⟩ := Kd.at_int HR0.out (ji15) p139 q139
                                            obtain rfl : ad137 = ad139 := (by injection e139)
                                            replace hx139_0 := (HB.out.cell (World.block_lt_of_cell? w _ hx139_0)).trans hx139_0
                                            replace p139 := eq_true p139
                                            replace q139 := eq_true q139
                                            have p140 : 0 ≤ ((ji18) : Int) := of_decide_eq_true (by first | (with_reducible assumption) | assumption)
                                            have q140 : (ji18) < (l0.length : Int) := of_decide_eq_true (by first | (with_reducible assumption) | assumption)
                                            obtain ⟨ad140, e140, hx140_0⟩ := Kd.at_int HR0.out (ji18) p140 q140
                                            obtain rfl : ad137 = ad140 := (by injection e140)
                                            replace hx140_0 := (HB.out.cell (World.block_lt_of_cell? w _ hx140_0)).trans hx140_0
                                            replace p140 := eq_true p140
                                            replace q140 := eq_true q140
                                            obtain ⟨Ao32, co32, eo32⟩ := Kd.S_slice HO_5.out
                                            subst eo32
                                            have p141 : 0 ≤ (x6_1 : Int) := of_decide_eq_true (by first | (with_reducible assumption) | assumption)
                                            have q141 : x6_1 < (l0.length : Int) := of_decide_eq_true (by first | (with_reducible assumption) | assumption)
                                            obtain ⟨ad141, e141, hx141_0⟩ := Kd.at_int HR0.out x6_1 p141 q141
                                            obtain rfl : ad137 = ad141 := (by injection e141)
                                            replace hx141_0 := (HB.out.cell (World.block_lt_of_cell? w _ hx141_0)).trans hx141_0
                                            replace p141 := eq_true p141
                                            replace q141 := eq_true q141
                                            obtain ⟨i033, hi033, _, hsz33, _⟩ := info_parts info5
                                            obtain ⟨A33, hcut33, hA33, hC33⟩ := print_mid_of (P := Try.prog) (Value.int .u8) 0 22 5 .i64 .i64 Try.underlying22 hi033 hsz33 (some ad137) c0 l0 (ji26) (wrap64 (x6_1 + (wrap64 (4 + (Go.bits .or .i64 (Go.bits .or .i64 (wrap64 ((wrap64 (rd l0 (ji12))) * 65536)) (wrap64 ((wrap64 (rd l0 (ji15))) * 256))) (wrap64 (rd l0 (ji18)))))))) (of_decide_eq_true (by first | (with_reducible assumption) | assumption)) (by first | omega | exact of_decide_eq_true (by first | (with_reducible assumption) | assumption)) (of_decide_eq_true (by first | (with_reducible assumption) | assumption)) HC0.out
                                            have HR142 := Aside0.mk (Kd.C_of_reads (h1 := fun _ => rfl) (hA33 _ (Kd.reads_of_C HR0.out)))
                                            have HC142 := Aside0.mk hC33
                                            clear hA33 hC33 hi033 hsz33
                                            go_wp2_with (first | (go_at_call 62; (try rw [show (((wrap64 (x6_1 + (wrap64 (4 + (Go.bits .or .i64 (Go.bits .or .i64 (wrap64 ((wrap64 (rd l0 (ji12))) * 65536)) (wrap64 ((wrap64 (rd l0 (ji15))) * 256))) (wrap64 (rd l0 (ji18)))))))) : Int).toNat - ((ji26) : Int).toNat) = ((l0.take ((wrap64 (x6_1 + (wrap64 (4 + (Go.bits .or .i64 (Go.bits .or .i64 (wrap64 ((wrap64 (rd l0 (ji12))) * 65536)) (wrap64 ((wrap64 (rd l0 (ji15))) * 256))) (wrap64 (rd l0 (ji18)))))))) : Int).toNat).drop ((ji26) : Int).toNat).length from (by have hz_ : (wrap64 (x6_1 + (wrap64 (4 + (Go.bits .or .i64 (Go.bits .or .i64 (wrap64 ((wrap64 (rd l0 (ji12))) * 65536)) (wrap64 ((wrap64 (rd l0 (ji15))) * 256))) (wrap64 (rd l0 (ji18)))))))) ≤ (l0.length : Int) := of_decide_eq_true (by first | (with_reducible assumption) | assumption); rw [List.length_drop, List.length_take, Nat.min_eq_left (Int.toNat_le.mpr hz_)])]); (with_reducible refine (bytes_Clone.calls _ _ ((l0.take ((wrap64 (x6_1 + (wrap64 (4 + (Go.bits .or .i64 (Go.bits .or .i64 (wrap64 ((wrap64 (rd l0 (ji12))) * 65536)) (wrap64 ((wrap64 (rd l0 (ji15))) * 256))) (wrap64 (rd l0 (ji18)))))))) : Int).toNat).drop ((ji26) : Int).toNat) t143 _ ?side1 ?side2 A30.out).mono ?_); (case side1 => repeat (first | exact (Kd.C_below HR142.out HB.out) | (with_reducible refine Kd.C_alloc ?_ _) | (with_reducible refine Kd.C_drewN ?_ _) | (with_reducible refine Kd.C_drew ?_))); (case side2 => exact HC142.out); rintro e w34 ⟨v144, rfl, ho0, hb⟩; have n0_ := Aside0.mk (Kd.S_elder' (by (with_reducible repeat (first | apply Kd.S_alloc | apply Kd.S_drewN | apply Kd.S_drew)); exact HO_5.out) (Kd.R_base ho0) hb); have n1_ := Aside0.mk (Kd.R_lower ho0 (below_size (by repeat (first | (with_reducible first | exact HB.out | apply below_alloc | apply pw_below_drewN | apply below_drew1) | exact HB.out)))); have n2_ := Aside0.mk (below_step (by repeat (first | (with_reducible first | exact HB.out | apply below_alloc | apply pw_below_drewN | apply below_drew1) | exact HB.out)) hb); clear HO_5; clear HB; have HO_5 := n0_; have HO145 := n1_; have HB := n2_; clear n0_ n1_ n2_; (try clear hb); (try clear hb2); (try clear hk); (try clear hi); (try clear ho0); obtain ⟨Ao35, co35, eo35⟩ := Kd.R_slice HO145.out; subst eo35) | ((with_reducible refine gate_builtin (b := .append) (xs := #[.tmp 82, .tmp 92]) rfl ?_); at_builtin; refine Kd.S_append k24 (w0 := w) w.heap.size rfl (.tmp 82) (.tmp 92) 67 24 (.agg #[(.int .i64 0), (.slice none 0 0)]) 32 rfl Try.underlying67 info24 rfl (by decide) (by omega) (.slice Ao32 x5_1.length co32) x5_1 (⟨wrap64 (Go.bits .andNot .u8 (rd l0 x6_1) 128), t143⟩ : S24) [.int .i64 (wrap64 (Go.bits .andNot .u8 (rd l0 x6_1) 128)), .slice Ao35 t143.length co35] (fun _ => True) (fun k_ => some k_ = (.slice Ao35 t143.length co35 : Value).ownBlock) rfl rfl ?aP (fun k_ hk_ => ((Kd.R_mono (ok' := fun k_ => ((fun _ => True)) k_ ∧ some k_ ≠ (.slice Ao32 x5_1.length co32 : Value).ownBlock) (Kd.R_apart' (HO145.out) (Kd.S_typed HO_5.out) (by decide)) (fun k_ hk => ⟨trivial, hk.2⟩))).1 k_ hk_.symm) ?aF ?aO ?aB ?aS ?aL ?_; (case aP => exact k24_mkM _ _ _ (⟨wrap64 (Go.bits .andNot .u8 (rd l0 x6_1) 128), t143⟩ : S24) (Kd.R_mono (Kd.R_tight rfl (Kd.R_mono (ok' := fun k_ => ((fun _ => True)) k_ ∧ some k_ ≠ (.slice Ao32 x5_1.length co32 : Value).ownBlock) (Kd.R_apart' (HO145.out) (Kd.S_typed HO_5.out) (by decide)) (fun k_ hk => ⟨trivial, hk.2⟩))) (fun _ h_ => h_))); (case aB => exact (by repeat (first | (with_reducible first | exact HB.out | apply below_alloc | apply pw_below_drewN | apply below_drew1) | exact HB.out))); (case aF => exact (fun _ _ => trivial)); (case aO => exact (by (with_reducible repeat (first | apply Kd.S_alloc | apply Kd.S_drewN | apply Kd.S_drew)); exact Kd.S_mono HO_5.out (fun k_ hk => ⟨trivial, fun e_ => hk.2 e_⟩))); (case aS => exact (below_size (by repeat (first | (with_reducible first | exact HB.out | apply below_alloc | apply pw_below_drewN | apply below_drew1) | exact HB.out)))); (case aL => have := LMc31.out; omega); intro v147 w36 ho hb hg hat; rw [← Ny146.out] at ho; have n0_ := Aside0.mk (hb); have n1_ := Aside0.mk (ho); clear HB; clear HO_5; clear HO145; have HB := n0_; have HO148 := n1_; clear n0_ n1_; clear ho hb hg hat))
                                            repeat (go_quiet (first | (go_at_call 62; (try rw [show (((wrap64 (x6_1 + (wrap64 (4 + (Go.bits .or .i64 (Go.bits .or .i64 (wrap64 ((wrap64 (rd l0 (ji12))) * 65536)) (wrap64 ((wrap64 (rd l0 (ji15))) * 256))) (wrap64 (rd l0 (ji18)))))))) : Int).toNat - ((ji26) : Int).toNat) = ((l0.take ((wrap64 (x6_1 + (wrap64 (4 + (Go.bits .or .i64 (Go.bits .or .i64 (wrap64 ((wrap64 (rd l0 (ji12))) * 65536)) (wrap64 ((wrap64 (rd l0 (ji15))) * 256))) (wrap64 (rd l0 (ji18)))))))) : Int).toNat).drop ((ji26) : Int).toNat).length from (by have hz_ : (wrap64 (x6_1 + (wrap64 (4 + (Go.bits .or .i64 (Go.bits .or .i64 (wrap64 ((wrap64 (rd l0 (ji12))) * 65536)) (wrap64 ((wrap64 (rd l0 (ji15))) * 256))) (wrap64 (rd l0 (ji18)))))))) ≤ (l0.length : Int) := of_decide_eq_true (by first | (with_reducible assumption) | assumption); rw [List.length_drop, List.length_take, Nat.min_eq_left (Int.toNat_le.mpr hz_)])]); (with_reducible refine (bytes_Clone.calls _ _ ((l0.take ((wrap64 (x6_1 + (wrap64 (4 + (Go.bits .or .i64 (Go.bits .or .i64 (wrap64 ((wrap64 (rd l0 (ji12))) * 65536)) (wrap64 ((wrap64 (rd l0 (ji15))) * 256))) (wrap64 (rd l0 (ji18)))))))) : Int).toNat).drop ((ji26) : Int).toNat) t143 _ ?side1 ?side2 A30.out).mono ?_); (case side1 => repeat (first | exact (Kd.C_below HR142.out HB.out) | (with_reducible refine Kd.C_alloc ?_ _) | (with_reducible refine Kd.C_drewN ?_ _) | (with_reducible refine Kd.C_drew ?_))); (case side2 => exact HC142.out); rintro e w34 ⟨v144, rfl, ho0, hb⟩; have n0_ := Aside0.mk (Kd.S_elder' (by (with_reducible repeat (first | apply Kd.S_alloc | apply Kd.S_drewN | apply Kd.S_drew)); exact HO_5.out) (Kd.R_base ho0) hb); have n1_ := Aside0.mk (Kd.R_lower ho0 (below_size (by repeat (first | (with_reducible first | exact HB.out | apply below_alloc | apply pw_below_drewN | apply below_drew1) | exact HB.out)))); have n2_ := Aside0.mk (below_step (by repeat (first | (with_reducible first | exact HB.out | apply below_alloc | apply pw_below_drewN | apply below_drew1) | exact HB.out)) hb); clear HO_5; clear HB; have HO_5 := n0_; have HO145 := n1_; have HB := n2_; clear n0_ n1_ n2_; (try clear hb); (try clear hb2); (try clear hk); (try clear hi); (try clear ho0); obtain ⟨Ao35, co35, eo35⟩ := Kd.R_slice HO145.out; subst eo35) | ((with_reducible refine gate_builtin (b := .append) (xs := #[.tmp 82, .tmp 92]) rfl ?_); at_builtin; refine Kd.S_append k24 (w0 := w) w.heap.size rfl (.tmp 82) (.tmp 92) 67 24 (.agg #[(.int .i64 0), (.slice none 0 0)]) 32 rfl Try.underlying67 info24 rfl (by decide) (by omega) (.slice Ao32 x5_1.length co32) x5_1 (⟨wrap64 (Go.bits .andNot .u8 (rd l0 x6_1) 128), t143⟩ : S24) [.int .i64 (wrap64 (Go.bits .andNot .u8 (rd l0 x6_1) 128)), .slice Ao35 t143.length co35] (fun _ => True) (fun k_ => some k_ = (.slice Ao35 t143.length co35 : Value).ownBlock) rfl rfl ?aP (fun k_ hk_ => ((Kd.R_mono (ok' := fun k_ => ((fun _ => True)) k_ ∧ some k_ ≠ (.slice Ao32 x5_1.length co32 : Value).ownBlock) (Kd.R_apart' (HO145.out) (Kd.S_typed HO_5.out) (by decide)) (fun k_ hk => ⟨trivial, hk.2⟩))).1 k_ hk_.symm) ?aF ?aO ?aB ?aS ?aL ?_; (case aP => exact k24_mkM _ _ _ (⟨wrap64 (Go.bits .andNot .u8 (rd l0 x6_1) 128), t143⟩ : S24) (Kd.R_mono (Kd.R_tight rfl (Kd.R_mono (ok' := fun k_ => ((fun _ => True)) k_ ∧ some k_ ≠ (.slice Ao32 x5_1.length co32 : Value).ownBlock) (Kd.R_apart' (HO145.out) (Kd.S_typed HO_5.out) (by decide)) (fun k_ hk => ⟨trivial, hk.2⟩))) (fun _ h_ => h_))); (case aB => exact (by repeat (first | (with_reducible first | exact HB.out | apply below_alloc | apply pw_below_drewN | apply below_drew1) | exact HB.out))); (case aF => exact (fun _ _ => trivial)); (case aO => exact (by (with_reducible repeat (first | apply Kd.S_alloc | apply Kd.S_drewN | apply Kd.S_drew)); exact Kd.S_mono HO_5.out (fun k_ hk => ⟨trivial, fun e_ => hk.2 e_⟩))); (case aS => exact (below_size (by repeat (first | (with_reducible first | exact HB.out | apply below_alloc | apply pw_below_drewN | apply below_drew1) | exact HB.out)))); (case aL => have := LMc31.out; omega); intro v147 w36 ho hb hg hat; rw [← Ny146.out] at ho; have n0_ := Aside0.mk (hb); have n1_ := Aside0.mk (ho); clear HB; clear HO_5; clear HO145; have HB := n0_; have HO148 := n1_; clear n0_ n1_; clear ho hb hg hat)); try go_wp2_with (first | (go_at_call 62; (try rw [show (((wrap64 (x6_1 + (wrap64 (4 + (Go.bits .or .i64 (Go.bits .or .i64 (wrap64 ((wrap64 (rd l0 (ji12))) * 65536)) (wrap64 ((wrap64 (rd l0 (ji15))) * 256))) (wrap64 (rd l0 (ji18)))))))) : Int).toNat - ((ji26) : Int).toNat) = ((l0.take ((wrap64 (x6_1 + (wrap64 (4 + (Go.bits .or .i64 (Go.bits .or .i64 (wrap64 ((wrap64 (rd l0 (ji12))) * 65536)) (wrap64 ((wrap64 (rd l0 (ji15))) * 256))) (wrap64 (rd l0 (ji18)))))))) : Int).toNat).drop ((ji26) : Int).toNat).length from (by have hz_ : (wrap64 (x6_1 + (wrap64 (4 + (Go.bits .or .i64 (Go.bits .or .i64 (wrap64 ((wrap64 (rd l0 (ji12))) * 65536)) (wrap64 ((wrap64 (rd l0 (ji15))) * 256))) (wrap64 (rd l0 (ji18)))))))) ≤ (l0.length : Int) := of_decide_eq_true (by first | (with_reducible assumption) | assumption); rw [List.length_drop, List.length_take, Nat.min_eq_left (Int.toNat_le.mpr hz_)])]); (with_reducible refine (bytes_Clone.calls _ _ ((l0.take ((wrap64 (x6_1 + (wrap64 (4 + (Go.bits .or .i64 (Go.bits .or .i64 (wrap64 ((wrap64 (rd l0 (ji12))) * 65536)) (wrap64 ((wrap64 (rd l0 (ji15))) * 256))) (wrap64 (rd l0 (ji18)))))))) : Int).toNat).drop ((ji26) : Int).toNat) t143 _ ?side1 ?side2 A30.out).mono ?_); (case side1 => repeat (first | exact (Kd.C_below HR142.out HB.out) | (with_reducible refine Kd.C_alloc ?_ _) | (with_reducible refine Kd.C_drewN ?_ _) | (with_reducible refine Kd.C_drew ?_))); (case side2 => exact HC142.out); rintro e w34 ⟨v144, rfl, ho0, hb⟩; have n0_ := Aside0.mk (Kd.S_elder' (by (with_reducible repeat (first | apply Kd.S_alloc | apply Kd.S_drewN | apply Kd.S_drew)); exact HO_5.out) (Kd.R_base ho0) hb); have n1_ := Aside0.mk (Kd.R_lower ho0 (below_size (by repeat (first | (with_reducible first | exact HB.out | apply below_alloc | apply pw_below_drewN | apply below_drew1) | exact HB.out)))); have n2_ := Aside0.mk (below_step (by repeat (first | (with_reducible first | exact HB.out | apply below_alloc | apply pw_below_drewN | apply below_drew1) | exact HB.out)) hb); clear HO_5; clear HB; have HO_5 := n0_; have HO145 := n1_; have HB := n2_; clear n0_ n1_ n2_; (try clear hb); (try clear hb2); (try clear hk); (try clear hi); (try clear ho0); obtain ⟨Ao35, co35, eo35⟩ := Kd.R_slice HO145.out; subst eo35) | ((with_reducible refine gate_builtin (b := .append) (xs := #[.tmp 82, .tmp 92]) rfl ?_); at_builtin; refine Kd.S_append k24 (w0 := w) w.heap.size rfl (.tmp 82) (.tmp 92) 67 24 (.agg #[(.int .i64 0), (.slice none 0 0)]) 32 rfl Try.underlying67 info24 rfl (by decide) (by omega) (.slice Ao32 x5_1.length co32) x5_1 (⟨wrap64 (Go.bits .andNot .u8 (rd l0 x6_1) 128), t143⟩ : S24) [.int .i64 (wrap64 (Go.bits .andNot .u8 (rd l0 x6_1) 128)), .slice Ao35 t143.length co35] (fun _ => True) (fun k_ => some k_ = (.slice Ao35 t143.length co35 : Value).ownBlock) rfl rfl ?aP (fun k_ hk_ => ((Kd.R_mono (ok' := fun k_ => ((fun _ => True)) k_ ∧ some k_ ≠ (.slice Ao32 x5_1.length co32 : Value).ownBlock) (Kd.R_apart' (HO145.out) (Kd.S_typed HO_5.out) (by decide)) (fun k_ hk => ⟨trivial, hk.2⟩))).1 k_ hk_.symm) ?aF ?aO ?aB ?aS ?aL ?_; (case aP => exact k24_mkM _ _ _ (⟨wrap64 (Go.bits .andNot .u8 (rd l0 x6_1) 128), t143⟩ : S24) (Kd.R_mono (Kd.R_tight rfl (Kd.R_mono (ok' := fun k_ => ((fun _ => True)) k_ ∧ some k_ ≠ (.slice Ao32 x5_1.length co32 : Value).ownBlock) (Kd.R_apart' (HO145.out) (Kd.S_typed HO_5.out) (by decide)) (fun k_ hk => ⟨trivial, hk.2⟩))) (fun _ h_ => h_))); (case aB => exact (by repeat (first | (with_reducible first | exact HB.out | apply below_alloc | apply pw_below_drewN | apply below_drew1) | exact HB.out))); (case aF => exact (fun _ _ => trivial)); (case aO => exact (by (with_reducible repeat (first | apply Kd.S_alloc | apply Kd.S_drewN | apply Kd.S_drew)); exact Kd.S_mono HO_5.out (fun k_ hk => ⟨trivial, fun e_ => hk.2 e_⟩))); (case aS => exact (below_size (by repeat (first | (with_reducible first | exact HB.out | apply below_alloc | apply pw_below_drewN | apply below_drew1) | exact HB.out)))); (case aL => have := LMc31.out; omega); intro v147 w36 ho hb hg hat; rw [← Ny146.out] at ho; have n0_ := Aside0.mk (hb); have n1_ := Aside0.mk (ho); clear HB; clear HO_5; clear HO145; have HB := n0_; have HO148 := n1_; clear n0_ n1_; clear ho hb hg hat)))
                                            go_roundg k1
                                            case measure => have := HK1.out; omega
                                            case rel => exact ⟨(y146), (wrap64 (x6_1 + (wrap64 (4 + (Go.bits .or .i64 (Go.bits .or .i64 (wrap64 ((wrap64 (rd l0 (ji12))) * 65536)) (wrap64 ((wrap64 (rd l0 (ji15))) * 256))) (wrap64 (rd l0 (ji18)))))))), (((Go.bits .and .u8 (rd l0 x6_1) 128) == 0)), (by first | rfl | (simp; done) | (simp only [← hji12, ← hji15, ← hji18] <;> (first | rfl | simp)) | (simp [*]; done)), (by first | rfl | (simp; done) | (simp [*]; done)), H', ⟨by have := HK1.out; omega⟩, ⟨by (with_reducible repeat (first | apply Kd.S_alloc | apply Kd.S_drewN | apply Kd.S_drew)); exact HO148.out⟩, ⟨by repeat (first | (with_reducible first | exact HB.out | apply below_alloc | apply pw_below_drewN | apply below_drew1) | exact HB.out)⟩⟩
                                          · rw [if_neg c31] at H
                                            exact absurd H (by simp)
                                        · rw [if_neg c29] at H
                                          exact absurd H (by simp)
                                      · rw [if_neg c28] at H
                                        exact absurd H (by simp)
                                    · rw [if_neg c27] at H
                                      exact absurd H (by simp)
                            · rw [if_neg c20] at H
                              exact absurd H (by simp)
                          · rw [if_neg c19] at H
                            exact absurd H (by simp)
                        · rw [if_neg c17] at H
                          exact absurd H (by simp)
                      · rw [if_neg c16] at H
                        exact absurd H (by simp)
                    · rw [if_neg c14] at H
                      exact absurd H (by simp)
                  · rw [if_neg c13] at H
                    exact absurd H (by simp)
                · rw [if_neg c11] at H
                  exact absurd H (by simp)
              · rw [if_neg c10] at H
                exact absurd H (by simp)
          · replace c8 := Bool.eq_false_iff.mpr c8
            subst c8
            have H1 : (some (x5_1, x6_1, 0)) = some (r1, r2, r3) := by rw [if_neg (show ¬ (false = true) by decide)] at H; exact H
            clear H
            have H := H1
            clear H1
            simp only [Option.some.injEq, Prod.mk.injEq] at H
            obtain ⟨rfl, rfl, rfl⟩ := H
            go_wp2
            repeat (go_quiet (fail); try go_wp2)
            go_ret3
            exact ⟨_, by first | rfl | (simp [errW_none, errW_some] <;> rfl) | (simp [*, errW_none, errW_some] <;> rfl), by (with_reducible repeat (first | apply Kd.S_alloc | apply Kd.S_drewN | apply Kd.S_drew)); exact HO_5.out, by repeat (first | (with_reducible first | exact HB.out | apply below_alloc | apply pw_below_drewN | apply below_drew1) | exact HB.out)⟩
    · replace c4 := Bool.eq_false_iff.mpr c4
      subst c4
      have H1 : (some (([] : List (S24)), 0, 9)) = some (r1, r2, r3) := by rw [if_neg (show ¬ (false = true) by decide)] at H; exact H
      clear H
      have H := H1
      clear H1
      simp only [Option.some.injEq, Prod.mk.injEq] at H
      obtain ⟨rfl, rfl, rfl⟩ := H
      go_enter Try.func42, Try.ntmps42
      have hyy_ := Ny133.out
      subst hyy_
      have kc_ := fun (w : World) (C : Array Value) (n c : Nat) => Lib.run_convert_bytes_const (P := Try.prog) w 22 5 C n c Try.underlying22 Try.underlying5
      go_wp2_with (first | (go_at_call 75; (with_reducible refine (hp_lit A0 c0 l0 false _ w.heap.size (Kd.C_alloc HR0.out _) HC0.out (blk_new w _) A3.out).mono ?_); rintro e w' ⟨rfl, ⟨nd, rfl⟩⟩; clear kc_))
      go_ret3
      exact ⟨_, by first | rfl | (simp [errW_none, errW_some] <;> rfl) | (simp [*, errW_none, errW_some] <;> rfl), by first | exact Kd.S_nil _ _ _ _ _ | exact Kd.N_nil _ _ _ _ _ | exact Kd.V_nil _ _ _ _ _ | exact Kd.Q_nil _ _ _ _ _ | exact Kd.R_nil _ _ _ _ _, by repeat (first | (with_reducible first | exact HB.out | apply below_alloc | apply pw_below_drewN | apply below_drew1) | exact HB.out)⟩

/-! ### serinetteref18_Metas: function 44 -/
def serinetteref18_Metas.l0 : Nat → List (S24) → List (S24) → Int → Option (Bool)
  | 0, _, _, _ => none
  | k + 1, x0, x1, x5 => if x5 < (x0.length : Int) then (if 0 ≤ x5 then (if x5 < (x1.length : Int) then (if ((rd_T24 x0 x5).f0) = ((rd_T24 x1 x5).f0) then ((serinetteref01_Same.f k ((rd_T24 x0 x5).f1) ((rd_T24 x1 x5).f1)).bind fun t153 => (if t153 = true then (serinetteref18_Metas.l0 k x0 x1 (wrap64 (x5 + 1))) else (some false))) else (some false)) else (none)) else (none)) else (some true)
def serinetteref18_Metas.f (k : Nat) (l0 : List (S24)) (l1 : List (S24)) : Option (Bool) := if (l0.length : Int) = (l1.length : Int) then (serinetteref18_Metas.l0 k l0 l1 0) else (some false)
theorem serinetteref18_Metas.mono_l : ∀ k, (∀ y0 y1 y2, LeO (serinetteref18_Metas.l0 k y0 y1 y2) (serinetteref18_Metas.l0 (k + 1) y0 y1 y2))
  | 0 => fun _ _ _ r h => by simp [serinetteref18_Metas.l0] at h
  | k + 1 => by
    have ih0 := serinetteref18_Metas.mono_l k
    · intro y0 y1 y2
      unfold serinetteref18_Metas.l0
      repeat' first
      | (with_reducible exact ih0 _ _ _)
      | (with_reducible exact serinetteref01_Same.mono _ _ _)
      | (with_reducible exact LeO.refl _)
      | (with_reducible exact LeO.none _)
      | (with_reducible refine LeO.ite ?_ ?_)
      | (with_reducible refine LeO.bind ?_ (fun _ => ?_))
      | exact ih0 _ _ _
      | exact serinetteref01_Same.mono _ _ _
      | exact LeO.none _
      | refine LeO.ite ?_ ?_
      | refine LeO.bind ?_ (fun _ => ?_)
theorem serinetteref18_Metas.mono : ∀ a0 a1 k, LeO (serinetteref18_Metas.f k a0 a1) (serinetteref18_Metas.f (k + 1) a0 a1) := by
  intro a0 a1 k
  have ih0 := serinetteref18_Metas.mono_l k
  unfold serinetteref18_Metas.f
  repeat' first
      | (with_reducible exact ih0 _ _ _)
      | (with_reducible exact serinetteref01_Same.mono _ _ _)
      | (with_reducible exact LeO.refl _)
      | (with_reducible exact LeO.none _)
      | (with_reducible refine LeO.ite ?_ ?_)
      | (with_reducible refine LeO.bind ?_ (fun _ => ?_))
      | exact ih0 _ _ _
      | exact serinetteref01_Same.mono _ _ _
      | exact LeO.none _
      | refine LeO.ite ?_ ?_
      | refine LeO.bind ?_ (fun _ => ?_)
set_option maxHeartbeats 8000000 in
set_option maxRecDepth 100000 in
theorem serinetteref18_Metas.calls (k : Nat) (A0 : Option Addr) (c0 : Nat) (l0 : List (S24)) (A1 : Option Addr) (c1 : Nat) (l1 : List (S24)) (r : Bool) (w : World) (hr0 : Kd.C k24 w A0 l0.length l0) (hc0 : l0.length ≤ c0) (hr1 : Kd.C k24 w A1 l1.length l1) (hc1 : l1.length ≤ c1) (h : serinetteref18_Metas.f k l0 l1 = some r) :
    Calls Try.prog 44 #[.slice A0 l0.length c0, .slice A1 l1.length c1] w fun e w' => e = .returned (.bool r) ∧ Drawn0 w w' := by
  have HR0 := Aside0.mk hr0
  have HC0 := Aside0.mk hc0
  clear hr0 hc0
  have HR1 := Aside0.mk hr1
  have HC1 := Aside0.mk hc1
  clear hr1 hc1
  have H : (if (l0.length : Int) = (l1.length : Int) then (serinetteref18_Metas.l0 k l0 l1 0) else (some false)) = some r := h
  clear h
  by_cases c3 : (l0.length : Int) = (l1.length : Int)
  · rw [if_pos c3] at H
    have c3b0 : ((l0.length : Int) == (l1.length : Int)) = true := beq_iff_eq.mpr c3
    have c3b1 : ((l0.length : Int) != (l1.length : Int)) = false := bne_eq_false_iff_eq.mpr c3
    have c3b2 : (l0.length == l1.length) = true := by first | simpa using c3 | (simp at c3 ⊢; omega)
    clear c3
    have H' := Aside0.mk H
    clear H
    go_enter Try.func44, Try.ntmps44
    go_wp2
    repeat (go_quiet (fail); try go_wp2)
    go_loopg [5] k (fun kq v5 w' => ∃ (x5_1 : Int), v5 = .int .i64 x5_1 ∧ Aside0 (serinetteref18_Metas.l0 kq l0 l1 x5_1 = some r) ∧ Aside0 (kq ≤ k) ∧ Drawn0 w w')
    case atStart => exact ⟨(0), (by first | rfl | (simp; done) | (simp [*]; done)), H', ⟨Nat.le_refl _⟩, by repeat (first | exact Drawn0.refl _ | apply Drawn0.step)⟩
    case round =>
      clear H'
      try clear c1
      try clear p2
      try clear c3
      try clear c3b0
      try clear c3b1
      try clear c3b2
      obtain ⟨x5_1, rfl, HA, HK1, ⟨m1, rfl⟩⟩ := hrel
      cases gk with
      | zero => exact absurd HA.out (by simp [serinetteref18_Metas.l0])
      | succ k1 =>
        have H := HA.out
        clear HA
        simp only [serinetteref18_Metas.l0] at H
        by_cases c4 : x5_1 < (l0.length : Int)
        · rw [if_pos c4] at H
          have c4b0 : decide (x5_1 < (l0.length : Int)) = true := decide_eq_true c4
          clear c4
          by_cases c5 : 0 ≤ x5_1
          · rw [if_pos c5] at H
            have c5b0 : decide (0 ≤ x5_1) = true := decide_eq_true c5
            clear c5
            by_cases c6 : x5_1 < (l1.length : Int)
            · rw [if_pos c6] at H
              have c6b0 : decide (x5_1 < (l1.length : Int)) = true := decide_eq_true c6
              clear c6
              by_cases c7 : ((rd_T24 l0 x5_1).f0) = ((rd_T24 l1 x5_1).f0)
              · rw [if_pos c7] at H
                have c7b0 : (((rd_T24 l0 x5_1).f0) == ((rd_T24 l1 x5_1).f0)) = true := beq_iff_eq.mpr c7
                have c7b1 : (((rd_T24 l0 x5_1).f0) != ((rd_T24 l1 x5_1).f0)) = false := bne_eq_false_iff_eq.mpr c7
                clear c7
                replace H := Option.bind_eq_some_iff.mp H
                obtain ⟨t153, A80, H⟩ := H
                replace H : (if t153 = true then (serinetteref18_Metas.l0 k1 l0 l1 (wrap64 (x5_1 + 1))) else (some false)) = some r := H
                have A8 := Aside0.mk A80
                clear A80
                by_cases c9 : t153 = true
                · subst c9
                  have H1 : (serinetteref18_Metas.l0 k1 l0 l1 (wrap64 (x5_1 + 1))) = some r := by rw [if_pos rfl] at H; exact H
                  clear H
                  have H := H1
                  clear H1
                  have H' := Aside0.mk H
                  clear H
                  have p149 : 0 ≤ (x5_1 : Int) := of_decide_eq_true (by first | (with_reducible assumption) | assumption)
                  have q149 : x5_1 < (l0.length : Int) := of_decide_eq_true (by first | (with_reducible assumption) | assumption)
                  obtain ⟨ad149, A149_1, c149_1, e149, hx149_0, hx149_1, hl149_1, hi149_1⟩ := at_T24 HR0.out x5_1 p149 q149
                  cases e149
                  have HR149_1 := Aside0.mk hi149_1
                  have HC149_1 := Aside0.mk hl149_1
                  clear hi149_1 hl149_1
                  replace p149 := eq_true p149
                  replace q149 := eq_true q149
                  have p150 : 0 ≤ (x5_1 : Int) := of_decide_eq_true (by first | (with_reducible assumption) | assumption)
                  have q150 : x5_1 < (l1.length : Int) := of_decide_eq_true (by first | (with_reducible assumption) | assumption)
                  obtain ⟨ad150, A150_1, c150_1, e150, hx150_0, hx150_1, hl150_1, hi150_1⟩ := at_T24 HR1.out x5_1 p150 q150
                  cases e150
                  have HR150_1 := Aside0.mk hi150_1
                  have HC150_1 := Aside0.mk hl150_1
                  clear hi150_1 hl150_1
                  replace p150 := eq_true p150
                  replace q150 := eq_true q150
                  have p151 : 0 ≤ (x5_1 : Int) := of_decide_eq_true (by first | (with_reducible assumption) | assumption)
                  have q151 : x5_1 < (l0.length : Int) := of_decide_eq_true (by first | (with_reducible assumption) | assumption)
                  obtain ⟨ad151, A151_1, c151_1, e151, hx151_0, hx151_1, hl151_1, hi151_1⟩ := at_T24 HR0.out x5_1 p151 q151
                  obtain rfl : ad149 = ad151 := (by injection e151)
                  have HR151_1 := Aside0.mk hi151_1
                  have HC151_1 := Aside0.mk hl151_1
                  clear hi151_1 hl151_1
                  replace p151 := eq_true p151
                  replace q151 := eq_true q151
                  have ea_ := Option.some.inj (hx149_1.symm.trans hx151_1)
                  injection ea_ with ea_ en_ ec_
                  subst ea_
                  subst ec_
                  clear en_
                  have p152 : 0 ≤ (x5_1 : Int) := of_decide_eq_true (by first | (with_reducible assumption) | assumption)
                  have q152 : x5_1 < (l1.length : Int) := of_decide_eq_true (by first | (with_reducible assumption) | assumption)
                  obtain ⟨ad152, A152_1, c152_1, e152, hx152_0, hx152_1, hl152_1, hi152_1⟩ := at_T24 HR1.out x5_1 p152 q152
                  obtain rfl : ad150 = ad152 := (by injection e152)
                  have HR152_1 := Aside0.mk hi152_1
                  have HC152_1 := Aside0.mk hl152_1
                  clear hi152_1 hl152_1
                  replace p152 := eq_true p152
                  replace q152 := eq_true q152
                  have ea_ := Option.some.inj (hx150_1.symm.trans hx152_1)
                  injection ea_ with ea_ en_ ec_
                  subst ea_
                  subst ec_
                  clear en_
                  go_wp2_with (first | (go_at_call 21; (with_reducible refine (serinetteref01_Same.calls k1 _ _ ((rd_T24 l0 x5_1).f1) _ _ ((rd_T24 l1 x5_1).f1) true _ ?side1 ?side2 ?side3 ?side4 A8.out).mono ?_); (case side1 => repeat (first | exact HR151_1.out | (with_reducible refine Kd.C_alloc ?_ _) | (with_reducible refine Kd.C_drewN ?_ _) | (with_reducible refine Kd.C_drew ?_))); (case side2 => exact HC151_1.out); (case side3 => repeat (first | exact HR152_1.out | (with_reducible refine Kd.C_alloc ?_ _) | (with_reducible refine Kd.C_drewN ?_ _) | (with_reducible refine Kd.C_drew ?_))); (case side4 => exact HC152_1.out); rintro e w' ⟨rfl, ⟨nd, rfl⟩⟩; (try first | exact ⟨rfl, _, World.drewN_drewN _ _ _⟩ | exact ⟨rfl, _, Eq.trans (World.drewN_drewN _ _ _) (congrArg (World.drewN _) (Nat.add_assoc _ _ _))⟩)))
                  repeat (go_quiet (first | (go_at_call 21; (with_reducible refine (serinetteref01_Same.calls k1 _ _ ((rd_T24 l0 x5_1).f1) _ _ ((rd_T24 l1 x5_1).f1) true _ ?side1 ?side2 ?side3 ?side4 A8.out).mono ?_); (case side1 => repeat (first | exact HR151_1.out | (with_reducible refine Kd.C_alloc ?_ _) | (with_reducible refine Kd.C_drewN ?_ _) | (with_reducible refine Kd.C_drew ?_))); (case side2 => exact HC151_1.out); (case side3 => repeat (first | exact HR152_1.out | (with_reducible refine Kd.C_alloc ?_ _) | (with_reducible refine Kd.C_drewN ?_ _) | (with_reducible refine Kd.C_drew ?_))); (case side4 => exact HC152_1.out); rintro e w' ⟨rfl, ⟨nd, rfl⟩⟩; (try first | exact ⟨rfl, _, World.drewN_drewN _ _ _⟩ | exact ⟨rfl, _, Eq.trans (World.drewN_drewN _ _ _) (congrArg (World.drewN _) (Nat.add_assoc _ _ _))⟩))); try go_wp2_with (first | (go_at_call 21; (with_reducible refine (serinetteref01_Same.calls k1 _ _ ((rd_T24 l0 x5_1).f1) _ _ ((rd_T24 l1 x5_1).f1) true _ ?side1 ?side2 ?side3 ?side4 A8.out).mono ?_); (case side1 => repeat (first | exact HR151_1.out | (with_reducible refine Kd.C_alloc ?_ _) | (with_reducible refine Kd.C_drewN ?_ _) | (with_reducible refine Kd.C_drew ?_))); (case side2 => exact HC151_1.out); (case side3 => repeat (first | exact HR152_1.out | (with_reducible refine Kd.C_alloc ?_ _) | (with_reducible refine Kd.C_drewN ?_ _) | (with_reducible refine Kd.C_drew ?_))); (case side4 => exact HC152_1.out); rintro e w' ⟨rfl, ⟨nd, rfl⟩⟩; (try first | exact ⟨rfl, _, World.drewN_drewN _ _ _⟩ | exact ⟨rfl, _, Eq.trans (World.drewN_drewN _ _ _) (congrArg (World.drewN _) (Nat.add_assoc _ _ _))⟩))))
                  go_roundg k1
                  case measure => have := HK1.out; omega
                  case rel => exact ⟨(wrap64 (x5_1 + 1)), (by first | rfl | (simp; done) | (simp [*]; done)), H', ⟨by have := HK1.out; omega⟩, by repeat (first | exact Drawn0.refl _ | apply Drawn0.step)⟩
                · replace c9 := Bool.eq_false_iff.mpr c9
                  subst c9
                  have H1 : (some false) = some r := by rw [if_neg (show ¬ (false = true) by decide)] at H; exact H
                  clear H
                  have H := H1
                  clear H1
                  obtain rfl := Option.some.inj H
                  have p149 : 0 ≤ (x5_1 : Int) := of_decide_eq_true (by first | (with_reducible assumption) | assumption)
                  have q149 : x5_1 < (l0.length : Int) := of_decide_eq_true (by first | (with_reducible assumption) | assumption)
                  obtain ⟨ad149, A149_1, c149_1, e149, hx149_0, hx149_1, hl149_1, hi149_1⟩ := at_T24 HR0.out x5_1 p149 q149
                  cases e149
                  have HR149_1 := Aside0.mk hi149_1
                  have HC149_1 := Aside0.mk hl149_1
                  clear hi149_1 hl149_1
                  replace p149 := eq_true p149
                  replace q149 := eq_true q149
                  have p150 : 0 ≤ (x5_1 : Int) := of_decide_eq_true (by first | (with_reducible assumption) | assumption)
                  have q150 : x5_1 < (l1.length : Int) := of_decide_eq_true (by first | (with_reducible assumption) | assumption)
                  obtain ⟨ad150, A150_1, c150_1, e150, hx150_0, hx150_1, hl150_1, hi150_1⟩ := at_T24 HR1.out x5_1 p150 q150
                  cases e150
                  have HR150_1 := Aside0.mk hi150_1
                  have HC150_1 := Aside0.mk hl150_1
                  clear hi150_1 hl150_1
                  replace p150 := eq_true p150
                  replace q150 := eq_true q150
                  have p151 : 0 ≤ (x5_1 : Int) := of_decide_eq_true (by first | (with_reducible assumption) | assumption)
                  have q151 : x5_1 < (l0.length : Int) := of_decide_eq_true (by first | (with_reducible assumption) | assumption)
                  obtain ⟨ad151, A151_1, c151_1, e151, hx151_0, hx151_1, hl151_1, hi151_1⟩ := at_T24 HR0.out x5_1 p151 q151
                  obtain rfl : ad149 = ad151 := (by injection e151)
                  have HR151_1 := Aside0.mk hi151_1
                  have HC151_1 := Aside0.mk hl151_1
                  clear hi151_1 hl151_1
                  replace p151 := eq_true p151
                  replace q151 := eq_true q151
                  have ea_ := Option.some.inj (hx149_1.symm.trans hx151_1)
                  injection ea_ with ea_ en_ ec_
                  subst ea_
                  subst ec_
                  clear en_
                  have p152 : 0 ≤ (x5_1 : Int) := of_decide_eq_true (by first | (with_reducible assumption) | assumption)
                  have q152 : x5_1 < (l1.length : Int) := of_decide_eq_true (by first | (with_reducible assumption) | assumption)
                  obtain ⟨ad152, A152_1, c152_1, e152, hx152_0, hx152_1, hl152_1, hi152_1⟩ := at_T24 HR1.out x5_1 p152 q152
                  obtain rfl : ad150 = ad152 := (by injection e152)
                  have HR152_1 := Aside0.mk hi152_1
                  have HC152_1 := Aside0.mk hl152_1
                  clear hi152_1 hl152_1
                  replace p152 := eq_true p152
                  replace q152 := eq_true q152
                  have ea_ := Option.some.inj (hx150_1.symm.trans hx152_1)
                  injection ea_ with ea_ en_ ec_
                  subst ea_
                  subst ec_
                  clear en_
                  go_wp2_with (first | (go_at_call 21; (with_reducible refine (serinetteref01_Same.calls k1 _ _ ((rd_T24 l0 x5_1).f1) _ _ ((rd_T24 l1 x5_1).f1) false _ ?side1 ?side2 ?side3 ?side4 A8.out).mono ?_); (case side1 => repeat (first | exact HR151_1.out | (with_reducible refine Kd.C_alloc ?_ _) | (with_reducible refine Kd.C_drewN ?_ _) | (with_reducible refine Kd.C_drew ?_))); (case side2 => exact HC151_1.out); (case side3 => repeat (first | exact HR152_1.out | (with_reducible refine Kd.C_alloc ?_ _) | (with_reducible refine Kd.C_drewN ?_ _) | (with_reducible refine Kd.C_drew ?_))); (case side4 => exact HC152_1.out); rintro e w' ⟨rfl, ⟨nd, rfl⟩⟩; (try first | exact ⟨rfl, _, World.drewN_drewN _ _ _⟩ | exact ⟨rfl, _, Eq.trans (World.drewN_drewN _ _ _) (congrArg (World.drewN _) (Nat.add_assoc _ _ _))⟩)))
                  repeat (go_quiet (first | (go_at_call 21; (with_reducible refine (serinetteref01_Same.calls k1 _ _ ((rd_T24 l0 x5_1).f1) _ _ ((rd_T24 l1 x5_1).f1) false _ ?side1 ?side2 ?side3 ?side4 A8.out).mono ?_); (case side1 => repeat (first | exact HR151_1.out | (with_reducible refine Kd.C_alloc ?_ _) | (with_reducible refine Kd.C_drewN ?_ _) | (with_reducible refine Kd.C_drew ?_))); (case side2 => exact HC151_1.out); (case side3 => repeat (first | exact HR152_1.out | (with_reducible refine Kd.C_alloc ?_ _) | (with_reducible refine Kd.C_drewN ?_ _) | (with_reducible refine Kd.C_drew ?_))); (case side4 => exact HC152_1.out); rintro e w' ⟨rfl, ⟨nd, rfl⟩⟩; (try first | exact ⟨rfl, _, World.drewN_drewN _ _ _⟩ | exact ⟨rfl, _, Eq.trans (World.drewN_drewN _ _ _) (congrArg (World.drewN _) (Nat.add_assoc _ _ _))⟩))); try go_wp2_with (first | (go_at_call 21; (with_reducible refine (serinetteref01_Same.calls k1 _ _ ((rd_T24 l0 x5_1).f1) _ _ ((rd_T24 l1 x5_1).f1) false _ ?side1 ?side2 ?side3 ?side4 A8.out).mono ?_); (case side1 => repeat (first | exact HR151_1.out | (with_reducible refine Kd.C_alloc ?_ _) | (with_reducible refine Kd.C_drewN ?_ _) | (with_reducible refine Kd.C_drew ?_))); (case side2 => exact HC151_1.out); (case side3 => repeat (first | exact HR152_1.out | (with_reducible refine Kd.C_alloc ?_ _) | (with_reducible refine Kd.C_drewN ?_ _) | (with_reducible refine Kd.C_drew ?_))); (case side4 => exact HC152_1.out); rintro e w' ⟨rfl, ⟨nd, rfl⟩⟩; (try first | exact ⟨rfl, _, World.drewN_drewN _ _ _⟩ | exact ⟨rfl, _, Eq.trans (World.drewN_drewN _ _ _) (congrArg (World.drewN _) (Nat.add_assoc _ _ _))⟩))))
                  go_ret
                  exact ⟨by first | rfl | (simp; done) | (simp [*]; done), by repeat (first | exact Drawn0.refl _ | apply Drawn0.step)⟩
              · rw [if_neg c7] at H
                have c7b0 : (((rd_T24 l0 x5_1).f0) == ((rd_T24 l1 x5_1).f0)) = false := beq_eq_false_iff_ne.mpr c7
                have c7b1 : (((rd_T24 l0 x5_1).f0) != ((rd_T24 l1 x5_1).f0)) = true := bne_iff_ne.mpr c7
                obtain rfl := Option.some.inj H
                have p149 : 0 ≤ (x5_1 : Int) := of_decide_eq_true (by first | (with_reducible assumption) | assumption)
                have q149 : x5_1 < (l0.length : Int) := of_decide_eq_true (by first | (with_reducible assumption) | assumption)
                obtain ⟨ad149, A149_1, c149_1, e149, hx149_0, hx149_1, hl149_1, hi149_1⟩ := at_T24 HR0.out x5_1 p149 q149
                cases e149
                have HR149_1 := Aside0.mk hi149_1
                have HC149_1 := Aside0.mk hl149_1
                clear hi149_1 hl149_1
                replace p149 := eq_true p149
                replace q149 := eq_true q149
                have p150 : 0 ≤ (x5_1 : Int) := of_decide_eq_true (by first | (with_reducible assumption) | assumption)
                have q150 : x5_1 < (l1.length : Int) := of_decide_eq_true (by first | (with_reducible assumption) | assumption)
                obtain ⟨ad150, A150_1, c150_1, e150, hx150_0, hx150_1, hl150_1, hi150_1⟩ := at_T24 HR1.out x5_1 p150 q150
                cases e150
                have HR150_1 := Aside0.mk hi150_1
                have HC150_1 := Aside0.mk hl150_1
                clear hi150_1 hl150_1
                replace p150 := eq_true p150
                replace q150 := eq_true q150
                go_wp2
                repeat (go_quiet (fail); try go_wp2)
                go_ret
                exact ⟨by first | rfl | (simp; done) | (simp [*]; done), by repeat (first | exact Drawn0.refl _ | apply Drawn0.step)⟩
            · rw [if_neg c6] at H
              exact absurd H (by simp)
          · rw [if_neg c5] at H
            exact absurd H (by simp)
        · rw [if_neg c4] at H
          have c4b0 : decide (x5_1 < (l0.length : Int)) = false := decide_eq_false c4
          clear c4
          obtain rfl := Option.some.inj H
          go_wp2
          repeat (go_quiet (fail); try go_wp2)
          go_ret
          exact ⟨by first | rfl | (simp; done) | (simp [*]; done), by repeat (first | exact Drawn0.refl _ | apply Drawn0.step)⟩
  · rw [if_neg c3] at H
    have c3b0 : ((l0.length : Int) == (l1.length : Int)) = false := beq_eq_false_iff_ne.mpr c3
    have c3b1 : ((l0.length : Int) != (l1.length : Int)) = true := bne_iff_ne.mpr c3
    have c3b2 : (l0.length == l1.length) = false := by first | simpa using c3 | (simp at c3 ⊢; omega)
    obtain rfl := Option.some.inj H
    go_enter Try.func44, Try.ntmps44
    go_wp2
    repeat (go_quiet (fail); try go_wp2)
    go_ret
    exact ⟨by first | rfl | (simp; done) | (simp [*]; done), by repeat (first | exact Drawn0.refl _ | apply Drawn0.step)⟩

end Go.Proofs.Ytpeejdmbnlhjmaa.PMetaAgain
